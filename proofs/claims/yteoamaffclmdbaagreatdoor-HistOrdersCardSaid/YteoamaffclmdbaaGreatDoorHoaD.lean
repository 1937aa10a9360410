import Derived.Laws.RangeString
import Derived.RangeFuncBox
import Derived.RangeFuncFrom
import Derived.RangeFuncLeaves
import Derived.Shelf.Abstract
import Derived.WalkKit
import Derived.OwnWalkIn
import Derived.TacticsInMore
import Derived.LoopNIn
import Derived.LoopIn
import Derived.Maps.AppendAt
import Derived.RangeFuncNested
import Derived.Test.YteoamaffclmdbaaGreatDoorHoaC
set_option linter.unusedSimpArgs false
set_option linter.unusedVariables false
set_option linter.unusedSectionVars false
set_option linter.defProp false
open Go.Proofs.Tryz
namespace Go.Proofs.YteoamaffclmdbaaGreatDoor
open Go Go.Abs
def Rj:Nat->Option eG
 |251=>some ac6
 |252=>some ac7
 |253=>some ac8
 |254=>some ac9
 |257=>some ada
 |258=>some adb
 |259=>some Sd
 |262=>some ade
 |263=>some ak9
 |264=>some adf
 |265=>some adg
 |266=>some adh
 |267=>some ala
 |268=>some adi
 |271=>some MW
 |273=>some alc
 |275=>some MX
 |278=>some adj
 |284=>some adk
 |285=>some adl
 |287=>some ald
 |299=>some ale
 |302=>some MY
 |325=>some IT
 |_=>none
def Ri:Nat->Option eG
 |164=>some ach
 |166=>some aci
 |167=>some acj
 |168=>some ack
 |169=>some acm
 |170=>some acn
 |171=>some aco
 |172=>some acp
 |173=>some MS
 |174=>some MT
 |175=>some R1
 |176=>some IM
 |177=>some IP
 |178=>some acq
 |179=>some acr
 |180=>some acs
 |181=>some acu
 |182=>some R2
 |183=>some R3
 |184=>some R4
 |185=>some R5
 |186=>some acv
 |187=>some acw
 |190=>some acx
 |191=>some acy
 |192=>some acz
 |193=>some acA
 |194=>some acB
 |195=>some R7
 |196=>some acC
 |197=>some acD
 |198=>some IQ
 |199=>some acE
 |200=>some R8
 |201=>some acF
 |202=>some acG
 |203=>some acH
 |204=>some acI
 |206=>some acJ
 |208=>some ak0
 |209=>some acK
 |210=>some acL
 |211=>some acM
 |212=>some acN
 |213=>some acO
 |216=>some ak2
 |217=>some acP
 |219=>some acQ
 |221=>some acR
 |222=>some acS
 |223=>some acT
 |224=>some acU
 |225=>some acV
 |226=>some acW
 |230=>some R9
 |232=>some Sa
 |233=>some acX
 |234=>some Sb
 |235=>some acY
 |236=>some MU
 |237=>some MV
 |238=>some acZ
 |239=>some ac0
 |240=>some ac1
 |244=>some Sc
 |245=>some ac2
 |246=>some ac3
 |247=>some ac4
 |249=>some ak6
 |250=>some ac5
 |f=>Rj f
def Rh:Nat->Option eG
 |85=>some O5
 |86=>some alC
 |87=>some alD
 |88=>some alE
 |93=>some ae7
 |94=>some Sg
 |95=>some O6
 |96=>some Sh
 |97=>some Lm
 |98=>some YK
 |99=>some ae8
 |100=>some MG
 |101=>some RN
 |102=>some IG
 |103=>some yv
 |104=>some MH
 |105=>some II
 |106=>some MI
 |107=>some MJ
 |108=>some RO
 |109=>some abO
 |110=>some abP
 |111=>some abQ
 |112=>some abR
 |113=>some akV
 |114=>some akW
 |116=>some ML
 |117=>some abT
 |118=>some RP
 |119=>some RQ
 |120=>some IJ
 |121=>some abU
 |122=>some RR
 |123=>some abV
 |124=>some abW
 |125=>some abX
 |126=>some abY
 |127=>some abZ
 |128=>some ab0
 |129=>some ab1
 |130=>some ab2
 |131=>some ab3
 |132=>some ab4
 |133=>some ab5
 |134=>some MM
 |135=>some MN
 |136=>some ab6
 |137=>some ab7
 |138=>some MO
 |139=>some IK
 |140=>some RT
 |141=>some RU
 |145=>some ab8
 |146=>some ab9
 |147=>some aca
 |148=>some RV
 |149=>some acb
 |150=>some acd
 |151=>some ace
 |152=>some acf
 |153=>some yw
 |154=>some RX
 |155=>some acg
 |156=>some RY
 |157=>some MP
 |158=>some RZ
 |159=>some MQ
 |161=>some MR
 |162=>some IL
 |163=>some R0
 |f=>Ri f
def code:Nat->Option eG
 |4=>some fn4
 |5=>some fn5
 |6=>some fn6
 |7=>some fn7
 |8=>some fn8
 |9=>some fn9
 |10=>some akU
 |11=>some aeX
 |13=>some YH
 |15=>some aeY
 |17=>some akX
 |18=>some akY
 |19=>some aeZ
 |21=>some ak1
 |22=>some ak3
 |23=>some ak4
 |24=>some ak5
 |25=>some ak7
 |26=>some ak8
 |27=>some alb
 |28=>some uB
 |30=>some ae0
 |32=>some alf
 |33=>some alg
 |34=>some alh
 |35=>some ali
 |37=>some alj
 |38=>some alk
 |39=>some alm
 |40=>some aln
 |41=>some alo
 |42=>some alp
 |43=>some G3
 |44=>some zF
 |45=>some Cy
 |46=>some Lj
 |47=>some Se
 |48=>some YI
 |49=>some O2
 |52=>some alq
 |53=>some alr
 |54=>some arM
 |55=>some als
 |56=>some alu
 |57=>some arN
 |58=>some arO
 |59=>some arP
 |60=>some arQ
 |61=>some arR
 |62=>some arS
 |63=>some arT
 |66=>some alv
 |67=>some ae2
 |68=>some alw
 |69=>some YJ
 |70=>some alx
 |71=>some aly
 |72=>some alz
 |73=>some alA
 |74=>some alB
 |75=>some ae3
 |76=>some G4
 |77=>some ae4
 |78=>some E0
 |79=>some Ll
 |80=>some O3
 |81=>some ae5
 |82=>some O4
 |83=>some ae6
 |84=>some Sf
 |f=>Rh f
noncomputable def oO:Nat->Option (List ag->aC->Option (ag×aC))
 |207=>some (wE 3 2 208)
 |272=>some (wE 6 0 273)
 |276=>some (ze)
 |277=>some (JB)
 |286=>some (zZ)
 |205=>some (mN 3 32)
 |241=>some (mN 6 80)
 |215=>some (mN 3 24)
 |189=>some (mN 3 24)
 |220=>some (sk 8 96)
 |229=>some (sk 3 24)
 |160=>some (pCC 1 1)
 |283=>some (lF 6)
 |248=>some (lF 3)
 |218=>some (sI 3)
 |227=>some (sI 3)
 |242=>some (kV 6 80)
 |243=>some (kV 3 32)
 |214=>some (kV 3 24)
 |228=>some (kV 3 24)
 |_=>none
noncomputable def cd:zo:=⟨code,oO⟩
set_option maxRecDepth 100000 in
def tI{f:Nat}{c fn:eG}{func:Func}{A:Co}(h:some c=some fn)(h1:Tryz.prog.funcs[f]?=some func)(h2:o8 Tryz.prog A func=some c):∃ A func,Tryz.prog.funcs[f]?=some func/\o8 Tryz.prog A func=some fn:=by
 cases h; exact⟨_,_,h1,h2⟩
def gx{f:Nat}{c fn:eG}{func:Func}(h:some c=some fn)(h1:Tryz.prog.funcs[f]?=some func)(h2:sM [] func c):∃ A func,Tryz.prog.funcs[f]?=some func/\o8 Tryz.prog A func=some fn:=tI h h1 h2
def Rg(f:Nat)(fn:eG)(h:Rj f=some fn):∃A func,Tryz.prog.funcs[f]?=some func/\o8 Tryz.prog A func=some fn:=by
 unfold Rj at h;split at h
 ·exact gx h func251 fq
 ·exact gx h func252 fq
 ·exact gx h func253 fq
 ·exact gx h func254 fq
 ·exact gx h func257 fq
 ·exact gx h func258 fq
 ·exact gx h func259 fq
 ·exact gx h func262 fq
 ·exact gx h func263 fq
 ·exact gx h func264 fq
 ·exact gx h func265 fq
 ·exact gx h func266 fq
 ·exact gx h func267 fq
 ·exact gx h func268 fq
 ·exact gx h func271 fq
 ·exact gx h func273 fq
 ·exact gx h func275 fq
 ·exact gx h func278 fq
 ·exact gx h func284 fq
 ·exact gx h func285 fq
 ·exact gx h func287 fq
 ·exact gx h func299 fq
 ·exact gx h func302 fq
 ·exact gx h func325 fq
 ·cases h
set_option maxRecDepth 100000 in
def Rf(f:Nat)(fn:eG)(h:Ri f=some fn):∃A func,Tryz.prog.funcs[f]?=some func/\o8 Tryz.prog A func=some fn:=by
 unfold Ri at h;split at h
 ·exact gx h func164 fq
 ·exact gx h func166 fq
 ·exact gx h func167 fq
 ·exact gx h func168 fq
 ·exact gx h func169 fq
 ·exact gx h func170 fq
 ·exact gx h func171 fq
 ·exact gx h func172 fq
 ·exact gx h func173 fq
 ·exact gx h func174 fq
 ·exact tI h func175 amY
 ·exact tI h func176 amZ
 ·exact tI h func177 am0
 ·exact gx h func178 fq
 ·exact gx h func179 fq
 ·exact gx h func180 fq
 ·exact gx h func181 fq
 ·exact tI h func182 am1
 ·exact tI h func183 am2
 ·exact tI h func184 am3
 ·exact gx h func185 fq
 ·exact gx h func186 fq
 ·exact gx h func187 fq
 ·exact gx h func190 fq
 ·exact gx h func191 fq
 ·exact gx h func192 fq
 ·exact gx h func193 fq
 ·exact gx h func194 fq
 ·exact tI h func195 am5
 ·exact gx h func196 fq
 ·exact gx h func197 fq
 ·exact gx h func198 fq
 ·exact gx h func199 fq
 ·exact tI h func200 am6
 ·exact gx h func201 fq
 ·exact gx h func202 fq
 ·exact gx h func203 fq
 ·exact gx h func204 fq
 ·exact gx h func206 fq
 ·exact gx h func208 fq
 ·exact gx h func209 fq
 ·exact gx h func210 fq
 ·exact gx h func211 fq
 ·exact gx h func212 fq
 ·exact gx h func213 fq
 ·exact gx h func216 fq
 ·exact gx h func217 fq
 ·exact gx h func219 fq
 ·exact gx h func221 fq
 ·exact gx h func222 fq
 ·exact gx h func223 fq
 ·exact gx h func224 fq
 ·exact gx h func225 fq
 ·exact gx h func226 fq
 ·exact tI h func230 am7
 ·exact tI h func232 am8
 ·exact gx h func233 fq
 ·exact tI h func234 am9
 ·exact gx h func235 fq
 ·exact gx h func236 fq
 ·exact gx h func237 fq
 ·exact gx h func238 fq
 ·exact gx h func239 fq
 ·exact gx h func240 fq
 ·exact tI h func244 ana
 ·exact gx h func245 fq
 ·exact gx h func246 fq
 ·exact gx h func247 fq
 ·exact gx h func249 fq
 ·exact gx h func250 fq
 ·exact Rg _ _ h
set_option maxRecDepth 100000 in
def Re(f:Nat)(fn:eG)(h:Rh f=some fn):∃A func,Tryz.prog.funcs[f]?=some func/\o8 Tryz.prog A func=some fn:=by
 unfold Rh at h;split at h
 ·exact tI h func85 atC
 ·exact gx h func86 fq
 ·exact gx h func87 fq
 ·exact gx h func88 fq
 ·exact gx h func93 fq
 ·exact gx h func94 fq
 ·exact gx h func95 fq
 ·exact gx h func96 fq
 ·exact gx h func97 fq
 ·exact gx h func98 fq
 ·exact gx h func99 fq
 ·exact gx h func100 fq
 ·exact gx h func101 fq
 ·exact gx h func102 fq
 ·exact tI h func103 amK
 ·exact gx h func104 fq
 ·exact gx h func105 fq
 ·exact gx h func106 fq
 ·exact gx h func107 fq
 ·exact gx h func108 fq
 ·exact gx h func109 fq
 ·exact gx h func110 fq
 ·exact gx h func111 fq
 ·exact gx h func112 fq
 ·exact gx h func113 fq
 ·exact gx h func114 fq
 ·exact gx h func116 fq
 ·exact gx h func117 fq
 ·exact tI h func118 amL
 ·exact tI h func119 amM
 ·exact tI h func120 amN
 ·exact gx h func121 fq
 ·exact tI h func122 amO
 ·exact gx h func123 fq
 ·exact gx h func124 fq
 ·exact gx h func125 fq
 ·exact gx h func126 fq
 ·exact gx h func127 fq
 ·exact gx h func128 fq
 ·exact gx h func129 fq
 ·exact gx h func130 fq
 ·exact gx h func131 fq
 ·exact gx h func132 fq
 ·exact gx h func133 fq
 ·exact gx h func134 fq
 ·exact gx h func135 fq
 ·exact gx h func136 fq
 ·exact gx h func137 fq
 ·exact gx h func138 fq
 ·exact tI h func139 amP
 ·exact gx h func140 fq
 ·exact gx h func141 fq
 ·exact gx h func145 fq
 ·exact gx h func146 fq
 ·exact gx h func147 fq
 ·exact tI h func148 amQ
 ·exact gx h func149 fq
 ·exact gx h func150 fq
 ·exact gx h func151 fq
 ·exact gx h func152 fq
 ·exact tI h func153 amR
 ·exact tI h func154 amS
 ·exact gx h func155 fq
 ·exact tI h func156 amT
 ·exact tI h func157 amU
 ·exact tI h func158 amV
 ·exact gx h func159 fq
 ·exact gx h func161 fq
 ·exact tI h func162 amW
 ·exact tI h func163 amX
 ·exact Rf _ _ h
set_option maxRecDepth 100000 in
def Mx(f:Nat)(fn:eG)(h:code f=some fn):∃A func,Tryz.prog.funcs[f]?=some func/\o8 Tryz.prog A func=some fn:=by
 unfold code at h;split at h
 ·exact tI h func4 ok4
 ·exact tI h func5 ok5
 ·exact tI h func6 ok6
 ·exact tI h func7 ok7
 ·exact tI h func8 ok8
 ·exact gx h func9 fq
 ·exact gx h func10 fq
 ·exact gx h func11 fq
 ·exact gx h func13 fq
 ·exact tI h func15 atk
 ·exact gx h func17 fq
 ·exact gx h func18 fq
 ·exact tI h func19 atl
 ·exact gx h func21 fq
 ·exact gx h func22 fq
 ·exact gx h func23 fq
 ·exact gx h func24 fq
 ·exact gx h func25 fq
 ·exact gx h func26 fq
 ·exact gx h func27 fq
 ·exact gx h func28 fq
 ·exact tI h func30 atn
 ·exact gx h func32 fq
 ·exact gx h func33 fq
 ·exact gx h func34 fq
 ·exact gx h func35 fq
 ·exact gx h func37 fq
 ·exact gx h func38 fq
 ·exact gx h func39 fq
 ·exact gx h func40 fq
 ·exact gx h func41 fq
 ·exact gx h func42 fq
 ·exact gx h func43 fq
 ·exact tI h func44 atq
 ·exact gx h func45 fq
 ·exact tI h func46 atr
 ·exact tI h func47 ats
 ·exact gx h func48 fq
 ·exact tI h func49 att
 ·exact gx h func52 fq
 ·exact gx h func53 fq
 ·exact gx h func54 fq
 ·exact gx h func55 fq
 ·exact gx h func56 fq
 ·exact gx h func57 fq
 ·exact gx h func58 fq
 ·exact gx h func59 fq
 ·exact gx h func60 fq
 ·exact gx h func61 fq
 ·exact gx h func62 fq
 ·exact gx h func63 fq
 ·exact gx h func66 fq
 ·exact gx h func67 fq
 ·exact gx h func68 fq
 ·exact gx h func69 fq
 ·exact gx h func70 fq
 ·exact gx h func71 fq
 ·exact gx h func72 fq
 ·exact gx h func73 fq
 ·exact gx h func74 fq
 ·exact gx h func75 fq
 ·exact tI h func76 atu
 ·exact tI h func77 atv
 ·exact tI h func78 atw
 ·exact tI h func79 atx
 ·exact tI h func80 aty
 ·exact gx h func81 fq
 ·exact tI h func82 atz
 ·exact tI h func83 atA
 ·exact tI h func84 atB
 ·exact Re _ _ h
def NA(f:Nat)(g:List ag->aC->Option (ag×aC))(h:oO f=some g)(args:List ag)(M:aC)(x:ag×aC)(hx:g args M=some x):lB Tryz.prog f=true/\dp Tryz.prog f args M x:=by
 unfold oO at h;split at h
 ·cases h; exact⟨fA,W9 hx⟩
 ·cases h; exact⟨fA,Xa hx⟩
 ·cases h; exact⟨fA,Lr hx⟩
 ·cases h; exact⟨fA,alY hx⟩
 ·cases h; exact⟨fA,Ii hx⟩
 ·cases h; exact⟨fA,OE hx⟩
 ·cases h; exact⟨fA,OH hx⟩
 ·cases h; exact⟨fA,OG hx⟩
 ·cases h; exact⟨fA,OC hx⟩
 ·cases h; exact⟨fA,KL hx⟩
 ·cases h; exact⟨fA,KM hx⟩
 ·cases h; exact⟨fA,aeJ hx⟩
 ·cases h; exact⟨fA,OT hx⟩
 ·cases h; exact⟨fA,OS hx⟩
 ·cases h; exact⟨fA,KX hx⟩
 ·cases h; exact⟨fA,KY hx⟩
 ·cases h; exact⟨fA,Pf hx⟩
 ·cases h; exact⟨fA,Pg hx⟩
 ·cases h; exact⟨fA,Pd hx⟩
 ·cases h; exact⟨fA,Pe hx⟩
 ·cases h
def ahJ:vi Tryz.prog cd:=⟨Mx,NA⟩
abbrev Bytes:=List UInt8
structure gM where
 name:Bytes
 ar:Int
 ak:Int
 deriving DecidableEq,Inhabited
structure Node where
 ar:Int
 kind:Int
 ep:Int
 data:Bytes
 bc:List gM
 up:Int
 deriving DecidableEq,Inhabited
structure Tree where
 ae:List Node
 next:Int
 ak:Int
 deriving DecidableEq,Inhabited
def Node.zero:Node:=⟨0,0,0,[],[],0⟩
def fU(e:gM):List ag:=[.str e.name,.int .i64 e.ar,.int .i64 e.ak]
def iH(e:gM):ag := .agg (fU e)
abbrev jb(l:List gM):ag := .slice .sh (l.map iH)
abbrev c8(d:Bytes):ag := .slice .sh (d.map qW)
def aL(n:Node):List ag:=[.int .i64 n.ar,.int .i64 n.kind,.int .i64 n.ep,c8 n.data,jb n.bc,.int .i64 n.up]
def bK(n:Node):ag := .agg (aL n)
abbrev ba(l:List Node):ag := .slice .sh (l.map bK)
def aM(t:Tree):List ag:=[ba t.ae,.int .i64 t.next,.int .i64 t.ak]
def br(t:Tree):ag := .agg (aM t)
structure Small(t:Tree):Prop where
 ae:t.ae.length<=100000
 bc:∀n,n∈t.ae->n.bc.length<=100000
 data:∀n,n∈t.ae->n.data.length<=100000
def Ia(n:Node):(bK n).cells=aL n:=rfl
def KI(e:gM):(iH e).cells=fU e:=rfl
def LC(n:Node):(aL n).length=6:=rfl
def Pq(e:gM):(fU e).length=3:=rfl
def Gy(l:List Node):wid (l.map bK) 6=True:=by
 simp only[fx,ja];intro x hx;obtain⟨n,_,rfl⟩:=eJ.1 hx;rfl
def J7(l:List gM):wid (l.map iH) 3=True:=by
 simp only[fx,ja];intro x hx;obtain⟨n,_,rfl⟩:=eJ.1 hx;rfl
theorem sf(l:Bytes):wid (l.map qW) 1=True:=by
 simp only[fx,ja];intro x hx;obtain⟨n,_,rfl⟩:=eJ.1 hx;rfl
structure Step where
 kind:Nat
 a:Nat
 b:Nat
 n:Nat
 m:Nat
 data:Bytes
set_option linter.defProp false in
def EVN:=bR @Ia (bR @KI (bR @LC (bR @Pq (bR @Gy (bR @J7 @sf)))))
set_option linter.defProp false in
def EN:=And.intro EVN EV
section
attribute [local irreducible] eX fJ lj gK dY kr aq aR cp bI
def gU{α:Type}{l:List α}{pre r:List α}{n:α}(h:l=pre++n::r):l[pre.length]?=some n:=by rw[h]; simp
def iP{α:Type}{l:List α}{pre r:List α}{n:α}(h:l=pre++n::r):((pre.length:Int)<(l.length:Int))=True:=by rw[h]; simp; omega
def jJ{α:Type}{l:List α}{pre:List α}(h:l=pre++[]):((pre.length:Int)<(l.length:Int))=False:=by rw[h]; simp
def Xf{α:Type}{pre:List α}{n:α}:((pre.length:Int)+1)=((pre++[n]).length:Int):=dw
def zl{T:Type}(l:List T)(x:T)(h:(l.length:Int)+1<9223372036854775808:=by omega):IntKind.i64.wrap ((l.length:Int)+1)=((l++[x]).length:Int):=by rw[gW aH aH]; exact Xf
def find(ae:List Node)(ar:Int):Option Node:=ae.find? fun n=>n.ar==ar
def gY(ae:List Node)(ar:Int):Node×Int:=match find ae ar with
 |none=>(Node.zero,70)
 |some n=>if n.kind=2 then (n,0) else (Node.zero,73)
def gv(l:List gM)(s:Bytes):Option gM:=l.find? fun e=>e.name==s
def sS(b:UInt8):Bool := !(decide ((b.toNat:Int)<32)||((b.toNat:Int)==47))
def fY(s:Bytes):Bool := !(decide ((s.length:Int)<1)||(decide ((s.length:Int)>32)||(s==[46]||s==[46,46])))&&s.all sS
def fh(ae:List Node)(ar:Int)(s:Bytes):Int×Int :=
 if (gY ae ar).2≠0 then (0,(gY ae ar).2) else if fY s=false then (0,60) else match gv (gY ae ar).1.bc s with
  |none=>(0,70)
  |some e=>(e.ar,0)
def cG{ae:List Node}{ar:Int}{n:Node}(h:find ae ar=some n):n∈ae/\n.ar=ar:=by
 unfold find at h;exact⟨iB h,by simpa using List.find?_some h⟩
def tC{t:Tree}(hs:Small t)(ar:Int):(gY t.ae ar).1.bc.length<=100000:=by
 unfold gY;split
 ·simp[Node.zero]
 ·rename_i n hn;split
  ·exact hs.bc n (cG hn).1
  ·simp[Node.zero]
def zT:List ag:=[.slice .c0 [],.int .i64 0,.int .i64 0]
def oq(n:Node):List Node->List Node->Bool->List Node×Bool
 | [],out,done=>(out,done)
 |m::r,out,done =>
  oq n r ((if !done&&decide (m.ar>=n.ar) then out++[n] else out)++(if m.ar=n.ar then [] else [m])) (done||decide (m.ar>=n.ar))
def eV(ae:List Node)(n:Node):List Node:=(oq n ae [] false).1++(if (oq n ae [] false).2=true then [] else [n])
def fQ(ae:List Node)(ar:Int):List Node:=ae.filter fun n=>n.ar != ar
def jF(l:List gM)(s:Bytes):List gM:=l.filter fun e=>e.name != s
def dv(ae:List Node)(ar:Int)(s:Bytes):List Node:=eV ae { (find ae ar).getD Node.zero with bc:=jF ((find ae ar).getD Node.zero).bc s }
abbrev nq(n:Int):Int:=IntKind.i64.wrap n
def gtB(a b:Bytes):Bool := !(strLt a b||a==b)
def vy(e:gM):List gM->List gM->Bool->List gM×Bool
 | [],out,done=>(out,done)
 |m::r,out,done=>vy e r ((if !done&&gtB m.name e.name then out++[e] else out)++[m]) (done||gtB m.name e.name)
def yW(l:List gM)(e:gM):List gM:=(vy e l [] false).1++(if (vy e l [] false).2=true then [] else [e])
def iq(t:Tree)(ar:Int)(s:Bytes)(of:Int):Tree :=
 ⟨eV t.ae { (find t.ae ar).getD Node.zero with bc:=yW ((find t.ae ar).getD Node.zero).bc ⟨s,of,t.ak⟩ },t.next,nq (t.ak+1)⟩
def Qd(ae:List Node)(ar:Int):Int:=((find ae ar).getD Node.zero).up
def vW(ae:List Node):Nat->Int->Nat->Nat
 |0,_,d=>d
 |m+1,ar,d=>if ar=1 then d else vW ae m (Qd ae ar) (d+1)
def pM(ae:List Node)(ar:Int):Nat:=vW ae 201 ar 0
def nc(ae:List Node)(of:Int):Nat->Int->Bool
 |0,_=>false
 |m+1,ar=>if ar=of then true else if ar=1 then false else nc ae of m (Qd ae ar)
def iM(ae:List Node)(ar of:Int):Bool:=nc ae of (ae.length+1) ar
structure Sz(b:Nat)(t:Tree):Prop where
 ae:t.ae.length<=b
 bc:∀n,n∈t.ae->n.bc.length<=b
 data:∀n,n∈t.ae->n.data.length<=100000
def Sz.small{b:Nat}{t:Tree}(h:Sz b t)(hb:b<=100000):Small t:=⟨aY h.ae hb,fun n hn=>aY (h.bc n hn) hb,h.data⟩
def Gz(n:Node):∀(l out:List Node)(d:Bool),(oq n l out d).1.length+(if (oq n l out d).2=true then 0 else 1)<=out.length+l.length+(if d then 0 else 1)
 | [],out,d=>by simp only[oq,az,df]; exact au _
 |m::r,out,d=>by
  rw[oq];refine aY (Gz n r _ _) ?_;cases d<;>by_cases h1:n.ar<=m.ar<;>by_cases h2:m.ar=n.ar<;>simp[h1,h2]<;>omega
def GA(n:Node):∀(l out:List Node)(d:Bool)(x:Node),x∈(oq n l out d).1->x=n\/x∈out\/x∈l
 | [],out,d,x,h=>by simp[oq] at h; exact .inr (.inl h)
 |m::r,out,d,x,h=>by
  rw[oq] at h;rcases GA n r _ _ x h with h|h|h
  ·exact .inl h
  ·rcases bo.1 h with h|h
   ·split at h
    ·rcases bo.1 h with h|h
     ·exact .inr (.inl h)
     ·exact .inl (by simpa using h)
    ·exact .inr (.inl h)
   ·split at h
    ·cases h
    ·exact .inr (.inr (by simp at h; simp[h]))
  ·exact .inr (.inr (bw _ h))
def GB(ae:List Node)(n:Node):(eV ae n).length<=ae.length+1:=by
 have:=Gz n ae [] false;unfold eV;split at this<;>simp_all
def GC{ae:List Node}{n x:Node}(h:x∈eV ae n):x=n\/x∈ae:=by
 unfold eV at h;rcases bo.1 h with h|h
 ·rcases GA n ae [] false x h with h|h|h
  ·exact .inl h
  ·cases h
  ·exact .inr h
 ·split at h
  ·cases h
  ·exact .inl (by simpa using h)
def Sz.with{b:Nat}{t:Tree}(h:Sz b t){n:Node}(h1:n.bc.length<=b+1)(h2:n.data.length<=100000)(next ak:Int):Sz (b+1) ⟨eV t.ae n,next,ak⟩ :=
 ⟨aY (GB _ _) (by have:=h.ae; simp; omega),fun x hx=>by
  rcases GC hx with rfl|hx
  ·exact h1
  ·exact iY (h.bc x hx),fun x hx=>by
  rcases GC hx with rfl|hx
  ·exact h2
  ·exact h.data x hx⟩
def Sz.up{b c:Nat}{t:Tree}(h:Sz b t)(hbc:b<=c):Sz c t:=⟨aY h.ae hbc,fun n hn=>aY (h.bc n hn) hbc,h.data⟩
def Sz.find{b:Nat}{t:Tree}(h:Sz b t)(ar:Int):((find t.ae ar).getD Node.zero).bc.length<=b/\((find t.ae ar).getD Node.zero).data.length<=100000:=by
 cases hf:Go.Proofs.YteoamaffclmdbaaGreatDoor.find t.ae ar with
 |none=>simp[Node.zero]
 |some n=>exact⟨h.bc n (cG hf).1,h.data n (cG hf).1⟩
def AG(l:List gM)(s:Bytes):(jF l s).length<=l.length:=bU _ _
def Sz.left{b:Nat}{t:Tree}(h:Sz b t)(ar:Int)(s:Bytes)(next ak:Int):Sz (b+1) ⟨dv t.ae ar s,next,ak⟩ :=
 h.with (n:={ (Go.Proofs.YteoamaffclmdbaaGreatDoor.find t.ae ar).getD Node.zero with bc:=jF ((Go.Proofs.YteoamaffclmdbaaGreatDoor.find t.ae ar).getD Node.zero).bc s }) (aY (AG _ _) (iY (h.find ar).1)) (h.find ar).2 next ak
def Sz.uT{b:Nat}{t:Tree}(h:Sz b t)(ar:Int)(next ak:Int):Sz b ⟨fQ t.ae ar,next,ak⟩ :=
 ⟨aY (bU _ _) h.ae,fun x hx=>h.bc x ((eo.1 hx).1),fun x hx=>h.data x ((eo.1 hx).1)⟩
def Dy(t:Tree)(n:Node):Bool:=decide ((64:Int)<=n.bc.length)||(decide ((12:Int)<=pM t.ae n.ar)||decide ((1099511627776:Int)<=t.ak))
def oV(t:Tree)(ar:Int)(s:Bytes):Int :=
 if (gY t.ae ar).2≠0 then (gY t.ae ar).2 else if fY s=false then 60 else if (gv (gY t.ae ar).1.bc s).isSome=true then 71 else if Dy t (gY t.ae ar).1 then 76 else 0
def rR(t:Tree)(ar:Int)(s:Bytes)(kind:Int):Tree×Int×Int :=
 if kind != 1&&kind != 2 then (t,0,1) else if oV t ar s != 0 then (t,0,oV t ar s) else
 if decide ((200:Int)<=t.ae.length)||decide ((1099511627776:Int)<=t.next) then (t,0,76) else
 (iq ⟨eV t.ae ⟨t.next,kind,1,[],[],if kind==2 then ar else 0⟩,nq (t.next+1),t.ak⟩ ar s t.next,t.next,0)
abbrev bl(ae:List Node)(ar:Int):Node:=(find ae ar).getD Node.zero
def CA(t:Tree)(ar to:Int)(s:Bytes):Tree×Int :=
 if !(find t.ae ar).isSome||((bl t.ae ar).kind==1&&(bl t.ae ar).ep==0) then (t,70) else if (bl t.ae ar).kind==2 then (t,72) else
 if oV t to s != 0 then (t,oV t to s) else
 (iq ⟨eV t.ae { bl t.ae ar with ep:=nq ((bl t.ae ar).ep+1) },t.next,t.ak⟩ to s ar,0)
def fp(ae:List Node)(ar:Int):List Node :=
 if (bl ae ar).kind==2 then fQ ae ar else eV ae { bl ae ar with ep:=nq ((bl ae ar).ep-1) }
def BC(t:Tree)(ar:Int)(s:Bytes):Tree×Int×Int :=
 if (fh t.ae ar s).2 != 0 then (t,0,(fh t.ae ar s).2) else if decide ((0:Int)<(bl t.ae (fh t.ae ar s).1).bc.length) then (t,0,74) else
 (⟨fp (dv t.ae ar s) (fh t.ae ar s).1,t.next,t.ak⟩,(fh t.ae ar s).1,0)
def uW(ae:List Node)(kind:Int)(y:Int):Int :=
 if !(find ae y).isSome then 0 else if kind==2&&(bl ae y).kind != 2 then 73 else if kind != 2&&(bl ae y).kind==2 then 72 else if decide ((0:Int)<(bl ae y).bc.length) then 74 else 0
def rO(t:Tree)(ar:Int)(data:Bytes):Tree×Int :=
 if !(find t.ae ar).isSome then (t,70) else if (bl t.ae ar).kind==2 then (t,72) else if decide ((4096:Int)<data.length) then (t,2) else
 (⟨eV t.ae { bl t.ae ar with data:=data },t.next,t.ak⟩,0)
def kC(t:Tree)(ar:Int):Tree×Int :=
 if !(find t.ae ar).isSome then (t,70) else if (bl t.ae ar).kind==2 then (t,72) else if decide ((0:Int)<(bl t.ae ar).ep) then (t,71) else
 (⟨fQ t.ae ar,t.next,t.ak⟩,0)
def wJ:Tree:=⟨[⟨1,2,0,[],[],1⟩],2,1⟩
def sC(ae:List Node)(ar at' d:Int)(n:Node)(dS:Int):Int :=
 if n.kind==2&&iM ae n.ar ar then
  (if (if decide ((0:Int)<n.bc.length) then nq (nq (nq (at'+pM ae n.ar)-d)+1) else nq (nq (at'+pM ae n.ar)-d))>dS
   then (if decide ((0:Int)<n.bc.length) then nq (nq (nq (at'+pM ae n.ar)-d)+1) else nq (nq (at'+pM ae n.ar)-d)) else dS)
 else dS
def vY(ae:List Node)(ar at' d:Int):List Node->Int->Int
 | [],dS=>dS
 |n::r,dS=>vY ae ar at' d r (sC ae ar at' d n dS)
def BX(ae:List Node)(ar at':Int):Int:=vY ae ar at' (pM ae ar) ae 0
def jg(l:List gM)(s:Bytes):Int:=match gv l s with
 |none=>0
 |some e=>e.ar
def manyN(t:Tree)(ki to:Int)(bc:List gM)(kind y ar:Int):Bool :=
 ((y==0&&to != ki)&&decide ((64:Int)<=bc.length))||(decide ((12:Int)<=pM t.ae to)||((kind==2&&decide ((12:Int)<BX t.ae ar (nq (pM t.ae to+1))))||decide ((1099511627776:Int)<=t.ak)))
def tc(t:Tree)(ki:Int)(s:Bytes)(to:Int)(nm:Bytes)(ar y:Int):Tree :=
 iq ⟨if (bl t.ae ar).kind==2 then
   eV (if y != 0 then fp (dv (dv t.ae ki s) to nm) y else dv t.ae ki s) { bl t.ae ar with up:=to }
  else if y != 0 then fp (dv (dv t.ae ki s) to nm) y else dv t.ae ki s,t.next,t.ak⟩ to nm ar
def wM(t:Tree)(ki:Int)(s:Bytes)(to:Int)(nm:Bytes):Tree×Int×Int :=
 if (fh t.ae ki s).2 != 0 then (t,0,(fh t.ae ki s).2) else
 if (gY t.ae to).2 != 0 then (t,0,(gY t.ae to).2) else
 if !fY nm then (t,0,60) else
 if jg (gY t.ae to).1.bc nm==(fh t.ae ki s).1 then (t,0,0) else
 if (bl t.ae (fh t.ae ki s).1).kind==2&&iM t.ae to (fh t.ae ki s).1 then (t,0,75) else
 if uW t.ae (bl t.ae (fh t.ae ki s).1).kind (jg (gY t.ae to).1.bc nm) != 0 then (t,0,uW t.ae (bl t.ae (fh t.ae ki s).1).kind (jg (gY t.ae to).1.bc nm)) else
 if manyN t ki to (gY t.ae to).1.bc (bl t.ae (fh t.ae ki s).1).kind (jg (gY t.ae to).1.bc nm) (fh t.ae ki s).1 then (t,0,76) else
 (tc t ki s to nm (fh t.ae ki s).1 (jg (gY t.ae to).1.bc nm),jg (gY t.ae to).1.bc nm,0)
def Sz.unnamed{b:Nat}{t:Tree}(h:Sz b t)(ar next ak:Int):Sz (b+1) ⟨fp t.ae ar,next,ak⟩:=by
 unfold fp;split
 ·exact(h.uT ar next ak).up aH
 ·exact h.with (n:={ bl t.ae ar with ep:=nq ((bl t.ae ar).ep-1) }) (iY (h.find ar).1) (h.find ar).2 next ak
structure Step.Ok(s:Step):Prop where
 kind:s.kind<256
 a:s.a<256
 b:s.b<256
 n:s.n<256
 m:s.m<256
 data:s.data.length<=100000
def nameOf(n:Nat):Bytes:=match n % 6 with
 |0=>[97]
 |1=>[98]
 |2=>[99]
 |3=>[100]
 |4=>[101]
 |_=>[46,46]
def wA(t:Tree)(n:Nat):Int:=match t.ae[n % (t.ae.length+1)]? with
 |some m=>m.ar
 |none=>t.next
def abG(t:Tree)(s:Step):Tree×Int×Int :=
 if ((s.kind % 8:Nat):Int)==0||((s.kind % 8:Nat):Int)==1 then rR t (wA t s.a) (nameOf s.n) (((s.m % 2:Nat):Int)+1) else
 if ((s.kind % 8:Nat):Int)==2 then ((CA t (wA t s.b) (wA t s.a) (nameOf s.n)).1,0,(CA t (wA t s.b) (wA t s.a) (nameOf s.n)).2) else
 if ((s.kind % 8:Nat):Int)==3 then BC t (wA t s.a) (nameOf s.n) else
 if ((s.kind % 8:Nat):Int)==4||((s.kind % 8:Nat):Int)==5 then wM t (wA t s.a) (nameOf s.n) (wA t s.b) (nameOf s.m) else
 if ((s.kind % 8:Nat):Int)==6 then ((rO t (wA t s.a) s.data).1,0,(rO t (wA t s.a) s.data).2) else
 ((kC t (wA t s.a)).1,0,(kC t (wA t s.a)).2)
def I3(e:gM):∀(l out:List gM)(d:Bool),(vy e l out d).1.length+(if (vy e l out d).2=true then 0 else 1)<=out.length+l.length+(if d then 0 else 1)
 | [],out,d=>by simp only[vy,az,df]; exact au _
 |m::r,out,d=>by
  rw[vy];refine aY (I3 e r _ _) ?_;cases d<;>cases h1:gtB m.name e.name<;>simp<;>omega
def SA(l:List gM)(e:gM):(yW l e).length<=l.length+1:=by
 have:=I3 e l [] false;unfold yW;split at this<;>simp_all
def Sz.nH{b:Nat}{t:Tree}(h:Sz b t)(ar:Int)(s:Bytes)(of:Int):Sz (b+1) (iq t ar s of) :=
 h.with (n:={ bl t.ae ar with bc:=yW (bl t.ae ar).bc ⟨s,of,t.ak⟩ }) (aY (SA _ _) (Nat.succ_le_succ (h.find ar).1)) (h.find ar).2 t.next (nq (t.ak+1))
def Sz.add{b:Nat}{t:Tree}(h:Sz b t)(ar:Int)(s:Bytes)(kind:Int):Sz (b+5) (rR t ar s kind).1:=by
 unfold rR;split
 ·exact h.up aH
 ·split
  ·exact h.up aH
  ·split
   ·exact h.up aH
   ·exact((h.with (n:=⟨t.next,kind,1,[],[],if kind==2 then ar else 0⟩) dw dw (nq (t.next+1)) t.ak).nH ar s t.next).up aH
def Sz.ln{b:Nat}{t:Tree}(h:Sz b t)(ar to:Int)(s:Bytes):Sz (b+5) (CA t ar to s).1:=by
 unfold CA;split
 ·exact h.up aH
 ·split
  ·exact h.up aH
  ·split
   ·exact h.up aH
   ·exact((h.with (n:={ bl t.ae ar with ep:=nq ((bl t.ae ar).ep+1) }) (iY (h.find ar).1) (h.find ar).2 t.next t.ak).nH to s ar).up aH
def Sz.un{b:Nat}{t:Tree}(h:Sz b t)(ar:Int)(s:Bytes):Sz (b+5) (BC t ar s).1:=by
 unfold BC;split
 ·exact h.up aH
 ·split
  ·exact h.up aH
  ·exact((h.left ar s t.next t.ak).unnamed _ t.next t.ak).up aH
def Sz.put{b:Nat}{t:Tree}(h:Sz b t)(ar:Int)(data:Bytes)(hd:data.length<=100000):Sz (b+5) (rO t ar data).1:=by
 unfold rO;split
 ·exact h.up aH
 ·split
  ·exact h.up aH
  ·split
   ·exact h.up aH
   ·exact(h.with (n:={ bl t.ae ar with data:=data }) (iY (h.find ar).1) hd t.next t.ak).up aH
def Sz.free{b:Nat}{t:Tree}(h:Sz b t)(ar:Int):Sz (b+5) (kC t ar).1:=by
 unfold kC;split
 ·exact h.up aH
 ·split
  ·exact h.up aH
  ·split
   ·exact h.up aH
   ·exact(h.uT ar t.next t.ak).up aH
def Sz.move{b:Nat}{t:Tree}(h:Sz b t)(ki:Int)(s:Bytes)(to:Int)(nm:Bytes)(ar y:Int):Sz (b+5) (tc t ki s to nm ar y):=by
 unfold tc;have z1:=h.left ki s t.next t.ak
 have z3:=(z1.left to nm t.next t.ak).unnamed y t.next t.ak
 have z:Sz (b+3) ⟨if y != 0 then fp (dv (dv t.ae ki s) to nm) y else dv t.ae ki s,t.next,t.ak⟩:=by
  split
  ·exact z3
  ·exact z1.up aH
 split
 ·exact((z.with (n:={ bl t.ae ar with up:=to }) (aY (h.find ar).1 aH) (h.find ar).2 t.next t.ak).nH to nm ar).up aH
 ·exact(z.nH to nm ar).up aH
def Sz.mv{b:Nat}{t:Tree}(h:Sz b t)(ki:Int)(s:Bytes)(to:Int)(nm:Bytes):Sz (b+5) (wM t ki s to nm).1:=by
 unfold wM
 repeat' split
 all_goals first
  |exact h.up aH
  |exact h.move ki s to nm _ _
def Sz.done{b:Nat}{t:Tree}(h:Sz b t)(s:Step)(hs:s.Ok):Sz (b+5) (abG t s).1:=by
 unfold abG
 repeat' split
 all_goals first
  |exact h.add _ _ _
  |exact h.ln _ _ _
  |exact h.un _ _
  |exact h.mv _ _ _ _
  |exact h.put _ _ hs.data
  |exact h.free _
def Sz.wJ:Sz 1 wJ:=⟨by simp[Go.Proofs.YteoamaffclmdbaaGreatDoor.wJ],fun n hn=>by simp[Go.Proofs.YteoamaffclmdbaaGreatDoor.wJ] at hn; subst hn; simp,fun n hn=>by simp[Go.Proofs.YteoamaffclmdbaaGreatDoor.wJ] at hn; subst hn; simp⟩
end
end Go.Proofs.YteoamaffclmdbaaGreatDoor
namespace Go.Abs
open Go
def AL{C:eR}{fn:List sN}{bS:Nat}{k:List K}{live:List Nat}{body:cD}{α σ ρ:Type}{xs:List α}(hn:xs.length<=1000000)(go:List α->σ->ρ)(E:σ->Int->Env)(M:σ->aC)(R:ρ->Option (ag×aC))
  (hend:∀s,eX C fn bS (.loop live (M s).length body::k) body (jn (E s xs.length) live) (M s)=R (go [] s))
  (hstep:∀(pre:List α)(x:α)(post:List α)(s:σ),xs=pre++x::post->xs[pre.length]?=some x->((pre.length:Int)<xs.length)=True->IntKind.i64.wrap ((pre.length:Int)+1)=(pre.length:Int)+1->((pre.length:Int)<0)=False->x∈xs ->
   (∀s',eX C fn bS k (.loop live body) (E s' ((pre.length:Int)+1)) (M s')=R (go post s'))->eX C fn bS (.loop live (M s).length body::k) body (jn (E s pre.length) live) (M s)=R (go (x::post) s)) :
  ∀s,eX C fn bS k (.loop live body) (E s 0) (M s)=R (go xs s):=by
 have key:∀(l pre:List α)(s:σ),xs=pre++l->eX C fn bS k (.loop live body) (E s pre.length) (M s)=R (go l s):=by
  intro l;induction l with
  |nil =>
   intro pre s h;rw[bF,show pre.length=xs.length by rw[h]; simp]
   exact hend s
  |cons x r ih =>
   intro pre s h;rw[bF];have hl:pre.length+1<=1000000:=by rw[h] at hn; simp at hn; omega
   refine hstep pre x r s h (by rw[h]; simp) (by rw[h]; simp; omega) (gW aH aH) dw (by rw[h]; simp) fun s'=>?_
   have:=ih (pre++[x]) s' (by rw[h]; simp)
   simpa using this
 intro s;exact key xs [] s rfl
def jd{C:eR}{fn:List sN}{bS:Nat}{k:List K}{live:List Nat}{body:cD}{α σ:Type}{xs:List α}(hn:xs.length<=1000000)(I:Nat->σ->Prop)(E:σ->Int->Env)(M:σ->aC)(Q:ag×aC->Prop)
  (hend:∀s,I xs.length s->∃r,Q r/\eX C fn bS (.loop live (M s).length body::k) body (jn (E s xs.length) live) (M s)=some r)
  (hstep:∀(pre:List α)(x:α)(post:List α)(s:σ),xs=pre++x::post->xs[pre.length]?=some x->((pre.length:Int)<xs.length)=True->IntKind.i64.wrap ((pre.length:Int)+1)=(pre.length:Int)+1->((pre.length:Int)<0)=False->x∈xs->I pre.length s ->
   (∀s',I (pre.length+1) s'->∃r,Q r/\eX C fn bS k (.loop live body) (E s' ((pre.length:Int)+1)) (M s')=some r)->∃r,Q r/\eX C fn bS (.loop live (M s).length body::k) body (jn (E s pre.length) live) (M s)=some r) :
  ∀s,I 0 s->∃r,Q r/\eX C fn bS k (.loop live body) (E s 0) (M s)=some r:=by
 have key:∀(l pre:List α)(s:σ),xs=pre++l->I pre.length s->∃r,Q r/\eX C fn bS k (.loop live body) (E s pre.length) (M s)=some r:=by
  intro l;induction l with
  |nil =>
   intro pre s h hI;have e:pre.length=xs.length:=by rw[h]; simp
   rw[bF,e];exact hend s (by rw[<-e]; exact hI)
  |cons x r ih =>
   intro pre s h hI;rw[bF];have hl:pre.length+1<=1000000:=by rw[h] at hn; simp at hn; omega
   refine hstep pre x r s h (by rw[h]; simp) (by rw[h]; simp; omega) (gW aH aH) dw (by rw[h]; simp) hI fun s' hI'=>?_
   have:=ih (pre++[x]) s' (by rw[h]; simp) (by simpa using hI')
   simpa using this
 intro s hI;exact key xs [] s rfl hI
def yc{α:Type}{a b:List α}{m:Nat}(h:a.take m=b.take m){x:α}(hx:a[m]?=some x)(hy:b[m]?=some x):a.take (m+1)=b.take (m+1):=by
 rw[cz,cz,h,hx,hy]
def Ai{α:Type}{a b:List α}(hl:a.length=b.length)(h:a.take a.length=b.take a.length):a=b:=by
 rw[bH,hl,bH] at h; exact h
def Gr(ds:List Bool)(b:Nat)(d:Bool):iT (ds.map ag.bool) b (putCells (.bool d) 0 [.bool true])=(ds.set b true).map ag.bool:=by
 have:putCells (.bool d) 0 [.bool true] = .bool true:=rfl;rw[this,fj,gH]
def aa6(ds:List UInt8)(b:Nat)(d x:UInt8):iT (ds.map qW) b (putCells (qW d) 0 [qW x])=(ds.set b x).map qW:=by
 have:putCells (qW d) 0 [qW x]=qW x:=rfl;rw[this,fj,gH]
def nh{C:eR}{fn:List sN}{bS:Nat}{k:List K}{live:List Nat}{body:cD}{α σ ρ:Type}{xs:List α}(hn:xs.length<=1000000)(I:Nat->σ->Prop)(go:List α->σ->ρ)(E:σ->Int->Env)(M:σ->aC)(R:ρ->Option (ag×aC))
  (hend:∀s,I xs.length s->eX C fn bS (.loop live (M s).length body::k) body (jn (E s xs.length) live) (M s)=R (go [] s))
  (hstep:∀(pre:List α)(x:α)(post:List α)(s:σ),xs=pre++x::post->xs[pre.length]?=some x->((pre.length:Int)<xs.length)=True->IntKind.i64.wrap ((pre.length:Int)+1)=(pre.length:Int)+1->((pre.length:Int)<0)=False->x∈xs->I pre.length s ->
   (∀s',I (pre.length+1) s'->eX C fn bS k (.loop live body) (E s' ((pre.length:Int)+1)) (M s')=R (go post s'))->eX C fn bS (.loop live (M s).length body::k) body (jn (E s pre.length) live) (M s)=R (go (x::post) s)) :
  ∀s,I 0 s->eX C fn bS k (.loop live body) (E s 0) (M s)=R (go xs s):=by
 have key:∀(l pre:List α)(s:σ),xs=pre++l->I pre.length s->eX C fn bS k (.loop live body) (E s pre.length) (M s)=R (go l s):=by
  intro l;induction l with
  |nil =>
   intro pre s h hI;have e:pre.length=xs.length:=by rw[h]; simp
   rw[bF,e];exact hend s (by rw[<-e]; exact hI)
  |cons x r ih =>
   intro pre s h hI;rw[bF];have hl:pre.length+1<=1000000:=by rw[h] at hn; simp at hn; omega
   refine hstep pre x r s h (by rw[h]; simp) (by rw[h]; simp; omega) (gW aH aH) dw (by rw[h]; simp) hI fun s' hI'=>?_
   have:=ih (pre++[x]) s' (by rw[h]; simp) (by simpa using hI')
   simpa using this
 intro s hI;exact key xs [] s rfl hI
def qz{α:Type}(p:α->Bool):List α->Nat->Int
 | [],_ => -1
 |x::r,i=>if p x then (i:Int) else qz p r (i+1)
structure Xz{α:Type}(lt:α->Bool)(l:List α)(b:Nat):Prop where
 le:b<=l.length
 lt:∀h n,l[h]?=some n->(lt n=true↔h<b)
def pg{α:Type}(eq:α->Bool)(l:List α)(b:Nat):Bool:=match l[b]? with
 |some n=>eq n
 |none=>false
def VV(i j:Nat)(hj:j<=100000)(hi:i<=j):IntKind.i64.wrap ((i:Int)+(j:Int))=((i+j:Nat):Int)/\IntKind.u64.wrap ((i+j:Nat):Int)=((i+j:Nat):Int) /\
  (((i+j:Nat):Int)).fdiv (2 ^ min 1 IntKind.u64.bits)=(((i+j) / 2:Nat):Int)/\IntKind.i64.wrap (((i+j) / 2:Nat):Int)=(((i+j) / 2:Nat):Int)/\IntKind.i64.wrap ((((i+j) / 2:Nat):Int)+1)=(((i+j) / 2+1:Nat):Int):=by
 refine⟨?_,?_,?_,?_,?_⟩
 ·rw[gW aH aH]; rfl
 ·have:IntKind.u64.wrap ((i+j:Nat):Int)=((i+j:Nat):Int) % 18446744073709551616:=by simp[IntKind.wrap,IntKind.bits,IntKind.signed]
  rw[this]; omega
 ·have:(2:Int) ^ min 1 IntKind.u64.bits=2:=mu;rw[this,Int.fdiv_eq_ediv_of_nonneg _ aH]; omega
 ·exact gW aH aH
 ·rw[gW aH aH]; rfl
def aip(C:eR)(fv:ag)(M:aC)(vs:List ag)(r:ag):Prop:=(∃g caps,fv = .func g caps/\aR C g (vs++caps) M=some (r,M))\/∃g fs,fv = .qV g fs/\aR C g (fs++vs) M=some (r,M)
def uQ{M:aC}{p:Nat}{b:cL}(h:nth M p=some b):iT M p b=M:=by
 rw[fe] at h; rw[fj];apply cE;intro i
 by_cases e:p=i
 ·subst e; rw[ec (aN h),h]
 ·rw[cN e]
def cM{C:eR}{f p:Nat}{vs:List ag}{r:ag}{M:aC}{cs:List ag}(hM:nth M p=some (.cells cs))(h:C f (.ptr 0 0::vs) [.cells cs]=some (r,[.cells cs]))(h1:vs.all ag.flat=true:=by exact rfl)(h2:vs.flatMap ag.ids=[]:=by exact rfl)(h3:r.wz=true:=by exact rfl)(h4:vs.map (ag.pj (iy [p]))=vs:=by exact rfl)(h5:r.Ah (wu [p])=r:=by exact rfl)(h6:cs.all ag.vu=true:=by exact rfl)(h7:cs.flatMap ag.nC=[]:=by exact rfl)(h8:cs.map (ag.sd (iy [p]))=cs:=by exact rfl)(h10:cs.map (ag.sd (wu [p]))=cs:=by exact rfl):aR C f (.ptr p 0::vs) M=some (r,M):=by
 have:=ti hM h h1 h2 h3 h4 h5 h6 h7 h8 h6 h10;rwa[uQ hM] at this
def kZ{C:eR}{f:Nat}{args args':List ag}{M B:aC}{ids:List Nat}{r r':ag}{B' M':aC}(h1:args.all ag.flat=true)(h2:reach M (args.flatMap ag.ids)=ids)(h3:jX M (iy ids) ids=some B)(h4:ko M ids=ids)
  (h5:args.map (ag.pj (iy ids))=args') (h:C f args' B=some (r,B')) (h6:B'.length=B.length) (h7:r.wz=true) (h8:B'.all cL.flat=true) (h9:r.Ah (wu ids)=r') (h10:ma ids M ids B'=M'):aR C f args M=some (r',M'):=by
 unfold aR;rw[aW h1,h2,h3];simp only[bO];rw[aW h4,h5,h];simp only[bO];rw[aW ⟨h6,h7,h8⟩,h9,h10]
theorem FJ{α:Type}(p:α->Bool):∀(l:List α)(i:Nat),decide (0<=qz p l i)=l.any p
 | [],_=>rfl
 |x::r,i=>by
  rw[qz,jP]
  by_cases h:p x=true
  ·grind
  ·simp[h];exact FJ p r _
def xb{α:Type}(p:α->Bool)(l:List α):decide (0<=qz p l 0)=l.any p:=FJ p l 0
def uF{C:eR}{f p:Nat}{vs:List ag}{r:ag}{M:aC}{cs:List ag}(hM:nth M p=some (.cells cs))(h:C f (vs++[cv 0]) [.cells cs]=some (r,[.cells cs]))(h1:vs.all ag.flat=true)(h2:vs.flatMap ag.ids=[])(h3:r.wz=true)
  (h4:vs.map (ag.pj (iy [p]))=vs) (h5:r.Ah (wu [p])=r) (h6:cs.all ag.vu=true) (h7:cs.flatMap ag.nC=[]) (h8:cs.map (ag.sd (iy [p]))=cs) (h10:cs.map (ag.sd (wu [p]))=cs) :
  aR C f (vs++[cv p]) M=some (r,M):=by
 have hids:(vs++[ag.ptr p 0]).flatMap ag.ids=[p]:=by simp[ag.ids,ag.nC,ag.iI,h2]
 have hi:qt M [p]=[]:=by simp_all [qt,cL.ids]
 have e0:ko M [p]=[p]:=by simp[ko,hi,j8]
 have e1:reach M [p]=[p]:=by
  have ea:j8 [] [p]=[p]:=rfl;simp only[reach,ea,e0]
 have hfl:(vs++[ag.ptr p 0]).all ag.flat=true:=by rw[ow,h1]; rfl
 simp_all [aR,jX,iy,cL.flat,cL.pj,bO,ag.pj,aZ,ag.sd,ag.uk,ma,uQ]
def St(sz:Nat):cD := .seq (.region [ob 9 (.bin .lss (.tmp 8) (.tmp 7))] false [0,1,7,8,9]) (.seq (.cond (.tmp 9) .skip (.exit 0)) (.seq (.block 1 (.seq (.region [ob 10 (.mv (.tmp 8)),ob 5 (.mv (.tmp 10))] false [0,1,5,7,8])
 (.seq (.region [ob 11 (.mv (.tmp 1)),ob 12 (.mv (.tmp 0)),ob 13 (.mv (.tmp 5)),ob 14 (.ua sz (.tmp 12) (.tmp 13)),ob 15 (.mL sz (.tmp 14)),ob 16 (.sv (.tmp 11) [.tmp 15])] false [0,1,5,7,8,16]) (.cond (.tmp 16) (.seq (.region [ob 17 (.mv (.tmp 5)),ob 4 (.mv (.tmp 17))] false [4]) .ret) .skip))))
 (.region [ob 18 (.bin .add (.tmp 8) (.sY (.int .i64 1))),ob 8 (.mv (.tmp 18))] false [0,1,7,8])))
def Su(sz:Nat):eG:=⟨2,[.tmp 4],.seq (.region [ob 4 (.mv (.sY (.int .i64 0)))] false [0,1]) (.seq (.seq (.region [ob 6 (.mv (.tmp 0)),ob 7 (.zP (.tmp 6)),ob 8 (.mv (.sY (.int .i64 0)))] false [0,1,7,8]) (.block 0 (.loop [0,1,7,8] (St sz))))
 (.seq (.region [ob 4 (.mv (.sY (.int .i64 (-1))))] false [4]) .ret))⟩
section
variable {T:zo} {f sz:Nat} {α:Type} {e:α->List ag} {xs:List α} {fv:ag} {M:aC}
attribute [local irreducible] eX fJ lj gK dY kr aq aR cp bI
def DB{p:α->Bool}{N:Nat}(hc:T.code f=some (Su sz))(hp:T.oO f=none)(hn:xs.length<=N)(hz:∀x,(e x).length=sz)(hs:∀x,(e x).map ag.shut=e x)(hf:fv.mF M.length M=fv)(hM:M.map (cL.back M.length M)=M)
  (hk:∀x,x∈xs->aip (aq T) fv M [.agg (e x)] (.bool (p x))) (hN:N<=900000:=by omega):aq T f [gA (xs.map fun x => .agg (e x)),fv] M=some (aF (qz p xs 0),M):=by
 refine aB ?_ hp hc rfl;have ht:∀x,(e x).take sz=e x:=fun x=>bB (by rw[hz]; exact au _)
 simp only[Su,EV,seval];refine nh (xs:=xs) aH (fun m s=>s=m) (fun l (s:Nat)=>qz p l s) (fun _ i=>[(0,gA (xs.map fun x => .agg (e x))),(1,fv),(7,aF xs.length),(8,aF i)]) (fun _=>M) (fun r=>some (aF r,M)) (fun s hs'=>?_) (fun pre x post s h hx cJ hw h0 hm hI hi=>?_) 0 rfl
 ·simp only[ni (St.eq_1 sz),qz,bm,hM,bH,EV,seval]
 ·have i1:=hi (pre.length+1) rfl;rw[hI,qz];rcases hk x hm with ⟨g,caps,rfl,hq⟩|⟨g,caps,rfl,hq⟩
  all_goals
   simp only[aG,aO,ag.mF,ag.jU,ag.jE] at hq hf;simp only[ni (St.eq_1 sz),cJ,hx,hw,h0,hz,ht,hs,hq,EV,seval];refine bA (fun hb=>?_) (fun hb=>?_)
   ·simp only[hb,hM,bH,EV,seval]
   ·simp only[hb,hw,hf,hM,bH,af,EV,seval];exact i1
def bsB(sz:Nat):cD := .seq (.seq (.region [ob 15 (.mv (.tmp 9)),ob 16 (.mv (.tmp 10)),ob 17 (.bin .lss (.tmp 15) (.tmp 16))] false [0,1,2,8,9,10,17]) (.cond (.tmp 17) .skip (.exit 0)))
 (.block 1 (.seq (.region [ob 18 (.mv (.tmp 9)),ob 19 (.mv (.tmp 10)),ob 20 (.bin .add (.tmp 18) (.tmp 19)),ob 21 (.conv .u64 (.tmp 20)),ob 22 (.bin .shr (.tmp 21) (.sY (.int .u64 1))),ob 23 (.conv .i64 (.tmp 22)),ob 11 (.mv (.tmp 23))] false [0,1,2,8,9,10,11])
  (.seq (.region [ob 24 (.mv (.tmp 2)),ob 25 (.mv (.tmp 0)),ob 26 (.mv (.tmp 11)),ob 27 (.ua sz (.tmp 25) (.tmp 26)),ob 28 (.mL sz (.tmp 27)),ob 29 (.mv (.tmp 1)),ob 30 (.sv (.tmp 24) [.tmp 28,.tmp 29]),ob 31 (.bin .lss (.tmp 30) (.sY (.int .i64 0)))] false [0,1,2,8,9,10,11,31])
   (.cond (.tmp 31) (.region [ob 32 (.mv (.tmp 11)),ob 33 (.bin .add (.tmp 32) (.sY (.int .i64 1))),ob 9 (.mv (.tmp 33))] false [0,1,2,8,9,10]) (.region [ob 34 (.mv (.tmp 11)),ob 10 (.mv (.tmp 34))] false [0,1,2,8,9,10])))))
def bsE(sz:Nat):cD := .seq (.region [ob 35 (.mv (.tmp 9)),ob 36 (.mv (.tmp 9)),ob 37 (.mv (.tmp 8)),ob 38 (.bin .lss (.tmp 36) (.tmp 37)),ob 39 (.mv (.tmp 38)),og 40 39 true (.mv (.tmp 2)),og 41 39 true (.mv (.tmp 0)),og 42 39 true (.mv (.tmp 9)),og 43 39 true (.ua sz (.tmp 41) (.tmp 42)),
 og 44 39 true (.mL sz (.tmp 43)),og 45 39 true (.mv (.tmp 1)),og 46 39 true (.sv (.tmp 40) [.tmp 44,.tmp 45]),og 47 39 true (.bin .eql (.tmp 46) (.sY (.int .i64 0))),ob 48 (.pick (.tmp 39) (.tmp 47) (.sY (.bool false))),ob 6 (.mv (.tmp 35)),ob 7 (.mv (.tmp 48))] false [6,7]) .ret
def bsF(sz:Nat):eG:=⟨3,[.tmp 6,.tmp 7],.seq (.region [ob 6 (.mv (.sY (.int .i64 0))),ob 7 (.mv (.sY (.bool false)))] false [0,1,2]) (.seq (.region [ob 12 (.mv (.tmp 0)),ob 13 (.zP (.tmp 12)),ob 8 (.mv (.tmp 13))] false [0,1,2,8])
 (.seq (.region [ob 14 (.mv (.tmp 8)),ob 9 (.mv (.sY (.int .i64 0))),ob 10 (.mv (.tmp 14))] false [0,1,2,8,9,10]) (.seq (.block 0 (.loop [0,1,2,8,9,10] (bsB sz))) (bsE sz))))⟩
def YQ{c:α->Int}{key:ag}{b:Nat}(hc:T.code f=some (bsF sz))(hp:T.oO f=none)(hb:Xz (fun x=>decide (c x<0)) xs b)(hn:xs.length<=100000)(hz:∀x,(e x).length=sz)(hs:∀x,(e x).map ag.shut=e x)(hf0:(∃g caps,fv = .func g caps)\/∃g fs,fv = .qV g fs)(hf:fv.mF M.length M=fv)
  (hM:M.map (cL.back M.length M)=M) (hk1:key.fV=key) (hk2:key.mF M.length M=key) (hk3:key.jm=false) (hk:∀x,x∈xs->aip (aq T) fv M [.agg (e x),key] (aF (c x))) :
  aq T f [gA (xs.map fun x => .agg (e x)),key,fv] M=some (.tuple [aF b,.bool (pg (fun x=>c x==0) xs b)],M):=by
 refine aB ?_ hp hc rfl;have ht:∀x,(e x).take sz=e x:=fun x=>bB (by rw[hz]; exact au _)
 have hfp:fv.jm=false:=by rcases hf0 with ⟨g,caps,rfl⟩|⟨g,caps,rfl⟩<;>rfl
 simp only[bsF,hk3,hfp,EV,seval]
 have key:∀(n i j:Nat),j-i<=n->i<=b->b<=j->j<=xs.length->eX (aq T) [.tmp 6,.tmp 7] M.length [.block 0,.seq (bsE sz)] (.loop [0,1,2,8,9,10] (bsB sz)) [(0,gA (xs.map fun x => .agg (e x))),(1,key),(2,fv),(8,aF xs.length),(9,aF i),(10,aF j)] M =
   some (.tuple [aF b,.bool (pg (fun x=>c x==0) xs b)],M):=by
  have fin:∀j:Nat,j<=b->eX (aq T) [.tmp 6,.tmp 7] M.length [.block 0,.seq (bsE sz)] (.loop [0,1,2,8,9,10] (bsB sz)) [(0,gA (xs.map fun x => .agg (e x))),(1,key),(2,fv),(8,aF xs.length),(9,aF b),(10,aF j)] M =
    some (.tuple [aF b,.bool (pg (fun x=>c x==0) xs b)],M):=by
   intro j hj;rw[bF];have cJ:((b:Int)<(j:Int))=False:=gh;simp only[ni (bsB.eq_1 sz),bsE,cJ,hk3,hfp,EV,seval];unfold pg
   by_cases cJ:b<xs.length
   ·have hx:=ai cJ;have h1:((b:Int)<(xs.length:Int))=True:=gh;rcases hk _ (aI hx) with ⟨g,caps,rfl,hq⟩|⟨g,caps,rfl,hq⟩
    all_goals
     try simp only[aG,aO] at hq
     simp only[hx,h1,hz,ht,hs,hk1,hk3,hq,hM,bH,EV,seval]
   ·have hx:xs[b]?=none:=eS aH;have h1:((b:Int)<(xs.length:Int))=False:=gh;simp only[hx,h1,hM,bH,EV,seval]
  intro n;induction n with
  |zero =>
   intro i j h1 h2 h3 h4;obtain rfl:i=b:=aH;exact fin j aH
  |succ n ih =>
   intro i j h1 h2 h3 h4
   by_cases hij:i<j
   case neg =>
    obtain rfl:i=b:=aH;exact fin j aH
   rw[bF]
   ·have cJ:((i:Int)<(j:Int))=True:=gh;obtain⟨m1,m2,m3,m4,m5⟩:=VV i j aH aH;have hmid:(i+j) / 2<xs.length:=aH;have hx:=ai hmid;have hl:=hb.lt _ _ hx;rcases hk _ (aI hx) with ⟨g,caps,rfl,hq⟩|⟨g,caps,rfl,hq⟩
    all_goals
     simp only[aG,aO,ag.mF,ag.jU,ag.jE] at hq hf;simp only[ni (bsB.eq_1 sz),cJ,m1,m2,m3,m4,hx,hz,ht,hs,hk1,hk2,hk3,hf,hq,EV,seval];refine bA (fun hq=>?_) (fun hq=>?_)
     ·simp only[m5,hk1,hk2,hk3,hf,hM,bH,EV,seval];exact ih ((i+j) / 2+1) j aH (hl.1 (by simpa using hq)) h3 h4
     ·simp only[hk1,hk2,hk3,hf,hM,bH,EV,seval];exact ih i ((i+j) / 2) aH h2 (Nat.not_lt.1 fun h=>by have:=hl.2 h; simp_all) aH
 exact key xs.length 0 xs.length aH aH hb.le aH
def aeV(sz:Nat)(ld:fZ->ku)(ne:fZ->fZ->ku):cD := .seq (.region [ob 14 (.bin .lss (.tmp 13) (.tmp 12))] false [0,1,12,13,14]) (.seq (.cond (.tmp 14) .skip (.exit 0)) (.seq (.block 1 (.seq (.region [ob 15 (.mv (.tmp 13)),ob 5 (.mv (.tmp 15))] false [0,1,5,12,13])
 (.seq (.region [ob 16 (.mv (.tmp 0)),ob 17 (.mv (.tmp 5)),ob 18 (.ua sz (.tmp 16) (.tmp 17)),ob 19 (ld (.tmp 18)),ob 20 (.mv (.tmp 1)),ob 21 (.mv (.tmp 5)),ob 22 (.ua sz (.tmp 20) (.tmp 21)),ob 23 (ld (.tmp 22)),ob 24 (ne (.tmp 19) (.tmp 23))] true [0,1,12,13,24])
  (.cond (.tmp 24) (.seq (.region [ob 4 (.mv (.sY (.bool false)))] false [4]) .ret) .skip))))
 (.region [ob 25 (.bin .add (.tmp 13) (.sY (.int .i64 1))),ob 13 (.mv (.tmp 25))] false [0,1,12,13])))
def akQ(sz:Nat)(ld:fZ->ku)(ne:fZ->fZ->ku):eG:=⟨2,[.tmp 4],.seq (.region [ob 4 (.mv (.sY (.bool false)))] false [0,1])
 (.seq (.seq (.region [ob 6 (.mv (.tmp 0)),ob 7 (.zP (.tmp 6)),ob 8 (.mv (.tmp 1)),ob 9 (.zP (.tmp 8)),ob 10 (.bin .neq (.tmp 7) (.tmp 9))] false [0,1,10]) (.cond (.tmp 10) (.seq (.region [ob 4 (.mv (.sY (.bool false)))] false [4]) .ret) .skip))
 (.seq (.seq (.region [ob 11 (.mv (.tmp 0)),ob 12 (.zP (.tmp 11)),ob 13 (.mv (.sY (.int .i64 0)))] false [0,1,12,13]) (.block 0 (.loop [0,1,12,13] (aeV sz ld ne)))) (.seq (.region [ob 4 (.mv (.sY (.bool true)))] false [4]) .ret)))⟩
def DA[DecidableEq α]{e:α->ag}{ld:fZ->ku}{ne:fZ->fZ->ku}{a b:List α}(hc:T.code f=some (akQ sz ld ne))(hp:T.oO f=none)(ha:a.length<=100000)(hz:∀x,(e x).cells.length=sz)(hpn:∀x,(e x).jm=false)
  (hb:∀x,(e x).mF 0 []=e x)
  (hl:∀(bq:Env)(M:aC)(t:Nat)(x:α),ia bq t = .jB (e x).cells->ef (aq T) bq M (ld (.tmp t))=some (e x,M))
  (hn:∀(bq:Env)(M:aC)(t u:Nat)(x y:α),ia bq t=e x->ia bq u=e y->ef (aq T) bq M (ne (.tmp t) (.tmp u))=some (.bool (!decide (x=y)),M)) :
  aq T f [gA (a.map e),gA (b.map e)] []=some (.bool (decide (a=b)),[]):=by
 refine aB ?_ hp hc rfl;simp only[akQ,EV,seval];refine bA (fun hq=>?_) (fun hq=>?_)
 ·have:decide (a=b)=false:=by
   simp at hq ⊢;rintro rfl; exact hq rfl
  simp only[this,EV,seval]
 have dR:a.length=b.length:=by simp at hq; omega
 simp only[EV,seval];refine nh (xs:=a) aH (fun m (_:Unit)=>a.take m=b.take m) (fun _ _=>()) (fun _ i=>[(0,gA (a.map e)),(1,gA (b.map e)),(12,aF a.length),(13,aF i)]) (fun _=>[]) (fun _=>some (.bool (decide (a=b)),[])) (fun _ hI=>?_) (fun pre x post s h hx cJ hw h0 hm hI hi=>?_) () rfl
 ·have:a=b:=Ai dR hI;simp only[ni (aeV.eq_1 sz ld ne),ik this,bm,EV,seval]
 ·have hlt2:pre.length<b.length:=by rw[<-dR,h]; simp
  obtain⟨y,hy⟩:∃y,b[pre.length]?=some y:=⟨_,ai hlt2⟩;simp only[ni (aeV.eq_1 sz ld ne),cJ,hx,hy,h0,hz,EV,seval];rw[hl _ _ _ x rfl];simp only[hpn,hy,h0,hz,EV,seval];rw[hl _ _ _ y rfl];simp only[hpn,EV,seval];rw[hn _ _ _ _ x y rfl rfl];simp only[EV,seval];refine bA (fun hq=>?_) (fun hq=>?_)
  ·have:decide (a=b)=false:=gn fun hab=>by
    rw[hab,hy] at hx; injection hx with hx; simp[hx] at hq
   simp only[this,EV,seval]
  ·have hxy:x=y:=by simpa using hq
   subst hxy;simp only[hw,EV,seval];exact hi () (yc hI hx hy)
def aeU(sz:Nat)(z:List ag):cD := .seq (.region [ob 18 (.bin .lss (.tmp 17) (.tmp 16))] false [1,2,15,16,17,18]) (.seq (.cond (.tmp 18) .skip (.exit 0)) (.seq (.block 1 (.seq
 (.region [ob 19 (.mv (.tmp 17)),ob 20 (.ua sz (.tmp 15) (.tmp 17)),ob 21 (.mL sz (.tmp 20)),ob 8 (.yL z),ob 7 (.mv (.tmp 19)),ox (.store sz (.tmp 8) (.tmp 21))] false [1,2,7,8,15,16,17])
 (.seq (.region [ob 22 (.mv (.tmp 1)),ob 23 (.mv (.tmp 7)),ob 24 (.ua sz (.tmp 22) (.tmp 23)),ob 25 (.mL sz (.tmp 24)),ob 9 (.yL z),ox (.store sz (.tmp 9) (.tmp 25))] false [1,2,8,9,15,16,17])
  (.seq (.region [ob 26 (.mv (.tmp 2)),ob 27 (.mL sz (.tmp 8)),ob 28 (.mL sz (.tmp 9)),ob 29 (.sv (.tmp 26) [.tmp 27,.tmp 28]),ob 30 (.not (.tmp 29))] false [1,2,15,16,17,30]) (.cond (.tmp 30) (.seq (.region [ob 6 (.mv (.sY (.bool false)))] false [6]) .ret) .skip)))))
 (.region [ob 31 (.bin .add (.tmp 17) (.sY (.int .i64 1))),ob 17 (.mv (.tmp 31))] false [1,2,15,16,17])))
def akP(sz:Nat)(z:List ag):eG:=⟨3,[.tmp 6],.seq (.region [ob 6 (.mv (.sY (.bool false)))] false [0,1,2])
 (.seq (.seq (.region [ob 10 (.mv (.tmp 0)),ob 11 (.zP (.tmp 10)),ob 12 (.mv (.tmp 1)),ob 13 (.zP (.tmp 12)),ob 14 (.bin .neq (.tmp 11) (.tmp 13))] false [0,1,2,14]) (.cond (.tmp 14) (.seq (.region [ob 6 (.mv (.sY (.bool false)))] false [6]) .ret) .skip))
 (.seq (.seq (.region [ob 15 (.mv (.tmp 0)),ob 16 (.zP (.tmp 15)),ob 17 (.mv (.sY (.int .i64 0)))] false [1,2,15,16,17]) (.block 0 (.loop [1,2,15,16,17] (aeU sz z)))) (.seq (.region [ob 6 (.mv (.sY (.bool true)))] false [6]) .ret)))⟩
def ado[DecidableEq α]{z:List ag}{g:Nat}{a b:List α}(hc:T.code f=some (akP sz z))(hp:T.oO f=none)(ha:a.length<=100000)(hz:∀x,(e x).length=sz)(hz0:z.length=sz)(hs:∀x,(e x).map ag.shut=e x)
  (hcl:∀x,(e x).all ag.jf=true) (hk:∀x y M,x∈a->aR (aq T) g [.agg (e x),.agg (e y)] M=some (.bool (decide (x=y)),M)) :
  aq T f [gA (a.map fun x => .agg (e x)),gA (b.map fun x => .agg (e x)),.func g []] []=some (.bool (decide (a=b)),[]):=by
 refine aB ?_ hp hc rfl;have ht:∀x,(e x).take sz=e x:=fun x=>bB (by rw[hz]; exact au _)
 have hzd:z.drop sz=[]:=iu aH;simp only[akP,EV,seval];refine bA (fun hq=>?_) (fun hq=>?_)
 ·have:decide (a=b)=false:=by
   simp at hq ⊢;rintro rfl; exact hq rfl
  simp only[this,EV,seval]
 have dR:a.length=b.length:=by simp at hq; omega
 simp only[EV,seval];refine nh (xs:=a) aH (fun m (_:Unit)=>a.take m=b.take m) (fun _ _=>()) (fun _ i=>[(1,gA (b.map fun x => .agg (e x))),(2,.func g []),(15,gA (a.map fun x => .agg (e x))),(16,aF a.length),(17,aF i)]) (fun _=>[]) (fun _=>some (.bool (decide (a=b)),[])) (fun _ hI=>?_) (fun pre x post s h hx cJ hw h0 hm hI hi=>?_) () rfl
 ·have:a=b:=Ai dR hI;simp only[ni (aeU.eq_1 sz z),ik this,bm,EV,seval]
 ·have hlt2:pre.length<b.length:=by rw[<-dR,h]; simp
  obtain⟨y,hy⟩:∃y,b[pre.length]?=some y:=⟨_,ai hlt2⟩;simp only[ni (aeU.eq_1 sz z),cJ,hx,hy,h0,hz,ht,hs,hcl,hz0,hzd,hk x y _ hm,EV,seval];refine bA (fun hq=>?_) (fun hq=>?_)
  ·have:decide (a=b)=false:=gn fun hab=>by
    rw[hab,hy] at hx; injection hx with hx; simp[hx] at hq
   simp only[this,EV,seval]
  ·have hxy:x=y:=by simpa using hq
   subst hxy;simp only[hw,EV,seval];exact hi () (yc hI hx hy)
structure Stl(b:cL):Prop where
 back:∀B M,b.back B M=b
 flat:b.flat=true
 pj:∀ρ,b.pj ρ=b
 ids:b.ids=[]
def FL{p:α->Bool}:∀ {l:List α} {i:Nat},qz p l i = -1->l.filter (fun x => !p x)=l
 | [],_,_=>rfl
 |x::l,i,h=>by
  rw[qz] at h;split at h
  ·omega
  ·rename_i hx;rw[mw (by simpa using hx),FL h]
def FM{p:α->Bool}:∀ {l:List α} {i:Nat},qz p l i ≠ -1->∃A x U,l=A++x::U/\qz p l i=((i+A.length:Nat):Int)/\l.filter (fun x => !p x)=A++U.filter fun x => !p x
 | [],_,h=>absurd rfl h
 |x::l,i,h=>by
  rw[qz] at h ⊢;split
  ·rename_i hx; exact⟨[],x,l,rfl,rfl,by rw[List.filter_cons_of_neg (by simpa using hx)]; rfl⟩
  ·rename_i hx;rw[aP hx] at h;obtain⟨A,y,U,h1,h2,h3⟩:=FM h;exact⟨x::A,y,U,by rw[h1]; rfl,by rw[h2]; simp; omega,by rw[mw (by simpa using hx),h3]; rfl⟩
def dlB(sz:Nat)(z:List ag):cD := .seq (.seq (.region [ob 16 (.mv (.tmp 6)),ob 17 (.mv (.tmp 0)),ob 18 (.zP (.tmp 17)),ob 19 (.bin .lss (.tmp 16) (.tmp 18))] false [0,1,5,6,19]) (.cond (.tmp 19) .skip (.exit 0)))
 (.seq (.block 1 (.seq (.region [ob 22 (.mv (.tmp 0)),ob 23 (.mv (.tmp 6)),ob 24 (.ua sz (.tmp 22) (.tmp 23)),ob 25 (.mL sz (.tmp 24)),ob 7 (.yL z),ox (.store sz (.tmp 7) (.tmp 25))] false [0,1,5,6,7])
  (.seq (.region [ob 26 (.mv (.tmp 1)),ob 27 (.mL sz (.tmp 7)),ob 28 (.sv (.tmp 26) [.tmp 27]),ob 29 (.not (.tmp 28))] false [0,1,5,6,7,29])
   (.cond (.tmp 29) (.seq (.region [ob 30 (.mv (.tmp 0)),ob 31 (.mv (.tmp 5)),ob 32 (.mL sz (.tmp 7)),ob 33 (.ua sz (.tmp 30) (.tmp 31)),ox (.store sz (.tmp 33) (.tmp 32))] false [0,1,5,6]) (.region [ob 34 (.mv (.tmp 5)),ob 35 (.bin .add (.tmp 34) (.sY (.int .i64 1))),ob 5 (.mv (.tmp 35))] false [0,1,5,6])) .skip))))
 (.region [ob 20 (.mv (.tmp 6)),ob 21 (.bin .add (.tmp 20) (.sY (.int .i64 1))),ob 6 (.mv (.tmp 21))] false [0,1,5,6]))
def dlF(sz:Nat)(z zc:List ag)(gi:Nat):eG:=⟨2,[.tmp 4],.seq (.region [ob 4 (.mv (.sY (.slice .c0 [])))] false [0,1])
 (.seq (.region [ob 8 (.mv (.tmp 0)),ob 9 (.mv (.tmp 1)),ob 10 (.call gi [.tmp 8,.tmp 9]),ob 5 (.mv (.tmp 10))] false [0,1,5])
 (.seq (.seq (.region [ob 11 (.mv (.tmp 5)),ob 12 (.bin .eql (.tmp 11) (.sY (.int .i64 (-1))))] false [0,1,5,12]) (.cond (.tmp 12) (.seq (.region [ob 13 (.mv (.tmp 0)),ob 4 (.mv (.tmp 13))] false [4]) .ret) .skip))
 (.seq (.seq (.region [ob 14 (.mv (.tmp 5)),ob 15 (.bin .add (.tmp 14) (.sY (.int .i64 1))),ob 6 (.mv (.tmp 15))] false [0,1,5,6]) (.block 0 (.loop [0,1,5,6] (dlB sz z))))
 (.seq (.region [ob 36 (.mv (.tmp 0)),ob 37 (.mv (.tmp 5)),ob 38 (.uo sz (.tmp 36) (some (.tmp 37)) none none),ox (.w5 sz zc (.tmp 38))] false [0,5])
 (.seq (.region [ob 39 (.mv (.tmp 0)),ob 40 (.mv (.tmp 5)),ob 41 (.uo sz (.tmp 39) none (some (.tmp 40)) none),ob 4 (.mv (.tmp 41))] false [4]) .ret)))))⟩
def ae9{p:α->Bool}{X:cL}{g:Nat}(hc:T.code f=some (Su sz))(hp:T.oO f=none)(hn:xs.length<=100000)(hz:∀x,(e x).length=sz)(hs:∀x,(e x).map ag.shut=e x)(hX:Stl X)
  (hk:∀x b M,aR (aq T) g [.agg (e x),cv 1] (b::X::M)=some (.bool (p x),b::X::M)) :
  aq T f [.cB 0 0 sz 0 xs.length,.func g [cv 1]] [.arr sz 0 (xs.map fun x => .agg (e x)),X]=some (aF (qz p xs 0),[.arr sz 0 (xs.map fun x => .agg (e x)),X]):=by
 refine aB ?_ hp hc rfl;have ht:∀x,(e x).take sz=e x:=fun x=>bB (by rw[hz]; exact au _)
 simp only[Su,bT,EV,seval];refine nh (xs:=xs) aH (fun m s=>s=m) (fun l (s:Nat)=>qz p l s) (fun _ i=>[(0,.cB 0 0 sz 0 xs.length),(1,.func g [cv 1]),(7,aF xs.length),(8,aF i)]) (fun _=>[.arr sz 0 (xs.map fun x => .agg (e x)),X]) (fun r=>some (aF r,[.arr sz 0 (xs.map fun x => .agg (e x)),X])) (fun s hs'=>?_) (fun pre x post s h hx cJ hw h0 hm hI hi=>?_) 0 rfl
 ·simp only[ni (St.eq_1 sz),qz,bm,hX.back,EV,seval]
 ·have i1:=hi (pre.length+1) rfl;rw[hI,qz];have hl2:((pre.length:Int)<((xs.length-0:Nat):Int))=True:=cJ;simp only[ni (St.eq_1 sz),cJ,hl2,hx,hw,h0,hz,ht,hs,hk,hX.back,EV,seval];refine bA (fun hb=>?_) (fun hb=>?_)
  ·simp only[hb,hX.back,EV,seval]
  ·simp only[hb,hw,hX.back,af,EV,seval];exact i1
def aeC{C:eR}{X:cL}(hX:Stl X){g n:Nat}{row:List ag}{r:Int}(h:C f [.cB 0 0 sz 0 n,.func g [cv 1]] [.arr sz 0 row,X]=some (aF r,[.arr sz 0 row,X])) :
  aR C f [.cB 0 0 sz 0 n,.func g [cv 1]] [.arr sz 0 row,X]=some (aF r,[.arr sz 0 row,X]):=by
 have a1:(cL.arr sz 0 row).ids=[]:=rfl;have a2:(cL.arr sz 0 row).flat=true:=rfl;have a3:∀ρ,(cL.arr sz 0 row).pj ρ = .arr sz 0 row:=fun _=>rfl
 have e1:qt [.arr sz 0 row,X] [0,1]=[]:=by simp[qt,nth,a1,hX.ids]
 have e2:ko [.arr sz 0 row,X] [0,1]=[0,1]:=by simp[ko,e1,j8]
 have e3:reach [.arr sz 0 row,X] [0,1]=[0,1]:=by
  have ea:j8 [] [0,1]=[0,1]:=rfl;simp only[reach,ea,e2]
 have e4:[ag.cB 0 0 sz 0 n,.func g [cv 1]].flatMap ag.ids=[0,1]:=rfl;have e5:jX [.arr sz 0 row,X] (iy [0,1]) [0,1]=some [.arr sz 0 row,X]:=by simp[jX,nth,hX.flat,hX.pj,a2,a3]
 have e6:[ag.cB 0 0 sz 0 n,.func g [cv 1]].map (ag.pj (iy [0,1]))=[.cB 0 0 sz 0 n,.func g [cv 1]]:=rfl;unfold aR;rw[aW (show[ag.cB 0 0 sz 0 n,.func g [cv 1]].all ag.flat=true from rfl),e4,e3,e5,bO,aW e2,e6,h,bO,aW ⟨rfl,rfl,by simp[a2,hX.flat]⟩]
 simp[ma,iT,hX.pj,a3,ag.Ah,ag.pj,ag.sd,ag.uk]
def aeP{p:α->Bool}{X:cL}{g N:Nat}{z:List ag}{k:List K}{R:List α->List α->Option (ag×aC)}(hN:N<=100000)(hz:∀x,(e x).length=sz)(hz0:z.length=sz)(hs:∀x,(e x).map ag.shut=e x)(hpl:∀x,(e x).all ag.plainCell=true)(hcl:∀x,(e x).all ag.jf=true)(hX:Stl X)
  (hk:∀x b M,aR (aq T) g [.agg (e x),cv 1] (b::X::M)=some (.bool (p x),b::X::M))
  (hx:∀(A G:List α) v q,A.length+G.length=N->G≠[]->kr (aq T) [.tmp 4] 2 k ⟨.exit 0,[(0,.cB 0 0 sz 0 N),(1,.func g [cv 1]),(5,aF A.length),(6,v),(19,q)],[.arr sz 0 ((A++G).map fun x => .agg (e x)),X]⟩=R A G) :
  ∀(U A G:List α),A.length+G.length+U.length=N->G≠[]->∃G',A.length+(U.filter fun x => !p x).length+G'.length=N/\eX (aq T) [.tmp 4] 2 k (.loop [0,1,5,6] (dlB sz z)) [(0,.cB 0 0 sz 0 N),(1,.func g [cv 1]),(5,aF A.length),(6,aF ((A.length+G.length:Nat):Int))] [.arr sz 0 ((A++G++U).map fun x => .agg (e x)),X] =
   R (A++U.filter fun x => !p x) G':=by
 have ht:∀x,(e x).take sz=e x:=fun x=>bB (by rw[hz]; exact au _)
 have hzd:z.drop sz=[]:=iu aH;intro U;induction U with
 |nil =>
  intro A G hl hg;have cJ:(((A.length+G.length:Nat):Int)<((N-0:Nat):Int))=False:=by simp only[fx,p6]; simp at hl ⊢; omega
  refine⟨G,by simpa using hl,?_⟩
  rw[bF];simp only[ni (dlB.eq_1 sz z),cJ,db,kH,EV,seval];exact hx A G _ _ (by simpa using hl) hg
 |cons x U ih =>
  intro A G hl hg;simp only[av] at hl;have cJ:(((A.length+G.length:Nat):Int)<((N-0:Nat):Int))=True:=sH;have hnn:((0:Int)<=((A.length+G.length:Nat):Int))=True:=sH
  have hat:(A++G++x::U)[A.length+G.length]?=some x:=by
   rw[bt dw]; simp
  have hw:IntKind.i64.wrap (((A.length+G.length:Nat):Int)+1)=((A.length+G.length+1:Nat):Int):=by rw[gW aH aH]; omega
  have hw1:IntKind.i64.wrap ((A.length:Int)+1)=((A.length+1:Nat):Int):=by rw[gW aH aH]; omega
  obtain⟨g0,G0,hG⟩:=fm hg;have hga:(A++G++x::U)[A.length]?=some g0:=by rw[hG]; simp
  have hset:(A++G++x::U).set A.length x=(A++[x])++(G0++[x])++U:=by rw[hG]; simp
  have hlt2:((A.length:Int)<((N-0:Nat):Int))=True:=sH
  have hput:iT ((A++G++x::U).map fun x=>ag.agg (e x)) A.length (putCells (.agg (e g0)) 0 (e x))=((A++[x])++(G0++[x])++U).map fun x=>ag.agg (e x):=by
   have:putCells (.agg (e g0)) 0 (e x) = .agg (e x):=by simp[putCells,mQ,hz,iu]
   rw[this,fj,<-hset,gH]
  rw[bF];cases hb:p x
  ·obtain⟨G',h0,h1⟩:=ih (A++[x]) (G0++[x]) (by rw[hG] at hl; simp at hl ⊢; omega) dw
   have hl1:(((A++[x]).length+(G0++[x]).length:Nat):Int)=((A.length+G.length+1:Nat):Int):=by rw[hG]; simp; omega
   have hl3:((A++[x]).length:Int)=((A.length+1:Nat):Int):=dw;have hf:(x::U).filter (fun x => !p x)=x::U.filter fun x => !p x:=mw (by simpa using hb)
   rw[hl1,hl3] at h1;refine⟨G',by rw[hf]; simp at h0 ⊢; omega,?_⟩
   rw[hf,show A++x::U.filter (fun x => !p x)=A++[x]++U.filter fun x => !p x by simp,<-h1]
   simp only[ni (dlB.eq_1 sz z),cJ,hnn,hat,hz,hz0,hzd,ht,hs,hcl,hk,hb,hlt2,hga,hput,hpl,hw,hw1,hX.back,EV,seval]
   done
  ·obtain⟨G',h0,h1⟩:=ih A (G++[x]) gh dw;have hl2:((A.length+(G++[x]).length:Nat):Int)=((A.length+G.length+1:Nat):Int):=gh;have hf:(x::U).filter (fun x => !p x)=U.filter fun x => !p x:=List.filter_cons_of_neg (by simpa using hb)
   rw[hl2,show A++(G++[x])++U=A++G++x::U by simp] at h1
   refine⟨G',by rw[hf]; exact h0,?_⟩
   rw[hf,<-h1];simp only[ni (dlB.eq_1 sz z),cJ,hnn,hat,hz,hz0,hzd,ht,hs,hcl,hk,hb,hw,hX.back,EV,seval]
   done
def Dj(sz m:Nat):ag:=if m=0 then .slice .sh [] else .cB 0 0 sz 0 m
def adn{p:α->Bool}{X:cL}{g gi:Nat}{z zc:List ag}{zx:α}(hc:T.code f=some (dlF sz z zc gi))(hp:T.oO f=none)(hci:T.code gi=some (Su sz))(hpi:T.oO gi=none)(hzx:e zx=zc)(hn:xs.length<=100000)(hz:∀x,(e x).length=sz)(hz0:z.length=sz)(h1:1<sz)(hs:∀x,(e x).map ag.shut=e x)
  (hpl:∀x,(e x).all ag.plainCell=true) (hcl:∀x,(e x).all ag.jf=true) (hX:Stl X) (hk:∀x b M,aR (aq T) g [.agg (e x),cv 1] (b::X::M)=some (.bool (p x),b::X::M)) (h0:xs≠[]) :
  aq T f [.cB 0 0 sz 0 xs.length,.func g [cv 1]] [.arr sz 0 (xs.map fun x => .agg (e x)),X] =
   some (Dj sz (xs.filter fun x => !p x).length,[.arr sz 0 (((xs.filter fun x => !p x)++List.replicate (xs.length-(xs.filter fun x => !p x).length) zx).map fun x => .agg (e x)),X]):=by
 have qi:=aeC hX (ae9 hci hpi hn hz hs hX hk);refine aB ?_ hp hc rfl
 by_cases hi:qz p xs 0 = -1
 ·have hl:xs.length≠0:=fun hh=>h0 (dQ.1 hh)
  have hb:(qz p xs 0 == -1)=true:=by simpa using hi
  rw[FL hi];simp only[dlF,qi,hb,hX.back,EV,seval];simp[Dj,hl]
 ·obtain⟨A,x,U,q1,q2,q3⟩:=FM hi;have hb:(qz p xs 0 == -1)=false:=by simpa using hi
  simp only[aJ] at q2;have dR:xs.length=A.length+(U.length+1):=by rw[q1]; simp
  have hw:IntKind.i64.wrap ((A.length:Int)+1)=((A.length+[x].length:Nat):Int):=by rw[gW aH aH]; simp
  have e1:A++[x]++U=xs:=by rw[q1]; simp
  rw[q2] at hb qi;rw[q3];simp only[dlF,qi,hb,hw,hX.back,EV,seval]
  have hx:∀(A' G:List α) v q,A'.length+G.length=xs.length->G≠[]->kr (aq T) [.tmp 4] 2 [.block 0,.seq (.seq (.region [ob 36 (.mv (.tmp 0)),ob 37 (.mv (.tmp 5)),ob 38 (.uo sz (.tmp 36) (some (.tmp 37)) none none),ox (.w5 sz zc (.tmp 38))] false [0,5]) (.seq (.region [ob 39 (.mv (.tmp 0)),ob 40 (.mv (.tmp 5)),ob 41 (.uo sz (.tmp 39) none (some (.tmp 40)) none),ob 4 (.mv (.tmp 41))] false [4]) .ret))] ⟨.exit 0,[(0,.cB 0 0 sz 0 xs.length),(1,.func g [cv 1]),(5,aF A'.length),(6,v),(19,q)],[.arr sz 0 ((A'++G).map fun x => .agg (e x)),X]⟩ =
    some (Dj sz A'.length,[.arr sz 0 ((A'++List.replicate (xs.length-A'.length) zx).map fun x => .agg (e x)),X]):=by
   intro A' G v q hl hg;have hgl:G.length≠0:=fun hh=>hg (dQ.1 hh)
   have b1:(((A'.length:Nat):Int)<=(xs.length:Int))=True:=sH;have b2:(((A'.length:Nat):Int)==(xs.length:Int))=false:=gh;have hN:(A'++G).length=xs.length:=gh;have hd:xs.length-A'.length=G.length:=aH;have hz0:Int.toNat ((0:Nat):Int)=0:=rfl;have hb0:((0:Int)<=((A'.length:Nat):Int))=True:=dw;have hzl:zc.length=sz:=by rw[<-hzx]; exact hz zx
   have hzp:zc.all ag.plainCell=true:=by rw[<-hzx]; exact hpl zx
   have hcl2:((A'++G).map fun x=>ag.agg (e x)).take A'.length++(List.replicate G.length (ag.agg zc)++((A'++G).map fun x=>ag.agg (e x)).drop xs.length)=(A'++List.replicate G.length zx).map fun x=>ag.agg (e x):=by
    rw[<-hN,iu dw];simp[fP,gZ,hzx]
   by_cases hA:A'.length=0
   ·have b3:((0:Int)==((A'.length:Nat):Int))=true:=by simp[hA]
    simp only[gy,bT,dP,b1,b2,hd,hcl2,b3,hz0,hb0,hzl,hzp,hX.back,EV,seval];simp[Dj,hA]
   ·have b3:((0:Int)==((A'.length:Nat):Int))=false:=gh;simp only[gy,bT,dP,b1,b2,hd,hcl2,b3,hz0,hb0,hzl,hzp,hX.back,EV,seval];simp[Dj,hA]
  obtain⟨G',g1,g2⟩:=aeP (R:=fun A' G=>some (Dj sz A'.length,[.arr sz 0 ((A'++List.replicate (xs.length-A'.length) zx).map fun x => .agg (e x)),X])) hn hz hz0 hs hpl hcl hX hk hx U A [x] gh dw
  rw[e1] at g2;simp only[ob,ox,aA,av,az,aJ] at g2;exact g2
end
end Go.Abs
namespace Go.Proofs.YteoamaffclmdbaaGreatDoor
section
open Go Go.Abs
attribute [local irreducible] eX fJ lj gK dY kr aq aR cp bI
def tkN(n:Node):List.take 6 (aL n)=aL n:=rfl
def shN(n:Node):List.map ag.shut (aL n)=aL n:=rfl
def tkE(n:gM):List.take 3 (fU n)=fU n:=rfl
def shE(n:gM):List.map ag.shut (fU n)=fU n:=rfl
def arn(a:Int):aq cd 257 [aF a] []=some (.bool false,[]):=by
 refine aB ?_;simp only[ada,aoP,aw,EN,seval]
def asN a:=cP (arn a)
def qM(a b:Int):Int:=if decide (a<b) then -1 else if decide (b<a) then 1 else 0
def aqO(a b:Int):aq cd 209 [aF a,aF b] []=some (aF (qM a b),[]):=by
 refine aB ?_;simp only[acK,aif,asN,EN,seval]
 repeat' ((first|apply bA|apply bW|apply dK)<;>intro hb<;>simp only[hb,EN,aif,seval])
 all_goals (simp_all only[qM,qx,↓reduceIte,reduceCtorEq,aw]; done)
def Y0 a b:=cP (aqO a b)
def xQ(a b:Int):(qM a b<0)=(a<b):=by
 unfold qM
 by_cases h1:a<b
 ·simp[h1]
 ·by_cases h2:b<a<;>simp[h1,h2]
theorem GS(a b:Int):(qM a b==0)=(a==b):=by
 unfold qM
 by_cases h1:a<b
 ·have:¬a=b:=aH;simp[h1,this]
 ·by_cases h2:b<a
  ·have:¬a=b:=aH;simp[h1,h2,this]
  ·have:a=b:=aH;simp[this]
def arA(n:Node)(ar:Int):aq cd 278 [.agg (aL n),aF ar] []=some (aF (qM n.ar ar),[]):=by
 refine aB ?_;simp only[adj,aoX,bK,aL,Y0,EN,seval]
def asT n ar:=cP (arA n ar)
structure X0(ae:List Node)(ar:Int)(b:Nat):Prop where
 le:b<=ae.length
 lt:∀h n,ae[h]?=some n->(n.ar<ar↔h<b)
def I7(ae:List Node)(ar:Int)(b:Nat):Bool:=match ae[b]? with
 |some n=>n.ar==ar
 |none=>false
def art(ae:List Node)(ar:Int)(b:Nat)(hb:X0 ae ar b)(hn:ae.length<=100000):aq cd 263 [ba ae,aF ar,.func 278 []] []=some (.tuple [aF b,.bool (I7 ae ar b)],[]):=by
 have h:=YQ (f:=263) (sz:=6) (T:=cd) (c:=fun n:Node=>qM n.ar ar) (e:=aL) (fv := .func 278 []) (key := aF ar) (M:=[]) fA rfl ⟨hb.le,fun h n hn=>by simp only[xQ,bh]; exact hb.lt h n hn⟩ hn (fun _=>rfl) (fun _=>rfl) (.inl ⟨_,_,rfl⟩) rfl rfl rfl rfl rfl fun _ _ => .inl ⟨_,_,rfl,asT _ _ _⟩
 simp only[GS] at h;rw[show I7 ae ar b=pg (fun x=>x.ar==ar) ae b by unfold I7 pg; cases ae[b]?<;>rfl]
 exact h
def asP ae ar b hb hn:=cP (art ae ar b hb hn)
def oS(ae:List Node):Prop:=ae.Pairwise fun a b=>a.ar<b.ar
def mg(ae:List Node)(ar:Int):Nat:=(ae.takeWhile fun n=>decide (n.ar<ar)).length
def uN{ae:List Node}(h:oS ae)(ar:Int):X0 ae ar (mg ae ar):=by
 unfold mg;induction ae with
 |nil=>exact⟨dw,fun h n hn=>by simp at hn⟩
 |cons a r ih =>
  obtain⟨h1,h2⟩:=dq.1 h;obtain⟨i1,i2⟩:=ih h2
  by_cases ha:a.ar<ar
  ·rw[iv,aW (by simpa using ha)]
   refine⟨by simpa using i1,fun k n hn=>?_⟩
   cases k with
   |zero=>simp at hn; subst hn; simp[ha]
   |succ k=>rw[i2 k n (by simpa using hn)]; simp
  ·rw[iv,aP (by simpa using ha)]
   refine⟨dw,fun k n hn=>?_⟩
   simp only[az,jI,p6];cases k with
   |zero=>simp at hn; subst hn; exact ha
   |succ k =>
    have:=h1 n (aI (by simpa using hn))
    omega
def th{ae:List Node}(h:oS ae)(ar:Int):(I7 ae ar (mg ae ar)=true/\∃n,ae[mg ae ar]?=some n/\find ae ar=some n/\n.ar=ar)\/(I7 ae ar (mg ae ar)=false/\find ae ar=none):=by
 obtain⟨l1,l2⟩:=uN h ar;cases hf:find ae ar with
 |some n =>
  left;obtain⟨hm,he⟩:=cG hf;obtain⟨k,hk⟩:=bZ hm;have hkb:¬k<mg ae ar:=fun hc=>by have:=(l2 k n hk).2 hc; omega
  have hb:mg ae ar<ae.length:=by have:=(aj.1 hk).1; omega
  have hx:=ai hb;have hnl:¬ae[mg ae ar].ar<ar:=fun hc=>ic _ ((l2 _ _ hx).1 hc)
  have hke:k=mg ae ar:=by
   rcases bE (mg ae ar) k with cJ|hge
   ·have hkl:=(aj.1 hk).1;have h3:=cm.1 h _ _ hb hkl cJ;have h4:ae[k]=n:=by rw[ai hkl] at hk; injection hk
    rw[h4] at h3;omega
   ·omega
  subst hke;exact⟨by unfold I7; rw[hk]; simp[he],n,hk,rfl,he⟩
 |none =>
  right;refine⟨?_,rfl⟩;unfold I7;split
  ·rename_i n hn;have:=fy.1 hf n (aI hn);simpa using this
  ·rfl
def ara(ae:List Node)(next ak ar:Int)(h:oS ae)(hn:ae.length<=100000):aq cd 240 [cv 0,aF ar] [cA [ba ae,aF next,aF ak]] =
  some (.tuple [aF (mg ae ar),.bool (I7 ae ar (mg ae ar))],[cA [ba ae,aF next,aF ak]]):=by
 refine aB ?_;have hk:=asP ae ar _ (uN h ar) hn;simp only[ac1,aoJ,hk,EN,seval]
def aft ae next ak ar h hn p M hM:=cM (p:=p) (M:=M) hM (ara ae next ak ar h hn)
def c194(ae:List Node)(next ak ar:Int)(h:oS ae)(hn:ae.length<=100000):aq cd 194 [cv 0,aF ar] [cA [ba ae,aF next,aF ak]] =
  some (.tuple [bK (bl ae ar),.bool (find ae ar).isSome],[cA [ba ae,aF next,aF ak]]):=by
 refine aB ?_;have hk:=fun M=>aft ae next ak ar h hn 0 (cA [ba ae,aF next,aF ak]::M) rfl
 simp only[acB,ad1,hk,EN,seval];rcases th h ar with ⟨h1,n,h2,h3,h4⟩|⟨h1,h2⟩
 ·simp only[ad1,h1,h2,h3,bl,aL,EN,seval];rfl
 ·simp only[ad1,h1,h2,bl,EN,seval];rfl
def E3 ae next ak ar h hn p M hM:=cM (p:=p) (M:=M) hM (c194 ae next ak ar h hn)
def aqH(ae:List Node)(next ak ar:Int)(h:oS ae)(hn:ae.length<=100000):aq cd 197 [cv 0,aF ar] [cA [ba ae,aF next,aF ak]] =
  some (.tuple [bK (gY ae ar).1,aF (gY ae ar).2],[cA [ba ae,aF next,aF ak]]):=by
 refine aB ?_;have hk:=fun M=>E3 ae next ak ar h hn 0 (cA [ba ae,aF next,aF ak]::M) rfl
 simp only[acD,XT,hk,bK,aL,EN,seval];unfold gY;cases hf:find ae ar with
 |none=>simp only[XT,bl,hf,Option.isSome,EN,seval]; first|done|rfl
 |some n =>
  simp only[XT,bl,hf,Option.isSome,bj,EN,seval]
  repeat' ((first|apply bA|apply bW|apply dK)<;>intro hb<;>simp only[hb,EN,XT,seval])
  all_goals (clear hk; simp_all [Node.zero])
def YZ ae next ak ar h hn p M hM:=cM (p:=p) (M:=M) hM (aqH ae next ak ar h hn)
end
section
open Go
set_option maxRecDepth 100000 in
def My{s pre r:List UInt8}{n:UInt8}(h:s=pre++n::r) :
  (n.toNat<128/\Utf8.decode ⟨s.toArray⟩ pre.length=(n.toNat,1)) \/
  ∃c m r',n::r=m++r'/\m≠[]/\(∀b,b∈m->128<=b.toNat)/\128<=c/\c<2147483648/\Utf8.decode ⟨s.toArray⟩ pre.length=(c,m.length):=by
 have hg:∀k,(⟨s.toArray⟩:ByteArray).get! (pre.length+k)=(n::r).getD k 0:=fun k=>by
  subst h
  show((pre++n::r).toArray)[pre.length+k]! = _
  simp only[List.getElem!_toArray,List.getElem!_eq_getElem?_getD,kW];rw[bt aH,iX];rfl
 have hsz:(⟨s.toArray⟩:ByteArray).size=pre.length+(n::r).length:=by
  show s.toArray.size=_
  subst h; simp
 by_cases hn:n.toNat<128
 ·refine .inl ⟨hn,?_⟩;have h0:=hg 0;simp only[df,List.getD_cons_zero] at h0;simp[Utf8.decode,h0,hn]
 ·refine .inr ?_;have hn':128<=n.toNat:=aH;have h0:=hg 0;have h1:=hg 1;have h2:=hg 2;have h3:=hg 3;simp only[df,List.getD_cons_zero,List.getD_cons_succ] at h0 h1 h2 h3
  have one:∀c,128<=c->c<2147483648->Utf8.decode ⟨s.toArray⟩ pre.length=(c,1)->∃c m r',n::r=m++r'/\m≠[]/\(∀b,b∈m->128<=b.toNat)/\128<=c/\c<2147483648/\Utf8.decode ⟨s.toArray⟩ pre.length=(c,m.length) :=
   fun c hc hc2 hd=>⟨c,[n],r,rfl,dw,by simpa using hn',hc,hc2,hd⟩
  have big:∀k,k<r.length->128<=(r.getD k 0).toNat->∃b,r[k]?=some b/\128<=b.toNat:=fun k hk hb=>by
   refine⟨r[k],ai hk,?_⟩;simpa[kW,ai hk] using hb
  have cJ:¬n.toNat<0x80:=aH;have hN:n.toNat<256:=n.toNat_lt;unfold Utf8.decode at one ⊢;simp only[df,h0,h1,h2,h3,hsz,av,cJ,aD] at one ⊢
  by_cases hA:(n.toNat / 32==6&&(decide (pre.length+1<pre.length+(r.length+1))&&(r.getD 0 0).toNat / 64==2))=true
  ·simp only[hA,aE] at one ⊢;simp only[bu,dZ,bh] at hA;obtain⟨hA1,hA2,hA3⟩:=hA
   by_cases hc:n.toNat % 32*64+(r.getD 0 0).toNat % 64>=0x80
   ·simp only[hc,aE] at one ⊢;obtain⟨b0,g0,g1⟩:=big 0 aH aH
    match r,g0 with
    |_::r',g0 =>
     cases g0;exact⟨_,[n,_],r',rfl,dw,by simp[hn',g1],hc,aH,rfl⟩
   ·simp only[hc,aD] at one ⊢;exact one _ mu mu rfl
  ·simp only[hA,aD] at one ⊢
   by_cases hB:(n.toNat / 16==14&&(decide (pre.length+1<pre.length+(r.length+1))&&(r.getD 0 0).toNat / 64==2)&&(decide (pre.length+2<pre.length+(r.length+1))&&(r.getD 1 0).toNat / 64==2))=true
   ·simp only[hB,aE] at one ⊢;simp only[bu,dZ,bh] at hB;obtain⟨⟨hB1,hB2,hB3⟩,hB4,hB5⟩:=hB
    by_cases hc:((n.toNat % 16*4096+(r.getD 0 0).toNat % 64*64+(r.getD 1 0).toNat % 64>=0x800:Bool)&&Utf8.valid ((n.toNat % 16*4096+(r.getD 0 0).toNat % 64*64+(r.getD 1 0).toNat % 64:Nat):Int))=true
    ·simp only[hc,aE] at one ⊢;simp only[bu,bh] at hc;obtain⟨b0,g0,g1⟩:=big 0 aH aH;obtain⟨b1,k0,k1⟩:=big 1 aH aH
     match r,g0,k0 with
     |_::_::r',g0,k0 =>
      cases g0;cases k0;exact⟨_,[n,_,_],r',rfl,dw,by simp[hn',g1,k1],aH,aH,rfl⟩
    ·simp only[hc,aD] at one ⊢;exact one _ mu mu rfl
   ·simp only[hB,aD] at one ⊢
    by_cases hC:(n.toNat / 8==30&&(decide (pre.length+1<pre.length+(r.length+1))&&(r.getD 0 0).toNat / 64==2)&&(decide (pre.length+2<pre.length+(r.length+1))&&(r.getD 1 0).toNat / 64==2)&&(decide (pre.length+3<pre.length+(r.length+1))&&(r.getD 2 0).toNat / 64==2))=true
    ·simp only[hC,aE] at one ⊢;simp only[bu,dZ,bh] at hC;obtain⟨⟨⟨hB1,hB2,hB3⟩,hB4,hB5⟩,hB6,hB7⟩:=hC
     by_cases hc:((n.toNat % 8*262144+(r.getD 0 0).toNat % 64*4096+(r.getD 1 0).toNat % 64*64+(r.getD 2 0).toNat % 64>=0x10000:Bool)&&Utf8.valid ((n.toNat % 8*262144+(r.getD 0 0).toNat % 64*4096+(r.getD 1 0).toNat % 64*64+(r.getD 2 0).toNat % 64:Nat):Int))=true
     ·simp only[hc,aE] at one ⊢;simp only[bu,bh] at hc;obtain⟨b0,g0,g1⟩:=big 0 aH aH;obtain⟨b1,k0,k1⟩:=big 1 aH aH;obtain⟨b2,l0,l1⟩:=big 2 aH aH
      match r,g0,k0,l0 with
      |_::_::_::r',g0,k0,l0 =>
       cases g0;cases k0;cases l0;exact⟨_,[n,_,_,_],r',rfl,dw,by simp[hn',g1,k1,l1],aH,aH,rfl⟩
     ·simp only[hc,aD] at one ⊢;exact one _ mu mu rfl
    ·simp only[hC,aD] at one ⊢;exact one _ mu mu rfl
end
section
open Go Go.Abs
section
attribute [local irreducible] eX fJ lj gK dY kr aq aR cp bI
def pc(_:Bytes):Prop:=True
def all_true{m:Bytes}(h:∀b,b∈m->128<=b.toNat):m.all sS=true:=by
 rw[bM];intro b hb;have:=h b hb;have h1:¬((b.toNat:Int)<32):=aH;have h2:¬((b.toNat:Int)=47):=aH;simp[sS,h1,h2]
def aaa{s:Bytes}(hs:s.length<=100000)(ha:pc s){k:List K}{R:Bool->Option (ag×aC)}
  (hx:∀e p,kr (aq cd) [.tmp 2] 0 k ⟨.exit 0,e,[.nR s p]⟩=R true) (hr:∀p,kr (aq cd) [.tmp 2] 0 k ⟨.ret,[(2,.bool false)],[.nR s p]⟩=R false) :
  ∀(q:Nat)(l pre:Bytes),l.length<=q->s=pre++l->eX (aq cd) [.tmp 2] 0 k (.loop [21] Nf) [(21,.j4 0)] [.nR s pre.length]=R (l.all sS):=by
 intro q;induction q with
 |zero =>
  intro l pre hq h;have h0:l=[]:=dD aH;subst h0;rw[bF];have cJ:(pre.length<s.length)=False:=by rw[h]; simp
  simp only[wF,cJ,EN,seval];exact hx _ _
 |succ q ih =>
  intro l pre hq h;cases l with
  |nil =>
   rw[bF];have cJ:(pre.length<s.length)=False:=by rw[h]; simp
   simp only[wF,cJ,EN,seval];exact hx _ _
  |cons n r =>
   rw[bF];have cJ:(pre.length<s.length)=True:=by rw[h]; simp
   rcases My h with ⟨hn,hd⟩|⟨c,m,r',hm,hne,hb,hc,hc2,hd⟩
   ·have hi:=ih r (pre++[n]) (by simp at hq; omega) (by rw[h]; simp)
    simp only[aA,av,az,aJ] at hi;simp only[wF,cJ,hd,EN,seval]
    repeat' ((first|apply bA|apply bW|apply dK)<;>intro hb<;>simp only[hb,wF,hd,EV,seval])
    all_goals first
     |(refine(hr _).trans ?_; congr 1; symm; clear hi ih hx hr hd h; simp_all [sS]; done)
     |(refine hi.trans ?_; congr 1; symm; clear hi ih hx hr hd h; simp_all [sS]; done)
   ·have hml:0<m.length:=gQ.2 hne;have hl2:(n::r).length=m.length+r'.length:=by rw[hm]; simp
    have hi:=ih r' (pre++m) (by simp at hq hl2; omega) (by rw[h,hm]; simp)
    simp only[aA] at hi;have h32:decide ((c:Int)<32)=false:=gh;have h47:((c:Int)==47)=false:=by rw[kb]; omega
    rw[hm,ow,all_true hb,cH];simp only[wF,cJ,hd,h32,h47,EN,seval];exact hi
def c198(s:Bytes)(hs:s.length<=100000)(ha:pc s):aq cd 198 [.str s] []=some (.bool (fY s),[]):=by
 refine aB ?_;simp only[IQ,wF,EN,seval];have hl:=fun k hx hr=>aaa (k:=k) (R:=fun b=>some (ag.bool b,[])) hs ha hx hr s.length s [] (au _) rfl
 have he:(s==[])=decide ((s.length:Int)<1):=by cases s<;>simp; omega
 rw[he]
 repeat' ((first|apply bA|apply bW|apply dK)<;>intro hb<;>simp only[hb,EN,wF,seval])
 all_goals first
  |(clear hl he; simp_all [fY]; done)
  |(refine(hl _ (fun e p=>by simp only[wF,EN,seval]) (fun p=>by simp only[wF,EN,seval])).trans ?_; clear hl he; simp_all [fY]; done)
def afq s hs ha:=cP (c198 s hs ha)
def asU(a b:Bytes)(M:aC):aR (aq cd) 286 [.str a,.str b] M=some (aF (Lib.compareBytes a b),M) :=
 cO (fg (g:=zZ) rfl rfl) M
def ari(a b:Bytes):aq cd 251 [.str a,.str b] []=some (aF (Lib.compareBytes a b),[]):=by
 refine aB ?_;simp only[ac6,aoN,asU,EN,seval]
def asJ a b:=cP (ari a b)
def Mw:∀(a b:Bytes),(Lib.compareBytes a b<0)=(strLt a b=true)
 | [],[]=>by simp[Lib.compareBytes,strLt]
 | [],_::_=>by simp[Lib.compareBytes,strLt]
 |_::_,[]=>by simp[Lib.compareBytes,strLt]
 |a::x,b::y=>by
  rw[Lib.compareBytes,strLt]
  by_cases h1:a<b
  ·simp[h1]
  ·by_cases h2:b<a
   ·have h3:¬a=b:=by rintro rfl; exact oJ _ h2
    simp[h1,h2,h3]
   ·have h3:a=b:=by rw[<-kI]; simp only[kS] at h1 h2; omega
    subst h3;simp[h1,Mw x y]
def Mv:∀(a b:Bytes),(Lib.compareBytes a b==0)=(a==b)
 | [],[]=>by simp[Lib.compareBytes]
 | [],_::_=>by simp[Lib.compareBytes]
 |_::_,[]=>by simp[Lib.compareBytes]
 |a::x,b::y=>by
  rw[Lib.compareBytes]
  by_cases h1:a<b
  ·have h3:¬a=b:=by rintro rfl; exact oJ _ h1
   simp[h1,h3]
  ·by_cases h2:b<a
   ·have h3:¬a=b:=by rintro rfl; exact oJ _ h2
    simp[h1,h2,h3]
   ·have h3:a=b:=by rw[<-kI]; simp only[kS] at h1 h2; omega
    subst h3;simp only[h1,aD,Mv x y];simp
def arh(e:gM)(s:Bytes):aq cd 250 [.agg (fU e),.str s] []=some (aF (Lib.compareBytes e.name s),[]):=by
 refine aB ?_;simp only[ac5,aoM,iH,fU,asJ,EN,seval]
def asI e s:=cP (arh e s)
structure Oe(bc:List gM)(s:Bytes)(b:Nat):Prop where
 le:b<=bc.length
 lt:∀h n,bc[h]?=some n->(strLt n.name s=true↔h<b)
def zN(bc:List gM)(s:Bytes)(b:Nat):Bool:=match bc[b]? with
 |some n=>n.name==s
 |none=>false
def arf(bc:List gM)(s:Bytes)(b:Nat)(hb:Oe bc s b)(hn:bc.length<=100000):aq cd 249 [jb bc,.str s,.func 250 []] []=some (.tuple [aF b,.bool (zN bc s b)],[]):=by
 have h:=YQ (f:=249) (sz:=3) (T:=cd) (c:=fun n:gM=>Lib.compareBytes n.name s) (e:=fU) (fv := .func 250 []) (key := .str s) (M:=[]) fA rfl ⟨hb.le,fun h n hn=>by simp only[Mw,bh]; exact hb.lt h n hn⟩ hn (fun _=>rfl) (fun _=>rfl) (.inl ⟨_,_,rfl⟩) rfl rfl rfl rfl rfl fun _ _ => .inl ⟨_,_,rfl,asI _ _ _⟩
 simp only[Mv] at h;rw[show zN bc s b=pg (fun x=>x.name==s) bc b by unfold zN pg; cases bc[b]?<;>rfl]
 exact h
def asH bc s b hb hn:=cP (arf bc s b hb hn)
def ra(l:List gM):Prop:=l.Pairwise fun a b=>strLt a.name b.name=true
def mo(l:List gM)(s:Bytes):Nat:=(l.takeWhile fun n=>strLt n.name s).length
def aqI(n:Node)(s:Bytes)(b:Nat)(hb:Oe n.bc s b)(hn:n.bc.length<=100000):aq cd 199 [bK n,.str s] []=some (.tuple [aF b,.bool (zN n.bc s b)],[]):=by
 refine aB ?_;have hk:=asH n.bc s b hb hn;simp only[acE,aov,bK,aL,hk,EN,seval]
def SJ(a b c:Int)(d:Bytes)(e:List gM)(u:Int)(s:Bytes)(i:Nat)(hb:Oe e s i)(hn:e.length<=100000)(M:aC):aR (aq cd) 199 [.agg [aF a,aF b,aF c,c8 d,jb e,aF u],.str s] M=some (.tuple [aF i,.bool (zN e s i)],M) :=
 cO (aqI ⟨a,b,c,d,e,u⟩ s i hb hn) M
end
section
open Go.RowKit Go.Shelf
def Ff{α:Type}(b0:Nat)(F:Fence)(n:Nat)(P:Program)(g:Nat)(lb:Array Value)(encs:α->Array Value)(Kp:World->World->Prop)(S Sp:List α->Prop)(N:Nat)(w:World):Prop :=
 ∀(l:Nat)(J Jx:List α->World->Prop)(W:World),Below w.heap.size w W->AbidesFrom W.heap.size J->AbidesFrom W.heap.size Jx->(∀s A v,J s A->J s (A.setCell ⟨b0,0,none⟩ v)) ->
  (∀pre x W1,J pre W1->pre.length<N->YieldAt F (n-1) P l (encs x) W1 fun e W' =>
   (e = .returned (.bool true)/\J (pre++[x]) W'/\Kp W1 W')\/(e = .returned (.bool false)/\Jx (pre++[x]) W')) ->
  J [] W ->
  CallsIn F n P g (#[.func (.yield l) #[] #[]]++lb) W fun e W'=>(∃v,e = .returned v)/\((∃xs,S xs/\J xs W')\/(∃pre,Sp pre/\Jx pre W'))
def yk{F:Fence}{n:Nat}{P:Program}{b0:Nat}{α:Type}{g:Operand}{ps:Array Tmp}{assign body:Code}{Q:Exit->Act->World->Prop}{a:Act}{w:World}(hb0w:b0<w.heap.size)
  (hro:F.round=none) (h1:1<=n) {gf:Nat} {lb:Array Value} (hg:a.eval g = .func (.func gf) #[] lb) (hFg:F.fn gf) (eg:∀args w,(callFunc gf args).run P w = .ok (.enter gf args) w)
  {encs:α->Array Value} {Kp:World->World->Prop} {S Sp:List α->Prop} {N:Nat} {w0:World} (hseq:Ff b0 F (n-1) P gf lb encs Kp S Sp N w0)
  (hKt:∀ {A B C:World},Kp A B->Kp B C->Kp A C) (hKb:∀(W:World)(l:Nat)(o o':Obj),w.heap.size<=l->W.heap[l]?=some o->o.isCells=false->o.isWalk=false->Kp W (W.putObj l o')) (hb0:Below w0.heap.size w0 w) (hps:∀x,(encs x).size=ps.size)
  (I:List α->World->Prop) (Ix:Code->List α->World->Prop) (hI:OwnFrom w.heap.size I) (hIx:∀c,OwnFrom w.heap.size (Ix c)) (hIc:∀s A v,I s A->I s (A.setCell ⟨b0,0,none⟩ v)) (h0:I [] w) (a₁:α->Act)
  (hassign:∀(l:Nat)(x:α)(W:World)(K:Act->World->Prop),K (a₁ x) W ->
   assign.wpIn (F.inRound l) (n-1-1) P (Exit.then K (fun _ _ _=>False)) { tmps:=(ps.zip (encs x)).foldl (fun t (p,v)=>t.setIfInBounds p v) a.tmps,defers:=[] } W)
  (hbody:∀(l:Nat)(pre:List α)(x:α)(W:World),I pre W->pre.length<N->body.wpIn (F.inRound l) (n-1-1) P (ownPostK Kp I Ix (pre++[x]) W) (a₁ x) W)
  (hdone:∀(D:Nat)(xs:List α)(W:World),w.heap.size<=D->S xs->I xs W->W.heap[D]?=some (.deferred (some []))->Q .normal { a with defers:={ target := .collected D,args := #[] }::a.defers } W)
  (hstop:∀(D:Nat)(c:Code)(pre:List α)(W:World),w.heap.size<=D->Sp pre->Ix c pre W->W.heap[D]?=some (.deferred (some []))->c.wpIn F n P Q { a with defers:={ target := .collected D,args := #[] }::a.defers } W) :
  (Code.rangeFunc g ps assign body).wpIn F n P Q a w:=by
 refine wpIn_rangeFunc ?_;intro fn hfn;rw[hro];obtain⟨rec,hrec⟩:∃rec:LoopState->Option Code->Loop,rec=fun st pe=>{ state:=st,pending:=pe,fn,tmps:=a.tmps,params:=ps,assign,body,defers:=w.heap.size }:=⟨_,rfl⟩
 obtain⟨W1,hW1⟩:∃W1,(w.alloc (.deferred (some []))).alloc (.loop (rec .ready none))=W1:=⟨_,rfl⟩
 have hL1:W1.heap[w.heap.size+1]?=some (.loop (rec .ready none)):=by
  rw[<-hW1]; have:=World.alloc_heap_new (w.alloc (.deferred (some []))) (.loop (rec .ready none)); rwa[World.size_alloc] at this
 have hK1:W1.heap[w.heap.size]?=some (.deferred (some [])):=by
  rw[<-hW1]; exact(Below.heap_alloc _ _ _ dw).trans (World.alloc_heap_new w _)
 have hI1:I [] W1:=by rw[<-hW1]; exact hI.alloc _ (hI.alloc _ h0)
 have hb1:Below w0.heap.size w0 W1:=by
  rw[<-hW1]; exact hb0.trans ((((Below.refl _ w).alloc (au _) _).alloc dw _).mono hb0.size)
 refine⟨w.heap.size+1,[{ target := .collected w.heap.size,args := #[] }],W1,{ target := .fn (.func gf) lb,args := #[.func (.yield (w.heap.size+1)) #[] #[]] },W1,gf,
  #[.func (.yield (w.heap.size+1)) #[] #[]]++lb,W1,?_,?_,?_,?_,fun _=>h1,?_⟩
 ·rw[<-hW1,hrec]; exact run_enterLoop_outer _ _ _ _ _
 ·simp only[resolve,hg];simp[go_sem]
 ·intro f' hf'; simp[Target.leads] at hf'; subst hf'; exact hFg
 ·simp[invoke,go_sem,eg]
 ·have hnw:∀ {A B:World} {row:Option Nat},(∀r,row=some r->W1.heap.size<=r/\∃o:Obj,A.heap[r]?=some o/\o.isWalk=true)->(∀r,row=some r->w.heap.size<=r/\∃o:Obj,A.heap[r]?=some o/\o.isCells=false) :=
   fun hr r e=>by obtain⟨hB,o,ho,hw⟩:=hr r e; exact⟨by rw[<-hW1] at hB; simp at hB; omega,o,ho,Obj.not_cells_of_walk hw⟩
  refine(hseq (w.heap.size+1)
   (fun pre W=>I pre W/\W.heap[w.heap.size+1]?=some (.loop (rec .ready none))/\W.heap[w.heap.size]?=some (.deferred (some [])))
   (fun pre W=>∃c,Ix c pre W/\W.heap[w.heap.size+1]?=some (.loop (rec .done (some c)))/\W.heap[w.heap.size]?=some (.deferred (some [])))
   W1 hb1
   (fun s A B row hs hg' hr=>⟨hI s A B row hs.1 hg' (hnw (B:=B) hr),(grownBy_keeps hg' (fun r e=>(hr r e).2) hs.2.1 rfl).trans hs.2.1,(grownBy_keeps hg' (fun r e=>(hr r e).2) hs.2.2 rfl).trans hs.2.2⟩)
   (fun s A B row hs hg' hr=>by
    obtain⟨c,hc,hl,hk⟩:=hs;exact⟨c,hIx c s A B row hc hg' (hnw (B:=B) hr),(grownBy_keeps hg' (fun r e=>(hr r e).2) hl rfl).trans hl,(grownBy_keeps hg' (fun r e=>(hr r e).2) hk rfl).trans hk⟩)
   (fun s A v hs=>⟨hIc s A v hs.1,(Below.heap_setCell _ _ _ _ (by show _≠b0; omega)).trans hs.2.1,(Below.heap_setCell _ _ _ _ (by show _≠b0; omega)).trans hs.2.2⟩)
   ?_ ⟨hI1,hL1,hK1⟩).mono ?_
  ·rintro pre x W ⟨hi,hl,hk⟩ dR;have cJ:w.heap.size+1<W.heap.size:=(fK.1 hl).1;have hy:=run_yield (P:=P) (args:=encs x) hl (by rw[hrec]; exact hps x)
   rw[hrec] at hy;refine⟨fn,_,assign,body,hy,roundIn_of_wpIn hfn (hassign _ x W _ ⟨_,run_beginRound hl (by rw[hrec]),?_⟩)⟩
   have hl2:(W.putObj (w.heap.size+1) (.loop { rec .ready none with state := .busy })).heap[w.heap.size+1]?=some (.loop { rec .ready none with state := .busy }):=World.putObj_heap_same cJ
   have hk2:(W.putObj (w.heap.size+1) (.loop { rec .ready none with state := .busy })).heap[w.heap.size]?=some (.deferred (some [])):=(World.putObj_heap_other aH).trans hk
   have hw2:Kp W (W.putObj (w.heap.size+1) (.loop { rec .ready none with state := .busy })):=hKb _ _ _ _ aH hl rfl rfl
   refine wpIn_mono (hbody _ pre x _ (hI.putObj _ hi aH hl rfl) dR) ?_
   have fin:∀(jump:Option Code)(W3:World),KeepsOthers (W.putObj (w.heap.size+1) (.loop { rec .ready none with state := .busy })) W3 ->
     (Instr.endRound (w.heap.size+1) jump).run P W3 = .ok (.bool jump.isNone) (W3.putObj (w.heap.size+1) (.loop (rec (if jump.isNone then .ready else .done) jump))) /\
     W3.heap[w.heap.size+1]?=some (.loop { rec .ready none with state := .busy }) /\
     (W3.putObj (w.heap.size+1) (.loop (rec (if jump.isNone then .ready else .done) jump))).heap[w.heap.size+1]?=some (.loop (rec (if jump.isNone then .ready else .done) jump)) /\
     (W3.putObj (w.heap.size+1) (.loop (rec (if jump.isNone then .ready else .done) jump))).heap[w.heap.size]?=some (.deferred (some [])):=fun jump W3 hk3=>by
    have hl3:=hk3.same _ _ hl2 rfl;have:=run_endRound (P:=P) jump hl3;rw[hrec] at this ⊢;exact⟨this,by rw[hrec] at hl3; exact hl3,World.putObj_heap_same (fK.1 hl3).1,(World.putObj_heap_other aH).trans (hk3.same _ _ hk2 rfl)⟩
   rintro e a3 W3 hp;cases e with
   |normal =>
    obtain⟨hk3,hkp3,hi3⟩:=hp;obtain⟨hr,hl3,hl4,hk4⟩:=fin none W3 hk3;exact⟨_,_,hr,.inl ⟨rfl,⟨hI.putObj _ hi3 aH hl3 rfl,hl4,hk4⟩,hKt (hKt hw2 hkp3) (hKb _ _ _ _ aH hl3 rfl rfl)⟩⟩
   |ret =>
    obtain⟨hk3,hi3⟩:=hp;obtain⟨hr,hl3,hl4,hk4⟩:=fin (some .ret) W3 hk3;exact⟨_,_,hr,.inr ⟨rfl,.ret,(hIx _).putObj _ hi3 aH hl3 rfl,hl4,hk4⟩⟩
   |exit id =>
    obtain⟨hk3,hi3⟩:=hp;obtain⟨hr,hl3,hl4,hk4⟩:=fin (some (.exit id)) W3 hk3;exact⟨_,_,hr,.inr ⟨rfl,.exit id,(hIx _).putObj _ hi3 aH hl3 rfl,hl4,hk4⟩⟩
   |goto t =>
    obtain⟨hk3,hi3⟩:=hp;obtain⟨hr,hl3,hl4,hk4⟩:=fin (some (.goto t)) W3 hk3;exact⟨_,_,hr,.inr ⟨rfl,.goto t,(hIx _).putObj _ hi3 aH hl3 rfl,hl4,hk4⟩⟩
   |panic ch=>exact hp.elim
   |outgrown=>exact hp.elim
  ·rintro e W2 ⟨⟨v,rfl⟩,(⟨xs,hS,hi,hl,hk⟩|⟨pre,hSp,c,hi,hl,hk⟩)⟩
   ·exact⟨none,_,by have:=run_endLoop (P:=P) hl (by rw[hrec]; simp); rw[hrec] at this; exact this,hdone _ xs _ (au _) hS (hI.putObj _ hi aH hl rfl) ((World.putObj_heap_other aH).trans hk)⟩
   ·exact⟨some c,_,by have:=run_endLoop (P:=P) hl (by rw[hrec]; simp); rw[hrec] at this; exact this,hstop _ c pre _ (au _) hSp ((hIx c).putObj _ hi aH hl rfl) ((World.putObj_heap_other aH).trans hk)⟩
def M9:J:=⟨fun _=>none,fun _ _=>False⟩
def WG(w:World):Rel M9 [] w where
 inj:=fun _ _ _ h=>by cases h
 lt:=fun _ _ h=>by cases h
 fix:=fun _ _ h=>by cases h
 tick:=fun _ _ _ _ h=>by cases h
 arr:=fun _ _ _ _ h=>by cases h
 vd:=fun _ _ h=>by cases h
 Aq:=fun _ _ h=>h.elim
@[reducible] def G0:kx:={ g:=fun _=>none }
def ag7:@o8 G0 Tryz.prog (Fg [] f198) f198=some IQ:=fA
def ag8:@o8 G0 Tryz.prog (Fg [] f275) f275=some MX:=fA
def ag9:@o8 G0 Tryz.prog (Fg [] f302) f302=some MY:=fA
def aha:@o8 G0 Tryz.prog (Fg [] f325) f325=some IT:=fA
def Hj{α:Type}{x:α}{P:Prop}(h:(none:Option α)=some x):P:=by cases h
def alO(w:World):@sO G0 M9 [] w:=@sO.mk G0 _ _ _ (fun b vs k v h=>Hj (show(none:Option (List Value))=some vs from h)) (fun b vs h=>Hj (show(none:Option (List Value))=some vs from h)) (fun b p h=>Hj (show(none:Option (Value->Prop))=some p from h))
def abC:Nat->Option eG
 |198=>some IQ
 |275=>some MX
 |302=>some MY
 |325=>some IT
 |_=>none
noncomputable def ED:zo:=⟨abC,fun _=>none⟩
def aa9:@vi G0 Tryz.prog ED:=by
 refine @vi.mk G0 _ _ (fun f fn h=>?_) (fun f g h=>by cases h)
 simp only[ED] at h;unfold abC at h;split at h
 ·cases h; exact⟨_,_,func198,ag7⟩
 ·cases h; exact⟨_,_,func275,ag8⟩
 ·cases h; exact⟨_,_,func302,ag9⟩
 ·cases h; exact⟨_,_,func325,aha⟩
 ·cases h
def ahE:@nI G0 Tryz.prog (aq ED):=@qP G0 _ fA _ aa9
section
attribute [local irreducible] eX fJ lj gK dY kr aq aR cp bI
def VH{s:Bytes}(hs:s.length<=100000)(ha:pc s){k:List K}{R:Bool->Option (ag×aC)}
  (hx:∀e p,kr (aq ED) [.tmp 2] 0 k ⟨.exit 0,e,[.nR s p]⟩=R true) (hr:∀p,kr (aq ED) [.tmp 2] 0 k ⟨.ret,[(2,.bool false)],[.nR s p]⟩=R false) :
  ∀(q:Nat)(l pre:Bytes),l.length<=q->s=pre++l->eX (aq ED) [.tmp 2] 0 k (.loop [21] Nf) [(21,.j4 0)] [.nR s pre.length]=R (l.all sS):=by
 intro q;induction q with
 |zero =>
  intro l pre hq h;have h0:l=[]:=dD aH;subst h0;rw[bF];have cJ:(pre.length<s.length)=False:=by rw[h]; simp
  simp only[wF,cJ,EN,seval];exact hx _ _
 |succ q ih =>
  intro l pre hq h;cases l with
  |nil =>
   rw[bF];have cJ:(pre.length<s.length)=False:=by rw[h]; simp
   simp only[wF,cJ,EN,seval];exact hx _ _
  |cons n r =>
   rw[bF];have cJ:(pre.length<s.length)=True:=by rw[h]; simp
   rcases My h with ⟨hn,hd⟩|⟨c,m,r',hm,hne,hb,hc,hc2,hd⟩
   ·have hi:=ih r (pre++[n]) (by simp at hq; omega) (by rw[h]; simp)
    simp only[aA,av,az,aJ] at hi;simp only[wF,cJ,hd,EN,seval]
    repeat' ((first|apply bA|apply bW|apply dK)<;>intro hb<;>simp only[hb,wF,hd,EV,seval])
    all_goals first
     |(refine(hr _).trans ?_; congr 1; symm; clear hi ih hx hr hd h; simp_all [sS]; done)
     |(refine hi.trans ?_; congr 1; symm; clear hi ih hx hr hd h; simp_all [sS]; done)
   ·have hml:0<m.length:=gQ.2 hne;have hl2:(n::r).length=m.length+r'.length:=by rw[hm]; simp
    have hi:=ih r' (pre++m) (by simp at hq hl2; omega) (by rw[h,hm]; simp)
    simp only[aA] at hi;have h32:decide ((c:Int)<32)=false:=gh;have h47:((c:Int)==47)=false:=by rw[kb]; omega
    rw[hm,ow,all_true hb,cH];simp only[wF,cJ,hd,h32,h47,EN,seval];exact hi
def aky(s:Bytes)(hs:s.length<=100000)(ha:pc s):aq ED 198 [.str s] []=some (.bool (fY s),[]):=by
 refine aB ?_;simp only[IQ,wF,EN,seval];have hl:=fun k hx hr=>VH (k:=k) (R:=fun b=>some (ag.bool b,[])) hs ha hx hr s.length s [] (au _) rfl
 have he:(s==[])=decide ((s.length:Int)<1):=by cases s<;>simp; omega
 rw[he]
 repeat' ((first|apply bA|apply bW|apply dK)<;>intro hb<;>simp only[hb,EN,wF,seval])
 all_goals first
  |(clear hl he; simp_all [fY]; done)
  |(refine(hl _ (fun e p=>by simp only[wF,EN,seval]) (fun p=>by simp only[wF,EN,seval])).trans ?_; clear hl he; simp_all [fY]; done)
end
def Em{f:Nat}{args:List ag}{r:ag}(h:aq ED f args []=some (r,[]))(hp:r.jm=false)(w:World)(vs:Array Value)(hl:args.length=vs.size)(hv:∀(i:Nat)(c:ag)(v:Value),args[i]?=some c->vs[i]?=some v->gu M9 [] w c v) :
  Calls Tryz.prog f vs w fun e w'=>∃v j',e = .returned v/\w.grownBy w' none/\gu j' [] w' r v:=by
 refine((ahE f args [] _ h).2 M9 w vs (WG w) (alO w) hl hv).mono ?_;intro e w' hce;obtain⟨v,rfl,j',_,hx,hr⟩:=hce.ret hp;exact⟨v,j',rfl,⟨hx.os,hx.tape,hx.output,hx.size,fun k hk _=>(hx.uh k hk fun i hi=>by cases hi).1⟩,hr⟩
def WO(s:Bytes)(hs:s.length<=100000)(ha:pc s)(w:World):Calls Tryz.prog 198 #[.string (bs s)] w fun e w'=>e = .returned (.bool (fY s))/\w.grownBy w' none:=by
 refine(Em (aky s hs ha) rfl w #[.string (bs s)] rfl ?_).mono ?_
 ·intro i c v h1 h2
  match i with
  |0=>cases h1; cases h2; exact .plain (.str _)
  |i+1=>cases h1
 ·rintro e w' ⟨v,j',rfl,hg,hr⟩;rw[hr.jA];exact⟨rfl,hg⟩
set_option maxHeartbeats 1000000 in
set_option maxRecDepth 100000 in
def Sx(a:ByteArray)(c:Int)(w:World) :
  Calls Tryz.prog 303 #[.string a,.int .u8 c] w fun e w'=>e = .returned (.int .i64 (Lib.indexByte a.data.toList c.toNat.toUInt8))/\w'=w:=by
 go_enter func303,ntmps303
 go_wp2
 rw[run_callFunc_extern func326 fA fA fA (e:=Extern.BytealgIndexByte.indexByte) fA,Lib.run_indexByteString];simp only[Result.andThen];rw[Oper.upon_value]
 go_wp2
 go_ret
 exact⟨rfl,rfl⟩
set_option maxHeartbeats 1000000 in
set_option maxRecDepth 100000 in
def Sw(a:ByteArray)(c:Int)(w:World) :
  Calls Tryz.prog 276 #[.string a,.int .u8 c] w fun e w'=>e = .returned (.int .i64 (Lib.indexByte a.data.toList c.toNat.toUInt8))/\w'=w:=by
 go_enter func276,ntmps276
 go_wp2_with (go_at_call 303; refine(Sx _ _ _).mono ?_; rintro e w' ⟨rfl,rfl⟩)
 go_ret
 exact⟨rfl,rfl⟩
section ev
attribute [local irreducible] eX fJ lj gK dY kr aq aR cp bI
def tT:Bytes->Bytes×Bool
 |b::r=>if b=47 then (r,true) else (b::r,false)
 | []=>([],false)
def Pb:Bytes->Bool
 |b::_=>b==47
 | []=>false
def arF(s:Bytes):aq ED 325 [.str s,.str [47]] []=some (.bool (Pb s),[]):=by
 refine aB ?_;cases s with
 |nil =>
  have h0:decide (((1:Nat):Int)<=((0:Nat):Int))=false:=mu;simp only[IT,XY,h0,EN,seval];simp only[Pb,XY,h0,EN,seval]
 |cons b r =>
  have h1:(1:Int)<=(r.length:Int)+1:=aH;simp only[IT,XY,EN,seval];simp[Pb,h1,gy,XY,EN,seval]
  try (cases hb:(b==47)<;>simp_all)
def ams s:=cP (arF s)
def arE(s:Bytes):aq ED 302 [.str s,.str [47]] []=some (.tuple [.str (tT s).1,.bool (tT s).2],[]):=by
 refine aB ?_;simp only[MY,XX,ams,EN,seval];cases s with
 |nil=>simp only[Pb,XX,ams,EN,seval]; rfl
 |cons b r =>
  by_cases hb:b=47
  ·have h1:(1:Int)<=(r.length:Int)+1:=aH;have h2:(0:Int)<=(r.length:Int)+1:=aH;simp[Pb,hb,XX,tT,gy,h1,h2,EN,seval]
  ·have hb':(b==47)=false:=by simpa using hb
   simp only[Pb,hb',XX,EN,seval];simp[tT,hb]
def asW s:=cP (arE s)
def arz(s:Bytes):aq ED 275 [.str s,.str [47]] []=some (.tuple [.str (tT s).1,.bool (tT s).2],[]):=by
 refine aB ?_;simp only[MX,aoW,asW,EN,seval]
end ev
def aeN(s:Bytes)(w:World):Calls Tryz.prog 275 #[.string (bs s),.string ⟨#[47]⟩] w fun e w'=>e = .returned (.tuple #[.string (bs (tT s).1),.bool (tT s).2])/\w.grownBy w' none:=by
 refine(Em (arz s) rfl w #[.string (bs s),.string ⟨#[47]⟩] rfl ?_).mono ?_
 ·intro i c v h1 h2
  match i with
  |0=>cases h1; cases h2; exact .plain (.str _)
  |1=>cases h1; cases h2; exact .plain (.str [47])
  |i+2=>cases h1
 ·rintro e w' ⟨v,j',rfl,hg,hr⟩;obtain⟨vs,rfl,hl,hv⟩:=hr.tJ;obtain⟨l⟩:=vs
  match l,hl with
  | [u1,u2],_ =>
   rw[(hv 0 _ u1 rfl rfl).kv,(hv 1 _ u2 rfl rfl).jA];exact⟨rfl,hg⟩
def Ir(s:Bytes):Nat:=if Lib.indexByte s 47<0 then s.length else (Lib.indexByte s 47).toNat
def uj(s:Bytes):Bytes×Bool:=((tT s).1.take (Ir (tT s).1),(tT s).2)
def sK(s:Bytes):Bytes:=(tT s).1.drop (Ir (tT s).1)
def wb:Nat->Bytes->List (Bytes×Bool)
 |0,_=>[]
 |n+1,s=>match s with
  | []=>[]
  |b::r=>uj (b::r)::wb n (sK (b::r))
def index_le(l:Bytes)(c:UInt8):Lib.indexByte l c<=l.length:=by
 induction l with
 |nil=>simp[Lib.indexByte]
 |cons b r ih =>
  simp only[Lib.indexByte];split
  ·simp; omega
  ·split
   ·simp; omega
   ·simp; omega
def Rk(s:Bytes):(tT s).1.length<=s.length:=by
 cases s with
 |nil=>simp[tT]
 |cons b r=>simp only[tT]; split<;>simp
def Er{s:Bytes}(h:s≠[]):(sK s).length<s.length:=by
 cases s with
 |nil=>exact absurd rfl h
 |cons b r =>
  unfold sK;rw[fS]
  by_cases hb:b=47
  ·have:tT (b::r)=(r,true):=by simp[tT,hb]
   rw[this]; simp; omega
  ·have e:tT (b::r)=(b::r,false):=by simp[tT,hb]
   rw[e]
   have:0<Ir (b::r):=by
    unfold Ir;have hb':(b==47)=false:=by simpa using hb
    have hg:=Lib.indexByte_ge r 47;split
    ·simp
    ·rename_i hn;simp only[Lib.indexByte,hb',af,aD] at hn ⊢;split
     ·rename_i he; simp[he] at hn
     ·rename_i he;have:Lib.indexByte r 47 ≠ -1:=by simpa using he
      omega
   simp only[av];omega
def Hl:∀(n m:Nat)(s:Bytes),s.length<=n->s.length<=m->wb n s=wb m s:=by
 intro n;induction n with
 |zero =>
  intro m s h _;have:s=[]:=by cases s with|nil=>rfl|cons b r=>simp at h
  subst this;cases m<;>rfl
 |succ n ih =>
  intro m s h h';cases s with
  |nil=>cases m<;>rfl
  |cons b r =>
   cases m with
   |zero=>simp at h'
   |succ m =>
    have:=Er (s:=b::r) dw;simp only[wb];rw[ih m _ aH aH]
def nk(s:Bytes):List (Bytes×Bool):=wb s.length s
def z6{s:Bytes}(h:s≠[]):nk s=uj s::nk (sK s):=by
 cases s with
 |nil=>exact absurd rfl h
 |cons b r =>
  have:=Er (s:=b::r) dw;unfold nk;rw[show(b::r).length=r.length+1 from rfl,wb]
  rw[Hl r.length (sK (b::r)).length _ (by simp at this; omega) aH]
def BH{s:Bytes}(h:pc s):pc (uj s).1:=trivial
def C5{s:Bytes}(h:pc s):pc (sK s):=trivial
def PY(s:Bytes):(uj s).1.length<=s.length:=by
 have:=Rk s;unfold uj;rw[cq];omega
abbrev PA:={ x:Bytes×Bool // pc x.1/\x.1.length<=100000 }
abbrev Yv(x:PA):Array Value := #[.string (bs x.1.1),.bool x.1.2]
def GQ(b0:Nat)(w:World):Nat:=match w.cell? ⟨b0,0,none⟩ with
 |some (.string s)=>s.size
 |_=>0
section
attribute [local go_sem] Oper.semAt_some
set_option maxHeartbeats 1000000 in
def PZ(n:Nat)(s:Bytes)(w:World) :
  CallsIn Fence.wide n Tryz.prog 231 #[.string (bs s)] w fun e w'=>e = .returned (.func (.func 274) #[] #[.pointer (some ⟨w.heap.size,0,none⟩)])/\w'=w.alloc (.cells #[.string (bs s)] 9):=by
 refine callsIn_of_wp func231 rfl trivial ?_ rfl;simp only[ntmps231,cZ,av,az,Nat.reduceAdd,Nat.reduceSub,jK,jL,kY,j9,aO,aG]
 gi_wp2
 go_ret
 exact⟨rfl,rfl⟩
def Mq(c:Bytes)(n:Nat):bs (c.drop n)=(bs c).extract n (bs c).size:=by
 rw[yM,show(bs c).size=c.length from rfl,bH]
def vT{b0:Nat}{w:World}{s:Bytes}(h:Boxed w b0 9 (.string (bs s))):GQ b0 w=s.length:=by
 unfold GQ;rw[h.cell];rfl
set_option maxRecDepth 100000 in
set_option maxHeartbeats 1000000 in
def YU(n:Nat)(hn:3<=n)(l b0 N:Nat)(s0:Bytes)(ha:pc s0)(hs:s0.length<=100000)(hN:(nk s0).length<=N)(J Jx:List PA->World->Prop)(W:World)(hJ:AbidesFrom W.heap.size J)(hJc:∀s A v,J s A->J s (A.setCell ⟨b0,0,none⟩ v))
  (hY:∀pre x W1,J pre W1->pre.length<N->YieldAt Fence.wide (n-1) Tryz.prog l (Yv x) W1 fun e W' =>
   (e = .returned (.bool true)/\J (pre++[x]) W'/\W'.heap[b0]?=W1.heap[b0]?)\/(e = .returned (.bool false)/\Jx (pre++[x]) W'))
  (hB:Boxed W b0 9 (.string (bs s0))) (h0:J [] W) :
  CallsIn Fence.wide n Tryz.prog 274 #[.func (.yield l) #[] #[],.pointer (some ⟨b0,0,none⟩)] W fun e W'=>(∃v,e = .returned v) /\
   ((∃xs:List PA,xs.map (·.1)=nk s0/\J xs W')\/(∃pre:List PA,pre.map (·.1) <+: nk s0/\Jx pre W')):=by
 refine callsIn_of_wp func274 rfl trivial ?_ rfl;simp only[ntmps274,cZ,av,az,Nat.reduceAdd,Nat.reduceSub,jK,jL,kY,j9,aO,aG]
 gi_wp2
 gi_loopw [3] (fun _ wr=>∃(pre:List PA) (rest:Bytes),Boxed wr b0 9 (.string (bs rest))/\pc rest/\rest.length<=100000/\nk s0=pre.map (·.1)++nk rest/\J pre wr)
  (fun _ wr=>GQ b0 wr)
 case atStart =>
  exact⟨[],s0,hB,ha,hs,rfl,h0⟩
 case round =>
  obtain⟨pre,rest,hb,hra,hrl,hp,hJs⟩:=hrel;have hf:=hb.frozen;cases rest with
  |nil =>
   have hc:wr.cell? ⟨b0,0,none⟩=some (.string ⟨#[]⟩):=hb.cell
   gi_wp2
   go_end0
   exact⟨⟨_,rfl⟩,.inl ⟨pre,by rw[hp]; simp[nk,wb],hJs⟩⟩
  |cons x rest =>
   have hc:=hb.cell;have hne:(!(bs (x::rest)).toList.isEmpty)=true:=by simp[bs]
   gi_wp2
   refine⟨trivial,fun h=>(by cases h),(callsIn_wide.2 (aeN _ _)).mono ?_⟩
   rintro e w1 ⟨rfl,hg⟩;have hb1:Boxed w1 b0 9 (.string (bs (x::rest))):=hb.kept hg dw;have hJ1:J pre w1:=hJ pre wr w1 none hJs hg (fun r e=>by cases e)
   have hbr:=hb;clear hb hc hf hJs;have hc1:=hb1.cell;have hf1:=hb1.frozen
   gi_wp2
   refine⟨trivial,fun h=>(by cases h),(callsIn_wide.2 (Sw _ _ _)).mono ?_⟩
   rintro e w2 ⟨rfl,rfl⟩
   have dR:pre.length<N:=by
    have:=congrArg List.length hp;rw[z6 (s:=x::rest) dw] at this;simp at this;omega
   have hpl:=PY (x::rest);have hrest:=Er (s:=x::rest) dw;obtain⟨fn,tmps,assign,body,hy,hR⟩:=hY pre ⟨uj (x::rest),BH hra,aH⟩ w2 hJ1 dR
   have hpn:nk s0=(pre++[⟨uj (x::rest),BH hra,aH⟩]:List PA).map (·.1)++nk (sK (x::rest)):=by
    rw[hp,z6 dw]; simp
   obtain⟨c,hc⟩:∃c,(tT (x::rest)).1=c:=⟨_,rfl⟩;have hix:=index_le c 47
   by_cases hi:Lib.indexByte c 47<0
   ·have he:uj (x::rest)=(c,(tT (x::rest)).2):=by simp[uj,hc,Ir,hi]
    have hre:sK (x::rest)=[]:=by simp[sK,hc,Ir,hi]
    simp only[Yv,he] at hy;rw[hc];have hi':Lib.indexByte (bs c).data.toList 47<0:=hi
    gi_wp2
    refine⟨fun h=>(by cases h),hR.mono ?_⟩
    rintro e W3 (⟨rfl,hJ3,hk3⟩|⟨rfl,hJx3⟩)
    ·have hb3:Boxed W3 b0 9 (.string (bs (x::rest))):=hk3.trans hb1;have hc3:=hb3.cell;have hf3:=hb3.frozen
     gi_wp2
     go_roundw
     case rel =>
      exact⟨_,sK (x::rest),(by rw[hre]; exact(hb3.set _)),C5 hra,aH,hpn,hJc _ _ _ hJ3⟩
     case measure =>
      rw[vT (s:=sK (x::rest)) (by rw[hre]; exact(hb3.set _)),vT hbr]
      exact hrest
    ·gi_wp2
     refine bodyPost_ret (results_none rfl _ _ _) rfl ?_;exact⟨⟨_,rfl⟩,.inr ⟨_,⟨nk (sK (x::rest)),hpn.symm⟩,hJx3⟩⟩
   ·have hi0:0<=Lib.indexByte c 47:=aH;have he:uj (x::rest)=(c.take (Lib.indexByte c 47).toNat,(tT (x::rest)).2):=by simp[uj,hc,Ir,hi]
    have hre:sK (x::rest)=c.drop (Lib.indexByte c 47).toNat:=by simp[sK,hc,Ir,hi]
    simp only[Yv,he] at hy;rw[show bs (c.take (Lib.indexByte c 47).toNat)=(bs c).extract 0 (Lib.indexByte (bs c).data.toList 47).toNat by rw[yM]; rfl] at hy
    rw[hc];have hi':¬Lib.indexByte (bs c).data.toList 47<0:=hi;have hi2:Lib.indexByte (bs c).data.toList 47<=(bs c).size:=hix
    gi_wp2
    refine⟨fun h=>(by cases h),hR.mono ?_⟩
    rintro e W3 (⟨rfl,hJ3,hk3⟩|⟨rfl,hJx3⟩)
    ·have hb3:Boxed W3 b0 9 (.string (bs (x::rest))):=hk3.trans hb1;have hc3:=hb3.cell;have hf3:=hb3.frozen
     gi_wp2
     go_roundw
     case rel =>
      exact⟨_,sK (x::rest),(by rw[hre,Mq]; exact(hb3.set _)),C5 hra,aH,hpn,hJc _ _ _ hJ3⟩
     case measure =>
      rw[vT (s:=sK (x::rest)) (by rw[hre,Mq]; exact(hb3.set _)),vT hbr]
      exact hrest
    ·gi_wp2
     refine bodyPost_ret (results_none rfl _ _ _) rfl ?_;exact⟨⟨_,rfl⟩,.inr ⟨_,⟨nk (sK (x::rest)),hpn.symm⟩,hJx3⟩⟩
def ES(x:Bytes×Bool)(n:Nat):Bool := !x.2 || !fY x.1||n==12
def qH:List (Bytes×Bool)->Nat->Option (List Bytes)
 | [],_=>some []
 |x::r,n=>if ES x n then none else (qH r (n+1)).map (x.1 :: ·)
def Bt:∀(a b:List (Bytes×Bool)) (n:Nat),qH (a++b) n=(qH a n).bind fun l=>(qH b (n+a.length)).map (l ++ ·):=by
 intro a;induction a with
 |nil=>intro b n; simp[qH]
 |cons x r ih =>
  intro b n;simp only[aG,qH];split
  ·rfl
  ·rw[ih,show n+1+r.length=n+(x::r).length by simp; omega]
   cases qH r (n+1) with
   |none=>rfl
   |some l=>simp; rfl
def gD(s:Bytes):List Bytes×Int:=if s=[47] then ([],0) else match qH (nk s) 0 with
 |none=>([],60)
 |some []=>([],60)
 |some l=>(l,0)
def M1(pre:List PA):Prop:=qH (pre.map (·.1)) 0=some (pre.map (·.1.1))/\pre.length<=12
def Lo{pre:List PA}{x:PA}(h:M1 pre)(hb:ES x.1 pre.length=false):M1 (pre++[x]):=by
 refine⟨?_,?_⟩
 ·rw[aZ,Bt,h.1];simp[qH,hb]
 ·have:pre.length≠12:=by intro e; rw[e] at hb; simp[ES] at hb
  have:=h.2;simp; omega
def Ax{pre:List PA}{x:PA}(h:M1 pre)(hb:ES x.1 pre.length=true):qH ((pre++[x]).map (·.1)) 0=none:=by
 rw[aZ,Bt,h.1];simp[qH,hb]
def P7{a l:List (Bytes×Bool)}(h:a <+: l)(hn:qH a 0=none):qH l 0=none:=by
 obtain⟨b,rfl⟩:=h;rw[Bt,hn]; rfl
def alV:(Tryz.prog.info? 9).map (fun i=>(i.zero,i.size,i.bytes))=some (some (.string ⟨#[]⟩),1,16):=fA
abbrev GZ(b:Bytes):Value := .string (bs b)
def appended{W w1:World}{n₀ B:Nat}{v v':Value}{k m:Nat}{xs ys:List Value}{tmp:Obj}
  (hv:Boxed W B 44 v) (hrow:W.ownsRow n₀ 9 1 v k xs) (hown':w1.ownsRow n₀ 9 1 v' m ys) (hgrow:(W.alloc tmp).grownBy w1 v.ownBlock) :
  Boxed w1 B 44 v/\Boxed (w1.setCell ⟨B,0,none⟩ v') B 44 v'/\(w1.setCell ⟨B,0,none⟩ v').ownsRow n₀ 9 1 v' m ys/\KeepsOthers W (w1.setCell ⟨B,0,none⟩ v') /\
  (w1.setCell ⟨B,0,none⟩ v').os=W.os/\(w1.setCell ⟨B,0,none⟩ v').tape=W.tape/\(w1.setCell ⟨B,0,none⟩ v').output=W.output/\W.heap.size<=(w1.setCell ⟨B,0,none⟩ v').heap.size /\
  ∀q,q<n₀->q<W.heap.size->q≠B->(w1.setCell ⟨B,0,none⟩ v').heap[q]?=W.heap[q]?:=by
 have hv1:Boxed w1 B 44 v:=(hv.alloc tmp).kept hgrow (hv.not_row mu hrow);have hs:=grownBy_setCell' w1 B v';refine⟨hv1,hv1.set v',hown'.kept hs (.inr (hv1.not_row mu hown').symm),?_,?_,?_,?_,?_,?_⟩
 ·refine((KeepsOthers.alloc W tmp).trans (KeepsOthers.of_grownBy hgrow fun j o ej hj=>?_)).trans (KeepsOthers.setCell _ _ _)
  rcases(hrow.alloc tmp).2 with ⟨rfl,_⟩|⟨g,cap,cur,rfl,_,hgb,_⟩
  ·simp[Value.ownBlock] at ej
  ·obtain rfl:g=j:=by simpa[Value.ownBlock] using ej
   rw[hgb] at hj; cases hj; rfl
 ·exact hs.os.trans hgrow.os
 ·exact hs.tape.trans hgrow.tape
 ·exact hs.output.trans hgrow.output
 ·have h1:=hgrow.size;have h2:=hs.size;simp at h1;omega
 ·intro q hq hqw hqB;have cJ:q<(W.alloc tmp).heap.size:=gh;rw[hs.block q (bz cJ hgrow.size) (fun e=>hqB (by cases e; rfl)),hgrow.block q cJ ?_]
  ·exact Below.heap_alloc _ _ _ hqw
  ·intro e;rcases hrow.2 with ⟨rfl,_⟩|⟨g,cap,cur,rfl,hb,_,_⟩
   ·simp[Value.ownBlock] at e
   ·obtain rfl:q=g:=by simpa[Value.ownBlock] using e
    omega
structure EP(w:World)(pre:List PA)(W:World):Prop where
 G5:M1 pre
 r0:Boxed W w.heap.size 44 (.slice none 0 0)
 r1:Boxed W (w.heap.size+1) 43 (.int .i64 0)
 row:∃v,Boxed W (w.heap.size+2) 44 v/\W.ownsRow (w.heap.size+4) 9 1 v pre.length (pre.map fun x=>GZ x.1.1)
 below:Below w.heap.size w W
 sz:w.heap.size+4<=W.heap.size
structure GL(w:World)(c:Code)(pre:List PA)(W:World):Prop where
 ret:c = .ret
 bad:qH (pre.map (·.1)) 0=none
 r0:Boxed W w.heap.size 44 (.slice none 0 0)
 r1:Boxed W (w.heap.size+1) 43 (.int .i64 60)
 below:Below w.heap.size w W
def tN{W W':World}{row:Option Nat}{B k:Nat}{t:TypeId}{v:Value}(h:Boxed W B t v)(hg:W.grownBy W' row)(hr:∀r,row=some r->k<=r/\∃o:Obj,W.heap[r]?=some o/\o.isCells=false):Boxed W' B t v :=
 h.kept hg fun e=>by obtain⟨_,o,ho,hc⟩:=hr B e.symm; rw[show W.heap[B]?=_ from h] at ho; cases ho; cases hc
def EP.own{w:World}:OwnFrom (w.heap.size+4) (EP w):=fun s A B row hs hg hr=>by
 obtain⟨v,hv,hrow⟩:=hs.row;exact⟨hs.G5,tN hs.r0 hg hr,tN hs.r1 hg hr,⟨v,tN hv hg hr,((holdsRow_own (β:=Unit) (w.heap.size+4) (w.heap.size+2) 44 9 1 (fun _=>s.length) (fun _=>s.map fun x=>GZ x.1.1) (fun _ u=>u=v)) () A B row ⟨v,hv,hrow,rfl⟩ hg (fun r e=>(hr r e).2)).elim fun u hu=>hu.2.2▸hu.2.1⟩,ownFrom_below (β:=Unit) (au _) aH () A B row hs.below hg hr,aY hs.sz hg.size⟩
def GL.own{w:World}(c:Code):OwnFrom (w.heap.size+4) (GL w c):=fun s A B row hs hg hr =>
 ⟨hs.ret,hs.bad,tN hs.r0 hg hr,tN hs.r1 hg hr,ownFrom_below (β:=Unit) (au _) aH () A B row hs.below hg hr⟩
def EP.cell{w:World}(s:List PA)(A:World)(u:Value)(hs:EP w s A):EP w s (A.setCell ⟨w.heap.size+3,0,none⟩ u):=by
 obtain⟨v,hv,hrow⟩:=hs.row;have hg:=grownBy_setCell' A (w.heap.size+3) u;refine⟨hs.G5,hs.r0.other aH _,hs.r1.other aH _,⟨v,hv.other aH _,hrow.kept hg ?_⟩,hs.below.setCell (p:=⟨w.heap.size+3,0,none⟩) dw _,aY hs.sz hg.size⟩;rcases hrow.2 with ⟨rfl,_⟩|⟨g,cap,cur,rfl,hb,_,_⟩
 ·exact .inl rfl
 ·refine .inr fun e=>?_
  have:g=w.heap.size+3:=by simpa[Value.ownBlock] using e
  omega
def GL.made{w W:World}{pre:List PA}(h0:Boxed W w.heap.size 44 (.slice none 0 0))(h1:Boxed W (w.heap.size+1) 43 (.int .i64 0))(hb:Below w.heap.size w W)(hbad:qH (pre.map (·.1)) 0=none) :
  KeepsOthers W ((W.setCell ⟨w.heap.size,0,none⟩ (.slice none 0 0)).setCell ⟨w.heap.size+1,0,none⟩ (.int .i64 60))/\GL w .ret pre ((W.setCell ⟨w.heap.size,0,none⟩ (.slice none 0 0)).setCell ⟨w.heap.size+1,0,none⟩ (.int .i64 60)):=by
 refine⟨(KeepsOthers.setCell _ _ _).trans (KeepsOthers.setCell _ _ _),rfl,hbad,(h0.set _).other aH _,?_,(hb.setCell (p:=⟨w.heap.size,0,none⟩) (au _) _).setCell (p:=⟨w.heap.size+1,0,none⟩) dw _⟩;exact(h1.other aH _).set _
def Bp{W:World}{n₀ k:Nat}{v:Value}{xs:List Value}(h:W.ownsRow n₀ 9 1 v k xs):∃p cap,v = .slice p k cap:=by
 rcases h.2 with ⟨rfl,rfl⟩|⟨g,cap,cur,rfl,_⟩
 ·exact⟨_,_,rfl⟩
 ·exact⟨_,_,rfl⟩
def aa3{W:World}{n₀ n₁ k D:Nat}{v:Value}{xs:List Value}{x:Option (List Deferred)}{o:Obj}(h:W.ownsRow n₀ 9 1 v k xs)(hn:n₁<=n₀)(hD:W.heap[D]?=some (.deferred x)):(W.putObj D o).ownsRow n₁ 9 1 v k xs:=by
 refine⟨h.1,?_⟩;rcases h.2 with h0|⟨g,cap,cur,e,hb,hg,hr⟩
 ·exact .inl h0
 ·refine .inr ⟨g,cap,cur,e,aH,?_,hr⟩;exact(World.putObj_heap_other (fun e=>by subst e; rw[hD] at hg; cases hg)).trans hg
def JN{W:World}{n₀ k B:Nat}{v:Value}{xs:List Value}(h:W.ownsRow n₀ 9 1 v k xs)(hB:B<n₀)(u:Value):(W.setCell ⟨B,0,none⟩ u).ownsRow n₀ 9 1 v k xs:=by
 refine⟨h.1,?_⟩;rcases h.2 with h0|⟨g,cap,cur,e,hb,hg,hr⟩
 ·exact .inl h0
 ·exact .inr ⟨g,cap,cur,e,hb,(Below.heap_setCell _ _ _ _ (by show _≠B; omega)).trans hg,hr⟩
def tx{W:World}{B D:Nat}{t:TypeId}{v:Value}{x:Option (List Deferred)}{o:Obj}(h:Boxed W B t v)(hD:W.heap[D]?=some (.deferred x)):Boxed (W.putObj D o) B t v :=
 (World.putObj_heap_other (fun e=>by subst e; rw[show W.heap[B]?=_ from h] at hD; cases hD)).trans h
def Az{w W:World}{D:Nat}{o:Obj}(h:Below w.heap.size w W)(hD:w.heap.size<=D):Below w.heap.size w (W.putObj D o) :=
 ⟨h.os,h.tape,h.output,by simpa[World.putObj] using h.size,fun k hk=>(World.putObj_heap_other aH).trans (h.block k hk)⟩
def x5{W:World}{B D:Nat}{o:Obj}{u:Value}(h:W.heap[D]?=some o)(hB:D≠B):(W.setCell ⟨B,0,none⟩ u).heap[D]?=some o:=(Below.heap_setCell _ _ _ _ (by show _≠B; omega)).trans h
def results165{W:World}{b:Nat}{v u:Value}{tmps:Array Value}(h2:tmps[2]?=some (.pointer (some ⟨b,0,none⟩)))(h3:tmps[3]?=some (.pointer (some ⟨b+1,0,none⟩)))(hv:Boxed W b 44 v)(hu:Boxed W (b+1) 43 u):(results f165 tmps).run Tryz.prog W = .ok (.tuple #[v,u]) W:=by
 have c0:=hv.cell;have c1:=hu.cell;simp[results,f165,go_sem,c0,c1,h2,h3]
def xd{F:Fence}{n:Nat}{P:Program}{fn:Func}{tmps:Array Value}{R:Ending->World->Prop}{D:Nat}{W W':World}{v:Value}(hD:(Instr.takeDeferred D).run P W = .ok [] W')(hv:(results fn tmps).run P W' = .ok v W')(hR:R (.returned v) W') :
  LeavesInM F n P fn tmps R [{ target := .collected D,args := #[] }] .returning W :=
 ⟨dw,.inl ⟨D,W',rfl,hD,⟨v,hv,hR⟩⟩⟩
set_option maxRecDepth 100000 in
set_option maxHeartbeats 2000000 in
def Xd(n:Nat)(hn:6<=n)(s:Bytes)(ha:pc s)(hs:s.length<=100000)(w:World) :
  CallsIn Fence.wide n Tryz.prog 165 #[.string (bs s)] w fun e W'=>∃v,e = .returned (.tuple #[v,.int .i64 (gD s).2])/\W'.ownsRow w.heap.size 9 1 v (gD s).1.length ((gD s).1.map GZ)/\Below w.heap.size w W':=by
 have h1:1<=n:=aH;obtain⟨i0,hi,hz0,hz1,hz2⟩:=info_parts alV;refine callsIn_of_wp_marks func165 rfl trivial ?_ rfl;simp only[ntmps165,cZ,av,az,Nat.reduceAdd,Nat.reduceSub,jK,jL,kY,j9,aO,aG];have b0:=Boxed.new w 44 (.slice none 0 0);have b1:=Boxed.new (w.alloc (.cells #[.slice none 0 0] 44)) 43 (.int .i64 0);have b2:=Boxed.new ((w.alloc (.cells #[.slice none 0 0] 44)).alloc (.cells #[.int .i64 0] 43)) 44 (.slice none 0 0);have b3:=Boxed.new (((w.alloc (.cells #[.slice none 0 0] 44)).alloc (.cells #[.int .i64 0] 43)).alloc (.cells #[.slice none 0 0] 44)) 9 (.string (bs s));simp only[World.size_alloc] at b1 b2 b3;have hB2:Below w.heap.size w ((w.alloc (.cells #[.slice none 0 0] 44)).alloc (.cells #[.int .i64 0] 43)):=((Below.refl _ w).alloc (au _) _).alloc dw _;have hB4:=(hB2.alloc gh (.cells #[.slice none 0 0] 44)).alloc gh (.cells #[.string (bs s)] 9)
 by_cases hs47:s=[47]
 ·subst hs47;have ht:((bs [47]).toList==[47])=true:=by rw[vl]; rfl
  gi_wp2
  have c0:=(b0.alloc (.cells #[.int .i64 0] 43)).cell;have c1:=b1.cell;refine⟨.tuple #[.slice none 0 0,.int .i64 0],?_,_,rfl,World.ownsRow_nil _ _ _ _,hB2⟩;simp[results,f165,go_sem,c0,c1]
 have ht:((bs s).toList==[47])=false:=by rw[vl]; simpa using hs47
 gi_wp2
 refine⟨trivial,(PZ _ s _).mono ?_⟩;rintro e w' ⟨rfl,rfl⟩
 gi_wp2
 obtain⟨W4,hW4⟩:∃W4,(((w.alloc (.cells #[.slice none 0 0] 44)).alloc (.cells #[.int .i64 0] 43)).alloc (.cells #[.slice none 0 0] 44)).alloc (.cells #[.string (bs s)] 9)=W4:=⟨_,rfl⟩;have hsz:W4.heap.size=w.heap.size+4:=by rw[<-hW4]; simp
 have e0:Boxed W4 w.heap.size 44 (.slice none 0 0):=by rw[<-hW4]; exact((b0.alloc _).alloc _).alloc _
 have e1:Boxed W4 (w.heap.size+1) 43 (.int .i64 0):=by rw[<-hW4]; exact(b1.alloc _).alloc _
 have e2:Boxed W4 (w.heap.size+2) 44 (.slice none 0 0):=by rw[<-hW4]; exact b2.alloc _
 rw[hW4] at b3 hB4 ⊢
 have hseq:Ff (w.heap.size+3) Fence.wide (n-1) Tryz.prog 274 #[.pointer (some ⟨w.heap.size+3,0,none⟩)] Yv (fun A B=>B.heap[w.heap.size+3]?=A.heap[w.heap.size+3]?) (fun xs=>xs.map (·.1)=nk s) (fun pre=>pre.map (·.1) <+: nk s) (nk s).length W4 :=
  fun l J Jx W hW hJ hJx hJc hY h0=>YU (n-1) aH l _ _ s ha hs (au _) J Jx W hJ hJc hY ((hW.block _ aH).trans b3) h0
 refine yk (b0:=w.heap.size+3) aH rfl h1 (gf:=274) (lb := #[.pointer (some ⟨w.heap.size+3,0,none⟩)]) rfl trivial (enters_of func274 fA rfl) hseq
  (fun h k=>k.trans h) (fun W l o o' hl _ _ _=>World.putObj_heap_other aH) (Below.refl _ _) (fun _=>rfl)
  (EP w) (GL w) (by rw[hsz]; exact EP.own) (fun c=>by rw[hsz]; exact GL.own c) EP.cell
  ⟨⟨rfl,dw⟩,e0,e1,⟨_,e2,World.ownsRow_nil _ _ _ _⟩,hB4,aH⟩
  (fun x=>{ tmps := #[.string (bs s),undef,.pointer (some ⟨w.heap.size,0,none⟩),.pointer (some ⟨w.heap.size+1,0,none⟩),.pointer (some ⟨w.heap.size+1+1,0,none⟩),.string (bs x.1.1),.bool x.1.2,.string (bs s),.bool false,.string (bs s),.func (.func 274) #[] #[.pointer (some ⟨w.heap.size+1+1+1,0,none⟩)],.string (bs x.1.1),.bool x.1.2,
   undef,undef,undef,undef,undef,undef,undef,undef,undef,undef,undef,undef,undef,undef,undef,undef,undef,undef,undef,undef],defers:=[] }) ?assign ?body ?done ?stop
 case assign =>
  intro l x W K hK
  gi_wp2
  exact hK
 case body =>
  rintro l pre ⟨⟨nm,ok⟩,hxa,hxl⟩ W hInv cJ;obtain⟨v,hv,hrow⟩:=hInv.row;have hc0:=hInv.r0.cell;have hf0:=hInv.r0.frozen;have hc1:=hInv.r1.cell;have hf1:=hInv.r1.frozen;cases ok with
  |false =>
   gi_wp2
   refine⟨trivial,?_⟩
   gi_wp2
   exact GL.made hInv.r0 hInv.r1 hInv.below (Ax hInv.G5 (by simp[ES]))
  |true =>
   gi_wp2
   refine⟨trivial,fun h=>(by cases h),(CallsIn.inRound l (callsIn_wide.2 (WO nm hxl hxa W))).mono ?_⟩
   rintro e W5 ⟨rfl,hg5⟩;have hInv5:EP w pre W5:=EP.own pre W W5 none hInv hg5 (fun r e=>by cases e)
   have hK5:KeepsOthers W W5:=KeepsOthers.of_grownBy hg5 (fun j o e=>by cases e)
   clear hc0 hf0 hc1 hf1 hrow hv v;obtain⟨v,hv,hrow⟩:=hInv5.row;have hc0:=hInv5.r0.cell;have hf0:=hInv5.r0.frozen;have hc1:=hInv5.r1.cell;have hf1:=hInv5.r1.frozen;have hc2:W5.cell? ⟨w.heap.size+1+1,0,none⟩=some v:=hv.cell;have hf2:W5.frozen? ⟨w.heap.size+1+1,0,none⟩=false:=hv.frozen;cases hnm:fY nm with
   |false =>
    gi_wp2
    have:=GL.made hInv5.r0 hInv5.r1 hInv5.below (Ax (x:=⟨(nm,true),hxa,hxl⟩) hInv5.G5 (by simp[ES,hnm]))
    exact⟨hK5.trans this.1,this.2⟩
   |true =>
    obtain⟨p,cap,rfl⟩:=Bp hrow
    by_cases hl:pre.length=12
    ·have hl':((pre.length:Int)==12)=true:=by simp[hl]
     gi_wp2
     have:=GL.made hInv5.r0 hInv5.r1 hInv5.below (Ax (x:=⟨(nm,true),hxa,hxl⟩) hInv5.G5 (by simp[ES,hnm,hl]))
     exact⟨hK5.trans this.1,this.2⟩
    ·have hl':((pre.length:Int)==12)=false:=gh
     gi_wp2_with (gi_at_builtin; generalize hX:wpListIn _ _ _ _ _ _ _ _=X)
     subst hX;refine wpListIn_append_own _ rfl _ _ 44 rfl (w.heap.size+4) 9 i0 (.string ⟨#[]⟩) 1 16 underlying44 hi hz0 hz1 hz2 rfl mu _ _ _ rfl (hrow.alloc _) ⟨W5.heap.size,0,none⟩ 1 1 [GZ nm] rfl rfl (cell_one_new _ _ _) (by simp[Value.oneCell']) (by have:=hInv5.G5.2; simp[maxLen]; omega) (by have:=hInv5.G5.2; omega) (by have:=hv.lt; simp; omega) ?_
     intro v' w1 hown' hgrow hiff;obtain⟨q0,q1,q2,q3,q4,q5,q6,q7,q8⟩:=appended hv hrow hown' hgrow;have hc2':w1.cell? ⟨w.heap.size+1+1,0,none⟩=some (.slice p pre.length cap):=q0.cell;have hf2':w1.frozen? ⟨w.heap.size+1+1,0,none⟩=false:=q0.frozen;obtain⟨p',cap',rfl⟩:=Bp hown'
     gi_wp2
     refine⟨hK5.trans q3,(q8 _ aH (by have:=hInv5.sz; omega) aH).trans (hg5.block _ (by have:=hInv.sz; omega) dw),?_⟩
     refine⟨Lo hInv5.G5 (by simp[ES,hnm,hl]),(q8 _ aH hInv5.r0.lt aH).trans hInv5.r0,(q8 _ aH hInv5.r1.lt aH).trans hInv5.r1,⟨_,q1,by simpa using q2⟩,?_,aY hInv5.sz q7⟩
     exact hInv5.below.trans ⟨q4,q5,q6,q7,fun q hq=>q8 q aH (by have:=hInv5.below.size; omega) aH⟩
 case done =>
  rintro D ys W hD hys hInv hK;obtain⟨v,hv,hrow⟩:=hInv.row;have hc0:=hInv.r0.cell;have hf0:=hInv.r0.frozen;have hc1:=hInv.r1.cell;have hf1:=hInv.r1.frozen;have hc2:W.cell? ⟨w.heap.size+1+1,0,none⟩=some v:=hv.cell;have hf2:W.frozen? ⟨w.heap.size+1+1,0,none⟩=false:=hv.frozen;obtain⟨p,cap,rfl⟩:=Bp hrow
  by_cases hl:ys.length=0
  ·have hl':((ys.length:Int)==0)=true:=by simp[hl]
   have hy:ys=[]:=dQ.1 hl
   have hsp:gD s=([],60):=by
    rw[hy] at hys;simp[gD,hs47,<-hys,qH]
   gi_wp2
   have hm:=x5 (u := .int .i64 60) (x5 (u := .slice none 0 0) hK (B:=w.heap.size) aH) (B:=w.heap.size+1) aH;have k0:Boxed ((W.setCell ⟨w.heap.size,0,none⟩ (.slice none 0 0)).setCell ⟨w.heap.size+1,0,none⟩ (.int .i64 60)) w.heap.size 44 (.slice none 0 0):=(hInv.r0.set _).other aH _;have k1:Boxed ((W.setCell ⟨w.heap.size,0,none⟩ (.slice none 0 0)).setCell ⟨w.heap.size+1,0,none⟩ (.int .i64 60)) (w.heap.size+1) 43 (.int .i64 60):=(hInv.r1.other aH _).set _;refine xd (run_takeDeferred hm) (results165 rfl rfl (tx k0 hm) (tx k1 hm)) ⟨_,rfl,World.ownsRow_nil _ _ _ _,Az ((hInv.below.setCell (p:=⟨w.heap.size,0,none⟩) (au _) _).setCell (p:=⟨w.heap.size+1,0,none⟩) dw _) aH⟩
  ·have hl':((ys.length:Int)==0)=false:=by rw[kb]; omega
   have hsp:gD s=(ys.map (·.1.1),0):=by
    have h0:=hInv.G5.1;rw[hys] at h0;cases ys with
    |nil=>simp at hl
    |cons y ys=>simp[gD,hs47,h0]
   gi_wp2
   have hm:=x5 (u := .int .i64 0) (x5 (u := .slice p ys.length cap) hK (B:=w.heap.size) aH) (B:=w.heap.size+1) aH;have k0:Boxed ((W.setCell ⟨w.heap.size,0,none⟩ (.slice p ys.length cap)).setCell ⟨w.heap.size+1,0,none⟩ (.int .i64 0)) w.heap.size 44 (.slice p ys.length cap):=(hInv.r0.set _).other aH _;have k1:Boxed ((W.setCell ⟨w.heap.size,0,none⟩ (.slice p ys.length cap)).setCell ⟨w.heap.size+1,0,none⟩ (.int .i64 0)) (w.heap.size+1) 43 (.int .i64 0):=(hInv.r1.other aH _).set _;refine xd (run_takeDeferred hm) (results165 rfl rfl (tx k0 hm) (tx k1 hm)) ⟨_,rfl,?_,Az ((hInv.below.setCell (p:=⟨w.heap.size,0,none⟩) (au _) _).setCell (p:=⟨w.heap.size+1,0,none⟩) dw _) aH⟩;have:=aa3 (JN (JN hrow (by omega:w.heap.size<_) (.slice p ys.length cap)) (by omega:w.heap.size+1<_) (.int .i64 0)) (by omega:w.heap.size<=_) hm (o := .deferred none)
   simpa[Function.comp_def] using this
 case stop =>
  rintro D c pre W hD hpre hOut hK;obtain rfl:=hOut.ret;have hsp:gD s=([],60):=by simp[gD,hs47,P7 hpre hOut.bad]
  gi_wp2
  refine xd (run_takeDeferred hK) (results165 rfl rfl (tx hOut.r0 hK) (tx hOut.r1 hK)) ⟨_,rfl,World.ownsRow_nil _ _ _ _,Az hOut.below aH⟩
def Xc(s:Bytes)(ha:pc s)(hs:s.length<=100000)(w:World) :
  Calls Tryz.prog 165 #[.string (bs s)] w fun e W'=>∃v,e = .returned (.tuple #[v,.int .i64 (gD s).2])/\W'.ownsRow w.heap.size 9 1 v (gD s).1.length ((gD s).1.map GZ)/\Below w.heap.size w W' :=
 callsIn_wide.1 (Xd 6 aH s ha hs w)
end
end
instance (s:Bytes):Decidable (pc s):=inferInstanceAs (Decidable True)
def Ef:List ag->aC->Option (ag×aC)
 | [.str s],M=>if pc s/\s.length<=100000 then some (.tuple [.slice .sh ((gD s).1.map .str),.int .i64 (gD s).2],M) else none
 |_,_=>none
def P8{args:List ag}{M:aC}{x:ag×aC}(h:Ef args M=some x):dp Tryz.prog 165 args M x:=by
 unfold Ef at h;split at h
 ·rename_i s;split at h
  ·rename_i hs;cases h;refine nJ.call ?_;intro j w vs hr hG hl hv;obtain⟨u,rfl⟩:=CR hl;have h1:=(hv 0 _ u rfl rfl).kv;subst h1;refine(Xc s hs.1 hs.2 w).mono ?_;rintro e w' ⟨v,rfl,⟨dR,hown⟩,hb⟩;refine⟨_,j,rfl,hr.grow hb.size hb.os hb.tape hb.output hb.block,Ext.grow hb.size hb.os hb.tape hb.output hb.block,.tuple rfl ?_⟩;intro i c v' hi hv'
   match i with
   |0 =>
    cases hi; cases hv';refine .plain ?_;rcases hown with ⟨rfl,h0⟩|⟨g,cap,cur,rfl,hg,hg',hn1,_,hcs,htk⟩
    ·rw[dQ.1 h0];exact fR.nil _ _ _
    ·refine .slice _ _ _ _ g 0 1 (fun k=>GZ ((gD s).1.getD k [])) dw (by simpa using hn1) (fun _=>rfl) ?_ ?_ ?_
     ·intro x hx;obtain⟨b,_,rfl⟩:=eJ.1 hx;rfl
     ·intro i x k c hx hc;rw[aX] at hx;obtain⟨b,hb',rfl⟩:=aV.1 hx
      match k with
      |0 =>
       have hi:i<(gD s).1.length:=(aj.1 hb').1;refine⟨?_,?_,?_,?_⟩
       ·have h1:cur.toList[i]?=some (GZ b):=by
         have:(cur.toList.take ((gD s).1.length*1))[i]?=some (GZ b):=by rw[htk,aX,hb']; rfl
         rwa[bG aH] at this
        have h2:cur[i]?=some (GZ b):=by simpa using h1
        have h3:(gD s).1.getD i []=b:=by simp[List.getD,hb']
        simp only[pK,df,aJ];rw[h3];simp[World.cell?,hg',h2]
       ·exact lt_of_block hg'
       ·intro id hid hji;have:=hr.lt id g hid hji; omega
       ·intro hx; have:=hr.Aq g _ hx; omega
      |k+1=>cases hc
     ·intro i x k c hx hc;rw[aX] at hx;obtain⟨b,hb',rfl⟩:=aV.1 hx
      match k with
      |0 =>
       cases hc;have h3:(gD s).1.getD i []=b:=by simp[List.getD,hb']
       simp only[pK,df];rw[h3];exact .str _
      |k+1=>cases hc
   |1=>cases hi; cases hv'; exact .plain (.int _ _)
   |i+2=>cases hi
  ·cases h
 ·cases h
section
attribute [local irreducible] eX fJ lj gK dY kr aq aR cp bI
def rJ:∀a:Bytes,strLt a a=false
 | []=>rfl
 |a::x=>by simp[strLt,rJ x,oJ]
def xC:∀ {a b c:Bytes},strLt a b=true->strLt b c=true->strLt a c=true
 | [],b,[],_,h2=>by cases b<;>simp[strLt] at h2
 | [],_,_::_,_,_=>rfl
 |_::_,[],_,h1,_=>by simp[strLt] at h1
 |_::_,_::_,[],_,h2=>by simp[strLt] at h2
 |a::x,b::y,c::z,h1,h2=>by
  simp only[strLt,cU,bu,bh,dZ] at h1 h2 ⊢;simp only[kS] at h1 h2 ⊢;rcases h1 with h1|⟨h1,h1'⟩
  ·rcases h2 with h2|⟨h2,_⟩
   ·left; omega
   ·left; rw[<-h2]; exact h1
  ·rcases h2 with h2|⟨h2,h2'⟩
   ·left; rw[h1]; exact h2
   ·right; exact⟨h1.trans h2,xC h1' h2'⟩
def sj{l:List gM}(h:ra l)(s:Bytes):Oe l s (mo l s):=by
 unfold mo;induction l with
 |nil=>exact⟨dw,fun h n hn=>by simp at hn⟩
 |cons a r ih =>
  obtain⟨h1,h2⟩:=dq.1 h;obtain⟨i1,i2⟩:=ih h2
  by_cases ha:strLt a.name s=true
  ·rw[iv,aW ha];refine⟨by simpa using i1,fun k n hn=>?_⟩
   cases k with
   |zero=>simp at hn; subst hn; simp[ha]
   |succ k=>rw[i2 k n (by simpa using hn)]; simp
  ·rw[iv,aP ha];refine⟨dw,fun k n hn=>?_⟩
   simp only[az,jI,p6];cases k with
   |zero=>simp at hn; subst hn; exact ha
   |succ k=>exact fun hc=>ha (xC (h1 n (aI (by simpa using hn))) hc)
def jW{l:List gM}{s:Bytes}{e:gM}(h:gv l s=some e):e∈l/\e.name=s:=by
 unfold gv at h;exact⟨iB h,by simpa using List.find?_some h⟩
def wV{l:List gM}(h:ra l)(s:Bytes):(zN l s (mo l s)=true/\∃n,l[mo l s]?=some n/\gv l s=some n/\n.name=s)\/(zN l s (mo l s)=false/\gv l s=none):=by
 obtain⟨l1,l2⟩:=sj h s;cases hf:gv l s with
 |some n =>
  left;obtain⟨hm,he⟩:=jW hf;obtain⟨k,hk⟩:=bZ hm;have hkb:¬k<mo l s:=fun hc=>by have:=(l2 k n hk).2 hc; rw[he,rJ] at this; cases this
  have hb:mo l s<l.length:=by have:=(aj.1 hk).1; omega
  have hx:=ai hb;have hnl:¬strLt l[mo l s].name s=true:=fun hc=>ic _ ((l2 _ _ hx).1 hc)
  have hke:k=mo l s:=by
   rcases bE (mo l s) k with cJ|hge
   ·have hkl:=(aj.1 hk).1;have h3:=cm.1 h _ _ hb hkl cJ;have h4:l[k]=n:=by rw[ai hkl] at hk; injection hk
    rw[h4,he] at h3;exact absurd h3 hnl
   ·omega
  subst hke;exact⟨by unfold zN; rw[hk]; simp[he],n,hk,rfl,he⟩
 |none =>
  right;refine⟨?_,rfl⟩;unfold zN;split
  ·rename_i n hn;have:=fy.1 hf n (aI hn);simpa using this
  ·rfl
structure rP(t:Tree):Prop where
 mj:oS t.ae
 bc:∀n,n∈t.ae->ra n.bc
def rP.dir{t:Tree}(h:rP t)(ar:Int):ra (gY t.ae ar).1.bc:=by
 unfold gY;split
 ·exact List.Pairwise.nil
 ·rename_i n hn;split
  ·exact h.bc n (cG hn).1
  ·exact List.Pairwise.nil
def ap5(t:Tree)(ar:Int)(s:Bytes)(ht:Small t)(hr:rP t)(hs:s.length<=100000)(ha:pc s):aq cd 151 [br t,aF ar,.str s] []=some (.tuple [aF (fh t.ae ar s).1,aF (fh t.ae ar s).2],[]):=by
 obtain⟨ae,next,ak⟩:=t
 have hn:ae.length<=100000:=ht.ae;have hd:(gY ae ar).1.bc.length<=100000:=tC ht ar;have hE:ra (gY ae ar).1.bc:=hr.dir ar;have hk:=fun b M=>YZ ae next ak ar hr.mj hn 1 (b :: cA [ba ae,aF next,aF ak]::M) rfl
 refine aB ?_;simp only[ace,Kh,br,aM,hk,bK,aL,EN,seval];unfold fh;refine bA (fun hb=>?_) (fun hb=>?_)
 ·simp only[Kh,EN,seval];clear hk;simp_all
 ·simp only[Kh,afq,hs,ha,EN,seval];refine bA (fun hb'=>?_) (fun hb'=>?_)
  ·simp only[Kh,EN,seval];clear hk;simp_all
  ·have hk2:=fun a b c d u M=>SJ a b c d (gY ae ar).1.bc u s _ (sj hE s) hd M
   simp only[Kh,hk2,EN,seval];rcases wV hE s with ⟨h1,e,h2,h3,_⟩|⟨h1,h2⟩
   ·simp only[Kh,h1,h2,fU,EN,seval];clear hk hk2;simp_all
   ·simp only[Kh,h1,EN,seval];clear hk hk2;simp_all
def YX(ae:List Node)(next ak ar:Int)(s:Bytes)(ht:Small ⟨ae,next,ak⟩)(hr:rP ⟨ae,next,ak⟩)(hs:s.length<=100000)(ha:pc s)(M:aC):aR (aq cd) 151 [.agg [ba ae,aF next,aF ak],aF ar,.str s] M =
  some (.tuple [aF (fh ae ar s).1,aF (fh ae ar s).2],M):=cO (ap5 ⟨ae,next,ak⟩ ar s ht hr hs ha) M
def aqE(t:Tree)(ar:Int)(ht:Small t)(hr:rP t):aq cd 191 [br t,aF ar] []=some (.tuple [bK (bl t.ae ar),.bool (find t.ae ar).isSome],[]):=by
 obtain⟨ae,next,ak⟩:=t
 have hn:ae.length<=100000:=ht.ae;have hk:=fun b c M=>E3 ae next ak ar hr.mj hn 2 (b::c :: cA [ba ae,aF next,aF ak]::M) rfl
 refine aB ?_;simp only[acy,aou,br,aM,hk,bK,aL,EN,seval]
abbrev mS(n:Int):ag := .int .i64 n
def uw(l:List Int):wid (l.map mS) 1=True:=by
 simp only[fx,ja];intro x hx;obtain⟨n,_,rfl⟩:=eJ.1 hx;rfl
def uu(ae:List Node):Nat->Int->List Int->List Int
 |0,_,out=>out
 |m+1,ar,out=>if ar != 1 then (if !(find ae ar).isSome||(bl ae ar).kind != 2 then out else uu ae m (bl ae ar).up (out++[(bl ae ar).up])) else out
def uC(ae:List Node)(ar:Int):List Int:=uu ae ae.length ar [ar]
def aab{ae:List Node}{next ak:Int}(h:oS ae)(hn:ae.length<=100000){k:List K}{R:List Int->Option (ag×aC)}
  (hx:∀(out:List Int) v q,kr (aq cd) [.tmp 4] 1 k ⟨.exit 0,[(0,cv 0),(1,v),(5,.slice (.own 1) (out.map mS)),(22,q)],[cA [ba ae,aF next,aF ak],.tick 1 out.length]⟩=R out)
  (hr:∀(out:List Int) b,kr (aq cd) [.tmp 4] 1 k ⟨.ret,[(4,.slice (.own 1) (out.map mS))],[cA [ba ae,aF next,aF ak],.tick 1 out.length,b]⟩=R out) :
  ∀(m:Nat)(ar:Int)(out:List Int),out.length+m=ae.length+1->eX (aq cd) [.tmp 4] 1 k (.loop [0,1,5] ZJ) [(0,cv 0),(1,aF ar),(5,.slice (.own 1) (out.map mS))] [cA [ba ae,aF next,aF ak],.tick 1 out.length]=R (uu ae m ar out):=by
 intro m;induction m with
 |zero =>
  intro ar out ho;rw[bF];have hd':((out.length:Int)<=(ae.length:Int))=False:=gh;simp only[Cq,EN,seval]
  repeat' ((first|apply bA|apply bW|apply dK)<;>intro hb<;>simp only[hb,EN,Cq,hd',seval])
  all_goals exact hx _ _ _
 |succ m ih =>
  intro ar out ho;rw[bF];have hd':((out.length:Int)<=(ae.length:Int))=True:=gh;have r1:cr (out.length+1) 8=True:=qI;have hk:=fun M=>E3 ae next ak ar h hn 0 (cA [ba ae,aF next,aF ak]::M) rfl
  have hi:=ih (bl ae ar).up (out++[(bl ae ar).up]) gh;simp only[aZ,aK,aU,aA,av,az,aJ] at hi;rw[uu];simp only[Cq,EN,seval];refine bW (fun hb=>?_) (fun hb=>?_)
  ·simp only[Cq,hb,hd',hk,bK,aL,EN,seval];refine bW (fun hb1=>?_) (fun hb1=>?_)
   ·simp only[Cq,hb1,EN,seval];refine bA (fun hb2=>?_) (fun hb2=>?_)
    ·simp only[Cq,hb2,hb1,eu,cV,EN,seval];exact hr _ _
    ·simp only[Cq,hb2,hb1,r1,uw,fG,af,EN,seval];exact hi
   ·simp only[Cq,hb1,dI,EN,seval];exact hr _ _
  ·simp only[Cq,hb,af,EN,seval];exact hx _ _ _
def aqJ(ae:List Node)(next ak ar:Int)(h:oS ae)(hn:ae.length<=100000):aq cd 200 [cv 0,aF ar] [cA [ba ae,aF next,aF ak]] =
  some (gA ((uC ae ar).map mS),[cA [ba ae,aF next,aF ak]]):=by
 refine aB ?_;simp only[R8,Cq,EN,seval];exact aab (R:=fun out=>some (gA (out.map mS),[cA [ba ae,aF next,aF ak]])) h hn (fun out v q=>by simp only[Cq,EN,seval]) (fun out b=>by simp only[Cq,EN,seval]) ae.length ar [ar] gh
def afr ae next ak ar h hn p M hM:=cM (p:=p) (M:=M) hM (aqJ ae next ak ar h hn)
def yd(ae:List Node):∀(m:Nat)(ar:Int)(out:List Int),out.length<=(uu ae m ar out).length/\(uu ae m ar out).length<=out.length+m
 |0,_,out=>⟨au _,au _⟩
 |m+1,ar,out=>by
  rw[uu];split
  ·split
   ·exact⟨au _,aH⟩
   ·have:=yd ae m (bl ae ar).up (out++[(bl ae ar).up]);simp at this;omega
  ·exact⟨au _,aH⟩
def uv(ae:List Node)(ar:Int):1<=(uC ae ar).length/\(uC ae ar).length<=ae.length+1:=by
 have:=yd ae ae.length ar [ar];simp at this;unfold uC;omega
def aq9(ae:List Node)(next ak ar:Int)(h:oS ae)(hn:ae.length<=100000):aq cd 239 [cv 0,aF ar] [cA [ba ae,aF next,aF ak]] =
  some (aF (((uC ae ar).length-1:Nat):Int),[cA [ba ae,aF next,aF ak]]):=by
 refine aB ?_;have hk:=fun M=>afr ae next ak ar h hn 0 (cA [ba ae,aF next,aF ak]::M) rfl
 have hl:=uv ae ar;have hw:IntKind.i64.wrap (((uC ae ar).length:Int)-1)=(((uC ae ar).length-1:Nat):Int):=by rw[gW aH aH]; omega
 simp only[ac0,aoI,hk,hw,EN,seval]
def amp ae next ak ar h hn p M hM:=cM (p:=p) (M:=M) hM (aq9 ae next ak ar h hn)
def BF(n:Node)(rest:List Node):∀(pre out:List Node),(∀m,m∈pre->m.ar<n.ar)->oq n (pre++rest) out false=oq n rest (out++pre) false
 | [],out,_=>dw
 |m::r,out,h=>by
  have hm:=h m (bD ..);have h1:¬n.ar<=m.ar:=aH;have h2:¬m.ar=n.ar:=aH;rw[aG,oq];simp only[pZ,h1,h2,decide_false,dM,fG,af,aD];rw[BF n rest r _ fun x hx=>h x (bw _ hx)]
  simp
def zk(n:Node):∀(rest out:List Node),(∀m,m∈rest->n.ar<m.ar)->oq n rest out true=(out++rest,true)
 | [],out,_=>by simp[oq]
 |m::r,out,h=>by
  have hm:=h m (bD ..);have h2:¬m.ar=n.ar:=aH;rw[oq];simp only[ct,cI,h2,dI,af,aD];rw[zk n r _ fun x hx=>h x (bw _ hx)]
  simp
def vJ{ae:List Node}{ar:Int}{b:Nat}(h:X0 ae ar b):∀m,m∈ae.take b->m.ar<ar:=fun m hm=>by
 obtain⟨k,hk⟩:=bZ hm;rw[fz] at hk;split at hk
 ·rename_i cJ; exact(h.lt k m hk).2 cJ
 ·cases hk
def Fv{ae:List Node}{ar:Int}{b:Nat}(h:X0 ae ar b):∀m,m∈ae.drop b->ar<=m.ar:=fun m hm=>by
 obtain⟨k,hk⟩:=bZ hm;rw[cC] at hk;have:=h.lt _ m hk;have hn:¬b+k<b:=aH;have:=fun hc=>hn (this.1 hc)
 omega
def ye{ae:List Node}(h:oS ae){n:Node}(hf:find ae n.ar=none):eV ae n=ae.take (mg ae n.ar)++n::ae.drop (mg ae n.ar):=by
 have hl:=uN h n.ar
 have hd:∀m,m∈ae.drop (mg ae n.ar)->n.ar<m.ar:=fun m hm=>by
  have h1:=Fv hl m hm;have h2:=fy.1 hf m (dy hm);have:¬m.ar=n.ar:=by simpa using h2
  omega
 unfold eV;rw[show oq n ae [] false=oq n (ae.take (mg ae n.ar)++ae.drop (mg ae n.ar)) [] false by rw[cF]]
 rw[BF n _ _ _ (vJ hl)];generalize ae.drop (mg ae n.ar)=rest at hd;cases rest with
 |nil=>simp[oq]
 |cons m r =>
  have hm:=hd m (bD ..);have h1:n.ar<=m.ar:=aH;have h2:¬m.ar=n.ar:=aH;rw[oq];simp only[pZ,h1,h2,decide_true,dC,gb,eu,aE,aD];rw[zk n r _ fun x hx=>hd x (bw _ hx)]
  simp
def tK{ae:List Node}(h:oS ae){n o:Node}(ho:ae[mg ae n.ar]?=some o)(he:o.ar=n.ar):eV ae n=ae.set (mg ae n.ar) n:=by
 have hl:=uN h n.ar;have cJ:=(aj.1 ho).1
 have hdr:ae.drop (mg ae n.ar)=o::ae.drop (mg ae n.ar+1):=by
  rw[cW cJ];rw[ai cJ] at ho; injection ho with ho; rw[ho]
 have hd:∀m,m∈ae.drop (mg ae n.ar+1)->n.ar<m.ar:=fun m hm=>by
  obtain⟨k,hk⟩:=bZ hm;rw[cC] at hk;have hkl:=(aj.1 hk).1;have h3:=cm.1 h _ _ cJ hkl aH;have h4:ae[mg ae n.ar+1+k]=m:=by rw[ai hkl] at hk; injection hk
  have h5:ae[mg ae n.ar]=o:=by rw[ai cJ] at ho; injection ho
  rw[h4,h5] at h3;omega
 unfold eV;rw[show oq n ae [] false=oq n (ae.take (mg ae n.ar)++ae.drop (mg ae n.ar)) [] false by rw[cF]]
 rw[BF n _ _ _ (vJ hl),hdr,oq];simp only[pZ,he,dP,decide_true,dC,gb,eu,aE,db];rw[zk n _ _ hd,js,aW cJ];simp
def p85{ae:List Node}(h0:ae≠[])(hn:ae.length<=100000)(M:aC):aq cd 241 [ba ae] M=some (.cB M.length 0 6 0 ae.length,M++[.arr 6 0 (ae.map bK)]):=by
 refine fg (g:=mN 6 80) rfl ?_;obtain⟨a,r,rfl⟩:=fm h0;have hw:wid ((a::r).map bK) 6:=by have:=Gy (a::r); simpa using this
 have hr:cr ((a::r).map bK).length 80:=by have:=sn (a:=(a::r).length) (b:=80) aH aH; simpa using this
 unfold mN;simp only[aK] at hw hr ⊢;rw[fi ⟨hw,hr⟩];simp
def p86{ae:List Node}{b:Nat}(hb:b<=ae.length)(hn:ae.length<=100000)(n:Node)(c0 c1:cL) :
  aq cd 242 [.cB 2 0 6 0 ae.length,aF b,gA [.agg (aL n)]] [c0,c1,.arr 6 0 (ae.map bK)]=some (.cB 2 1 6 0 (ae.length+1),[c0,c1,.arr 6 1 ((ae.take b++n::ae.drop b).map bK)]):=by
 refine fg (g:=kV 6 80) rfl ?_;have hr:cr ((ae.map bK).length+1) 80:=by have:=sn (a:=ae.length+1) (b:=80) aH aH; simpa using this
 unfold kV;simp only[nth];rw[fi ⟨trivial,trivial,trivial,dw,aH,by simpa using hb,rfl,hr⟩]
 simp[iT,bK]
def WX(ae:List Node)(b:Nat)(o n:Node)(h:ae[b]?=some o):(iT (ae.map bK) b (putCells (bK o) 0 (aL n)))=(ae.set b n).map bK:=by
 have:putCells (bK o) 0 (aL n)=bK n:=rfl;rw[this,fj,gH]
def aqx(ae:List Node)(next ak:Int)(n:Node)(h:oS ae)(h0:ae≠[])(hn:ae.length<=100000):aq cd 182 [cv 0,bK n] [cA [ba ae,aF next,aF ak]] =
  some (.tuple [],[cA [ba (eV ae n),aF next,aF ak]]):=by
 refine aB ?_;have hk:=fun M=>aft ae next ak n.ar h hn 0 (cA [ba ae,aF next,aF ak]::M) rfl
 have hp:=fun M=>p85 h0 hn M
 have hle:=(uN h n.ar).le;simp only[R2,ad0,bK,aL,hk,hp,EN,seval];rcases th h n.ar with ⟨h1,o,h2,h3,h4⟩|⟨h1,h2⟩
 ·have cJ:((mg ae n.ar:Int)<(ae.length:Int))=True:=by have:=(aj.1 h2).1; simp; omega
  simp only[ad0,h1,h2,cJ,bT,gk,cX,EN,seval];have e:=WX ae _ o n h2;simp only[aL] at e;rw[e,tK h h2 h4,bB dw]
 ·have hi:=fun c0 c1=>p86 hle hn n c0 c1
  simp only[aL] at hi;simp only[ad0,h1,hi,gk,cX,EN,seval];rw[ye h h2,bB gh]
def Lv(ae:List Node)(next ak a b c:Int)(d:Bytes)(e:List gM)(u:Int)(h:oS ae)(h0:ae≠[])(hn:ae.length<=100000)(p:Nat)(M:aC)(hM:nth M p=some (cA [ba ae,aF next,aF ak])) :
  aR (aq cd) 182 [cv p,.agg [aF a,aF b,aF c,c8 d,jb e,aF u]] M=some (.tuple [],iT M p (cA [ba (eV ae ⟨a,b,c,d,e,u⟩),aF next,aF ak])) :=
 ti hM (aqx ae next ak ⟨a,b,c,d,e,u⟩ h h0 hn) rfl rfl rfl rfl rfl rfl rfl rfl rfl rfl
def FZ:(∀M cs,ag.rM M (.agg cs) = .agg (cs.map (ag.pa M)))/\(∀M i o,ag.rM M (.ptr i o) = .ptr i o)/\(∀M k n,ag.rM M (.int k n) = .int k n)/\(∀M s,ag.rM M (.str s) = .str s) /\
  (∀M k n,ag.pa M (.int k n) = .int k n)/\(∀M s,ag.pa M (.str s) = .str s)/\(∀M tk xs,ag.pa M (.slice tk xs) = .slice tk xs)/\(∀M b,ag.pa M (.bool b) = .bool b) /\
  (∀M id ver sz lo hi,ag.pa M (.cB id ver sz lo hi)=match nth M id with
   |some (.arr _ v xs)=>if v=ver then gA ((xs.take hi).drop lo) else .any
   |_ => .any)/\(∀i a b c d,ag.nC (.cB i a b c d)=[i]):=by
 refine⟨?_,?_,?_,?_,?_,?_,?_,?_,?_,?_⟩<;>intros<;>rfl
def Ap{ae:List Node}(h:oS ae){ar:Int}{o:Node}(ho:ae[mg ae ar]?=some o)(he:o.ar=ar):fQ ae ar=ae.take (mg ae ar)++ae.drop (mg ae ar+1):=by
 have hl:=uN h ar;have cJ:=(aj.1 ho).1
 have hd:∀m,m∈ae.drop (mg ae ar+1)->ar<m.ar:=fun m hm=>by
  obtain⟨k,hk⟩:=bZ hm;rw[cC] at hk;have hkl:=(aj.1 hk).1;have h3:=cm.1 h _ _ cJ hkl aH;have h4:ae[mg ae ar+1+k]=m:=by rw[ai hkl] at hk; injection hk
  have h5:ae[mg ae ar]=o:=by rw[ai cJ] at ho; injection ho
  rw[h4,h5] at h3;omega
 have hdr:ae.drop (mg ae ar)=o::ae.drop (mg ae ar+1):=by
  rw[cW cJ];rw[ai cJ] at ho; injection ho with ho; rw[ho]
 unfold fQ;rw[show ae.filter (fun n=>n.ar != ar)=(ae.take (mg ae ar)++ae.drop (mg ae ar)).filter (fun n=>n.ar != ar) by rw[cF]]
 rw[jv,hdr,ft];simp only[he,aw,af,aD];rw[ji.2 fun m hm=>by have:=vJ hl m hm; simp; omega,ji.2 fun m hm=>by have:=hd m hm; simp; omega]
def yE{ae:List Node}{ar:Int}(hf:find ae ar=none):fQ ae ar=ae :=
 ji.2 fun m hm=>by simpa using fy.1 hf m hm
def atG{ae:List Node}{b:Nat}(hb:b<ae.length)(hn:ae.length<=100000)(c0:cL) :
  aq cd 283 [.cB 1 0 6 0 ae.length,aF b,aF ((b+1:Nat):Int)] [c0,.arr 6 0 (ae.map bK)]=some (.cB 1 1 6 0 (ae.length-1),[c0,.arr 6 1 ((ae.take b++ae.drop (b+1)).map bK)]):=by
 refine fg (g:=lF 6) rfl ?_;unfold lF;simp only[nth];rw[fi ⟨trivial,trivial,trivial,dw,aH,by simpa using hb,aH,gh⟩]
 simp[iT]
def arb(ae:List Node)(next ak ar:Int)(h:oS ae)(hn:ae.length<=100000):aq cd 244 [cv 0,aF ar] [cA [ba ae,aF next,aF ak]] =
  some (.tuple [],[cA [ba (fQ ae ar),aF next,aF ak]]):=by
 refine aB ?_;have hk:=fun M=>aft ae next ak ar h hn 0 (cA [ba ae,aF next,aF ak]::M) rfl
 simp only[Sc,ad7,hk,EN,seval];rcases th h ar with ⟨h1,o,h2,h3,h4⟩|⟨h1,h2⟩
 ·have cJ:=(aj.1 h2).1;have h0:ae≠[]:=by rintro rfl; simp at h2
  have hp:=fun M=>p85 h0 hn M
  have hd:=fun c0=>atG cJ hn c0
  have hw:IntKind.i64.wrap ((mg ae ar:Int)+1)=((mg ae ar+1:Nat):Int):=by rw[gW aH aH]; rfl
  simp only[ad7,h1,hp,hd,hw,gk,cX,EN,seval];rw[Ap h h2 h4,bB gh]
 ·simp only[ad7,h1,EN,seval];rw[yE h2]
def amq(ae:List Node)(next ak ar:Int)(h:oS ae)(hn:ae.length<=100000)(p:Nat)(M:aC)(hM:nth M p=some (cA [ba ae,aF next,aF ak])) :
  aR (aq cd) 244 [cv p,aF ar] M=some (.tuple [],iT M p (cA [ba (fQ ae ar),aF next,aF ak])) :=
 ti hM (arb ae next ak ar h hn) rfl rfl rfl rfl rfl rfl rfl rfl rfl rfl
def Mc{a b:Bytes}(h:strLt a b=true):strLt b a=false:=by
 cases hb:strLt b a with
 |false=>rfl
 |true=>have:=xC h hb; rw[rJ] at this; cases this
def xB:∀(a b:Bytes),strLt a b=true\/a=b\/strLt b a=true
 | [],[] => .inr (.inl rfl)
 | [],_::_ => .inl rfl
 |_::_,[] => .inr (.inr rfl)
 |a::x,b::y=>by
  simp only[strLt,cU,bu,bh,dZ,List.cons.injEq,kS];rcases xB x y with h|h|h
  ·rcases iZ a.toNat b.toNat with h1|h1|h1
   ·exact .inl (.inl h1)
   ·exact .inl (.inr ⟨kI.1 h1,h⟩)
   ·exact .inr (.inr (.inl h1))
  ·rcases iZ a.toNat b.toNat with h1|h1|h1
   ·exact .inl (.inl h1)
   ·exact .inr (.inl ⟨kI.1 h1,h⟩)
   ·exact .inr (.inr (.inl h1))
  ·rcases iZ a.toNat b.toNat with h1|h1|h1
   ·exact .inl (.inl h1)
   ·exact .inr (.inr (.inr ⟨(kI.1 h1).symm,h⟩))
   ·exact .inr (.inr (.inl h1))
def O8{a b:Bytes}(h:strLt a b=true):gtB a b=false:=by simp[gtB,h]
def O7{a b:Bytes}(h:strLt b a=true):gtB a b=true:=by
 have h1:=Mc h;have h2:¬a=b:=by rintro rfl; rw[rJ] at h; cases h
 simp[gtB,h1,h2]
def I4(e:gM)(rest:List gM):∀(pre out:List gM),(∀m,m∈pre->strLt m.name e.name=true)->vy e (pre++rest) out false=vy e rest (out++pre) false
 | [],out,_=>dw
 |m::r,out,h=>by
  rw[aG,vy,O8 (h m (bD ..))];simp only[dM,fG,af,aD];rw[I4 e rest r _ fun x hx=>h x (bw _ hx)]
  simp
def FR(e:gM):∀(rest out:List gM),vy e rest out true=(out++rest,true)
 | [],out=>by simp[vy]
 |m::r,out=>by
  rw[vy];simp only[ct,cI,dI,af,aD];rw[FR e r];simp
def Bz{l:List gM}{s:Bytes}{b:Nat}(h:Oe l s b):∀m,m∈l.take b->strLt m.name s=true:=fun m hm=>by
 obtain⟨k,hk⟩:=bZ hm;rw[fz] at hk;split at hk
 ·rename_i cJ; exact(h.lt k m hk).2 cJ
 ·cases hk
def Dn{l:List gM}{s:Bytes}{b:Nat}(h:Oe l s b):∀m,m∈l.drop b->strLt m.name s=false:=fun m hm=>by
 obtain⟨k,hk⟩:=bZ hm;rw[cC] at hk;have:=h.lt _ m hk;have hn:¬b+k<b:=aH;cases hc:strLt m.name s with
 |false=>rfl
 |true=>exact absurd (this.1 hc) hn
def vx{l:List gM}(h:ra l){e:gM}(hf:gv l e.name=none):yW l e=l.take (mo l e.name)++e::l.drop (mo l e.name):=by
 have hl:=sj h e.name
 have hd:∀m,m∈l.drop (mo l e.name)->strLt e.name m.name=true:=fun m hm=>by
  have h1:=Dn hl m hm;have h2:=fy.1 hf m (dy hm);have h3:¬m.name=e.name:=by simpa using h2
  rcases xB m.name e.name with h4|h4|h4
  ·rw[h1] at h4; cases h4
  ·exact absurd h4 h3
  ·exact h4
 unfold yW;rw[show vy e l [] false=vy e (l.take (mo l e.name)++l.drop (mo l e.name)) [] false by rw[cF]]
 rw[I4 e _ _ _ (Bz hl)];generalize l.drop (mo l e.name)=rest at hd;cases rest with
 |nil=>simp[vy]
 |cons m r =>
  rw[vy,O7 (hd m (bD ..))];simp only[dC,gb,eu,aE];rw[FR];simp
def Fu{l:List gM}(h:ra l){s:Bytes}{o:gM}(ho:l[mo l s]?=some o)(he:o.name=s):jF l s=l.take (mo l s)++l.drop (mo l s+1):=by
 have hl:=sj h s;have cJ:=(aj.1 ho).1
 have hdr:l.drop (mo l s)=o::l.drop (mo l s+1):=by
  rw[cW cJ];rw[ai cJ] at ho; injection ho with ho; rw[ho]
 have hd:∀m,m∈l.drop (mo l s+1)->strLt s m.name=true:=fun m hm=>by
  obtain⟨k,hk⟩:=bZ hm;rw[cC] at hk;have hkl:=(aj.1 hk).1;have h3:=cm.1 h _ _ cJ hkl aH;have h4:l[mo l s+1+k]=m:=by rw[ai hkl] at hk; injection hk
  have h5:l[mo l s]=o:=by rw[ai cJ] at ho; injection ho
  rw[h4,h5,he] at h3;exact h3
 have ne:∀ {a b:Bytes},strLt a b=true->¬a=b:=fun {a b} h=>by rintro rfl; rw[rJ] at h; cases h
 unfold jF;rw[show l.filter (fun n=>n.name != s)=(l.take (mo l s)++l.drop (mo l s)).filter (fun n=>n.name != s) by rw[cF]]
 rw[jv,hdr,ft];simp only[he,aw,af,aD];rw[ji.2 fun m hm=>by simpa using ne (Bz hl m hm),ji.2 fun m hm=>by simpa using fun hc=>ne (hd m hm) hc.symm]
def K4{l:List gM}{s:Bytes}(hf:gv l s=none):jF l s=l :=
 ji.2 fun m hm=>by simpa using fy.1 hf m hm
def p58{l:List gM}(h0:l≠[])(hn:l.length<=100000)(M:aC):aq cd 205 [jb l] M=some (.cB M.length 0 3 0 l.length,M++[.arr 3 0 (l.map iH)]):=by
 refine fg (g:=mN 3 32) rfl ?_;obtain⟨a,r,rfl⟩:=fm h0;have hw:wid ((a::r).map iH) 3:=by have:=J7 (a::r); simpa using this
 have hr:cr ((a::r).map iH).length 32:=by have:=sn (a:=(a::r).length) (b:=32) aH aH; simpa using this
 unfold mN;simp only[aK] at hw hr ⊢;rw[fi ⟨hw,hr⟩];simp
def ang(M:aC):aq cd 205 [gA []] M=some (.slice .c0 [],M):=fg (g:=mN 3 32) rfl rfl
def p87{l:List gM}{b:Nat}(hb:b<=l.length)(hn:l.length<=100000)(e:gM)(c0 c1:cL) :
  aq cd 243 [.cB 2 0 3 0 l.length,aF b,gA [.agg (fU e)]] [c0,c1,.arr 3 0 (l.map iH)]=some (.cB 2 1 3 0 (l.length+1),[c0,c1,.arr 3 1 ((l.take b++e::l.drop b).map iH)]):=by
 refine fg (g:=kV 3 32) rfl ?_;have hr:cr ((l.map iH).length+1) 32:=by have:=sn (a:=l.length+1) (b:=32) aH aH; simpa using this
 unfold kV;simp only[nth];rw[fi ⟨trivial,trivial,trivial,dw,aH,by simpa using hb,rfl,hr⟩]
 simp[iT,iH]
def atJ(e:gM)(M:aC):aq cd 243 [.slice .c0 [],aF 0,gA [.agg (fU e)]] M=some (.cB M.length 0 3 0 1,M++[.arr 3 0 [.agg (fU e)]]):=by
 refine fg (g:=kV 3 32) rfl ?_
 show cp ((0:Int)=0/\(ag.agg (fU e)).cells.length=3) _=_
 exact fi ⟨rfl,rfl⟩
def p84{l:List gM}{b:Nat}(hb:b<l.length)(hn:l.length<=100000)(c0 c1:cL) :
  aq cd 248 [.cB 2 0 3 0 l.length,aF b,aF ((b+1:Nat):Int)] [c0,c1,.arr 3 0 (l.map iH)]=some (.cB 2 1 3 0 (l.length-1),[c0,c1,.arr 3 1 ((l.take b++l.drop (b+1)).map iH)]):=by
 refine fg (g:=lF 3) rfl ?_;unfold lF;simp only[nth];rw[fi ⟨trivial,trivial,trivial,dw,aH,by simpa using hb,aH,gh⟩]
 simp[iT]
def Mg{ae:List Node}(h:oS ae){n:Node}(hf:find ae n.ar=some n):eV ae n=ae:=by
 rcases th h n.ar with ⟨_,o,h2,h3,h4⟩|⟨_,h2⟩
 ·rw[hf] at h3; cases h3;rw[tK h h2 rfl];apply cE;intro i
  by_cases e:mg ae n.ar=i
  ·subst e; rw[fa (aj.1 h2).1,h2]
  ·rw[fc e]
 ·rw[hf] at h2; cases h2
def aqy(ae:List Node)(next ak dir:Int)(s:Bytes)(ar:Int)(h:oS ae)(hn:ae.length<=100000){n:Node}(hf:find ae dir=some n)(hE:ra n.bc)(hl:n.bc.length<=99999)(hs:gv n.bc s=none) :
  aq cd 183 [cv 0,aF dir,.str s,aF ar] [cA [ba ae,aF next,aF ak]]=some (.tuple [],[cA (aM (iq ⟨ae,next,ak⟩ dir s ar))]):=by
 refine aB ?_;have h0:ae≠[]:=by rintro rfl; simp[find] at hf
 have hnn:bl ae dir=n:=by simp[bl,hf]
 have hk:=fun M=>E3 ae next ak dir h hn 0 (cA [ba ae,aF next,aF ak]::M) rfl
 have hk2:=fun a b c d u M=>SJ a b c d n.bc u s _ (sj hE s) aH M
 have hle:=(sj hE s).le
 have hres:iq ⟨ae,next,ak⟩ dir s ar=⟨eV ae { n with bc:=n.bc.take (mo n.bc s)++⟨s,ar,ak⟩::n.bc.drop (mo n.bc s) },next,nq (ak+1)⟩:=by
  have:=vx hE (e:=⟨s,ar,ak⟩) hs;simp only[iq,hf,bj,this]
 rw[hres,aM];have hp:=fun a b c d e u M=>Lv ae next (nq (ak+1)) a b c d e u h h0 hn 0 (cA [ba ae,aF next,aF (nq (ak+1))]::M) rfl
 simp only[R3,QG,hk,hnn,bK,aL,hk2,EN,seval]
 by_cases hne:n.bc=[]
 ·have hlow:mo n.bc s=0:=by rw[hne]; rfl
  have hi:=fun M=>atJ ⟨s,ar,ak⟩ M
  simp only[fU] at hi;have hlow0:mo [] s=0:=rfl;have hc0:((0:Nat):Int)=0:=rfl;simp only[QG,hne,hlow0,hc0,jb,ang,hi,FZ,qG,EN,seval];rw[show gA [ag.agg [.str s,aF ar,aF ak]]=jb [⟨s,ar,ak⟩] from rfl]
  simp only[QG,hp,EN,seval]
 ·have hc:=fun M=>p58 hne (show n.bc.length<=100000 by omega) M
  have hi:=fun c0 c1=>p87 hle (show n.bc.length<=100000 by omega) ⟨s,ar,ak⟩ c0 c1
  simp only[fU] at hi;simp only[QG,hc,hi,FZ,qG,EN,seval];have ht:List.take (n.bc.length+1) (List.map iH (List.take (mo n.bc s) n.bc++⟨s,ar,ak⟩::List.drop (mo n.bc s) n.bc))=List.map iH (List.take (mo n.bc s) n.bc++⟨s,ar,ak⟩::List.drop (mo n.bc s) n.bc):=bB gh;rw[ht];simp only[QG,hp,EN,seval]
def YY(ae:List Node)(next ak dir:Int)(s:Bytes)(ar:Int)(h:oS ae)(hn:ae.length<=100000){n:Node}(hf:find ae dir=some n)(hE:ra n.bc)(hl:n.bc.length<=99999)(hs:gv n.bc s=none)(p:Nat)(M:aC)(hM:nth M p=some (cA [ba ae,aF next,aF ak])) :
  aR (aq cd) 183 [cv p,aF dir,.str s,aF ar] M=some (.tuple [],iT M p (cA (aM (iq ⟨ae,next,ak⟩ dir s ar)))) :=
 ti hM (aqy ae next ak dir s ar h hn hf hE hl hs) rfl rfl rfl rfl rfl rfl rfl rfl rfl rfl
def aqG(ae:List Node)(next ak dir:Int)(s:Bytes)(h:oS ae)(hn:ae.length<=100000){n:Node}(hf:find ae dir=some n)(hE:ra n.bc)(hl:n.bc.length<=99999) :
  aq cd 195 [cv 0,aF dir,.str s] [cA [ba ae,aF next,aF ak]]=some (.tuple [],[cA [ba (dv ae dir s),aF next,aF ak]]):=by
 refine aB ?_;have h0:ae≠[]:=by rintro rfl; simp[find] at hf
 have hnn:bl ae dir=n:=by simp[bl,hf]
 have hino:n.ar=dir:=(cG hf).2;have hk:=fun M=>E3 ae next ak dir h hn 0 (cA [ba ae,aF next,aF ak]::M) rfl
 have hk2:=fun a b c d u M=>SJ a b c d n.bc u s _ (sj hE s) aH M
 have hp:=fun a b c d e u M=>Lv ae next ak a b c d e u h h0 hn 0 (cA [ba ae,aF next,aF ak]::M) rfl
 have hres:dv ae dir s=eV ae { n with bc:=jF n.bc s }:=by simp only[dv,hf,bj]
 rw[hres];simp only[R7,XR,hk,hnn,bK,aL,hk2,EN,seval];rcases wV hE s with ⟨h1,o,h2,h3,h4⟩|⟨h1,h2⟩
 ·have cJ:=(aj.1 h2).1;have hne:n.bc≠[]:=by intro hc; rw[hc] at h2; simp at h2
  have hc:=fun M=>p58 hne (show n.bc.length<=100000 by omega) M
  have hd:=fun c0 c1=>p84 cJ (show n.bc.length<=100000 by omega) c0 c1
  have hw:IntKind.i64.wrap ((mo n.bc s:Int)+1)=((mo n.bc s+1:Nat):Int):=by rw[gW aH aH]; rfl
  simp only[XR,h1,hc,hd,hw,FZ,qG,EN,seval];have ht:List.take (n.bc.length-1) (List.map iH (List.take (mo n.bc s) n.bc++List.drop (mo n.bc s+1) n.bc))=List.map iH (List.take (mo n.bc s) n.bc++List.drop (mo n.bc s+1) n.bc):=bB gh;rw[ht];simp only[XR,hp,EN,seval];rw[Fu hE h2 h4]
 ·simp only[XR,h1,EN,seval];rw[K4 h2];have:eV ae n=ae:=Mg h (by rw[hino]; exact hf)
  rw[show({ n with bc:=n.bc }:Node)=n from rfl,this]
def afp(ae:List Node)(next ak dir:Int)(s:Bytes)(h:oS ae)(hn:ae.length<=100000){n:Node}(hf:find ae dir=some n)(hE:ra n.bc)(hl:n.bc.length<=99999)(p:Nat)(M:aC)(hM:nth M p=some (cA [ba ae,aF next,aF ak])) :
  aR (aq cd) 195 [cv p,aF dir,.str s] M=some (.tuple [],iT M p (cA [ba (dv ae dir s),aF next,aF ak])) :=
 ti hM (aqG ae next ak dir s h hn hf hE hl) rfl rfl rfl rfl rfl rfl rfl rfl rfl rfl
def kE(ae:List Node)(n:Node):List Node:=if n.kind==2 then fQ ae n.ar else eV ae { n with ep:=nq (n.ep-1) }
def c196(ae:List Node)(next ak:Int)(n:Node)(h:oS ae)(h0:ae≠[])(hn:ae.length<=100000) :
  aq cd 196 [cv 0,bK n] [cA [ba ae,aF next,aF ak]]=some (.tuple [],[cA [ba (kE ae n),aF next,aF ak]]):=by
 refine aB ?_;have hp:=fun a b c d e u M=>Lv ae next ak a b c d e u h h0 hn 0 (cA [ba ae,aF next,aF ak]::M) rfl
 have hd:=fun M=>amq ae next ak n.ar h hn 0 (cA [ba ae,aF next,aF ak]::M) rfl
 simp only[acC,ad2,bK,aL,EN,seval];unfold kE;refine bA (fun hb=>?_) (fun hb=>?_)
 ·simp only[ad2,hb,hd,EN,seval]
 ·simp only[ad2,hb,hp,af,EN,seval]
def amf(ae:List Node)(next ak a b c:Int)(d:Bytes)(e:List gM)(u:Int)(h:oS ae)(h0:ae≠[])(hn:ae.length<=100000)(p:Nat)(M:aC)(hM:nth M p=some (cA [ba ae,aF next,aF ak])) :
  aR (aq cd) 196 [cv p,.agg [aF a,aF b,aF c,c8 d,jb e,aF u]] M=some (.tuple [],iT M p (cA [ba (kE ae ⟨a,b,c,d,e,u⟩),aF next,aF ak])) :=
 ti hM (c196 ae next ak ⟨a,b,c,d,e,u⟩ h h0 hn) rfl rfl rfl rfl rfl rfl rfl rfl rfl rfl
def sq(ae:List Node)(ar:Int):Nat:=(uC ae ar).length-1
def pb(t:Tree)(dir:Int)(s:Bytes):Int :=
 if (gY t.ae dir).2 != 0 then (gY t.ae dir).2 else if !fY s then 60 else if (gv (gY t.ae dir).1.bc s).isSome=true then 71 else
 if decide ((64:Int)<=(gY t.ae dir).1.bc.length)||(decide ((12:Int)<=sq t.ae dir)||decide ((1099511627776:Int)<=t.ak)) then 76 else 0
def aqw(ae:List Node)(next ak dir:Int)(s:Bytes)(ht:Small ⟨ae,next,ak⟩)(hr:rP ⟨ae,next,ak⟩)(hs:s.length<=100000)(ha:pc s) :
  aq cd 181 [cv 0,aF dir,.str s] [cA [ba ae,aF next,aF ak]]=some (aF (pb ⟨ae,next,ak⟩ dir s),[cA [ba ae,aF next,aF ak]]):=by
 have hn:ae.length<=100000:=ht.ae;have hd:(gY ae dir).1.bc.length<=100000:=tC ht dir;have hE:ra (gY ae dir).1.bc:=hr.dir dir;have hk:=fun M=>YZ ae next ak dir hr.mj hn 0 (cA [ba ae,aF next,aF ak]::M) rfl
 have hk2:=fun a b c d u M=>SJ a b c d (gY ae dir).1.bc u s _ (sj hE s) hd M
 have hk3:∀M,aR (aq cd) 239 [cv 0,aF dir] (cA [ba ae,aF next,aF ak]::M)=some (aF (sq ae dir),cA [ba ae,aF next,aF ak]::M):=fun M=>amp ae next ak dir hr.mj hn 0 (cA [ba ae,aF next,aF ak]::M) rfl
 refine aB ?_;simp only[acu,HI,hk,bK,aL,EN,seval];refine bA (fun hb=>?_) (fun hb=>?_)
 ·simp only[HI,hb,EN,seval];clear hk hk2 hk3;simp_all only[pb,qx,↓reduceIte,reduceCtorEq,aw]
 simp only[HI,hb,afq,hs,ha,EN,seval];refine bA (fun hb1=>?_) (fun hb1=>?_)
 ·simp only[HI,hb1,EN,seval];clear hk hk2 hk3;simp_all only[pb,qx,↓reduceIte,reduceCtorEq,aw]
 simp only[HI,hb1,hk2,EN,seval];rcases wV hE s with ⟨h1,o,h2,h3,h4⟩|⟨h1,h2⟩
 ·simp only[HI,h1,EN,seval];clear hk hk2 hk3;simp_all only[pb,bX,qx,↓reduceIte,reduceCtorEq,aw]
 ·simp only[HI,h1,EN,seval]
  repeat' ((first|apply bA|apply bW|apply dK)<;>intro hb<;>simp only[hb,EN,HI,hk3,seval])
  all_goals (clear hk hk2 hk3; simp_all only[pb,dr,qx,↓reduceIte,reduceCtorEq,aw]; done)
def amc ae next ak dir s ht hr hs ha p M hM:=cM (p:=p) (M:=M) hM (aqw ae next ak dir s ht hr hs ha)
def zX(x y:Node):Int:=if x.kind==2&&y.kind != 2 then 73 else if x.kind != 2&&y.kind==2 then 72 else if decide ((0:Int)<y.bc.length) then 74 else 0
def aqL(x y:Node):aq cd 202 [bK x,bK y] []=some (aF (zX x y),[]):=by
 refine aB ?_;simp only[acG,aie,bK,aL,EN,seval]
 repeat' ((first|apply bA|apply bW|apply dK)<;>intro hb<;>simp only[hb,EN,aie,seval])
 all_goals (simp_all only[zX,qx,↓reduceIte,reduceCtorEq,aw]; done)
def aqB(t:Tree)(ar:Int)(ht:Small t)(hr:rP t):aq cd 187 [br t,aF ar] []=some (.tuple [br (kC t ar).1,aF (kC t ar).2],[]):=by
 obtain⟨ae,next,ak⟩:=t
 have hn:ae.length<=100000:=ht.ae;refine aB ?_;have hk:=fun b c M=>E3 ae next ak ar hr.mj hn 2 (b::c :: cA [ba ae,aF next,aF ak]::M) rfl
 have hd:=fun b c M=>amq ae next ak ar hr.mj hn 2 (b::c :: cA [ba ae,aF next,aF ak]::M) rfl
 simp only[acw,aid,br,aM,hk,bK,aL,EN,seval]
 repeat' ((first|apply bA|apply bW|apply dK)<;>intro hb<;>simp only[hb,EN,aid,hd,seval])
 all_goals (clear hk hd; simp_all only[kC,br,aM,qx,↓reduceIte,reduceCtorEq,aw]; done)
def asf(data:Bytes)(hd:data.length<=100000)(M:aC):aR (aq cd) 160 [c8 data] M=some (c8 data,M):=by
 refine cO (fg (g:=pCC 1 1) rfl ?_) M;have hw:wid (data.map qW) 1:=by have:=sf data; simpa using this
 have hr:cr (data.map qW).length 1:=by have:=sn (a:=data.length) (b:=1) aH aH; simpa using this
 exact fi ⟨hw,hr⟩
def aqZ(t:Tree)(ar:Int)(data:Bytes)(ht:Small t)(hr:rP t)(hd:data.length<=100000):aq cd 225 [br t,aF ar,c8 data] []=some (.tuple [br (rO t ar data).1,aF (rO t ar data).2],[]):=by
 obtain⟨ae,next,ak⟩:=t
 have hn:ae.length<=100000:=ht.ae;refine aB ?_;have hk:=fun b c M=>E3 ae next ak ar hr.mj hn 2 (b::c :: cA [ba ae,aF next,aF ak]::M) rfl
 simp only[acV,XU,br,aM,hk,bK,aL,EN,seval];cases hf:find ae ar with
 |none =>
  simp only[XU,dr,EN,seval];clear hk;simp_all only[rO,br,aM,dr,qx,↓reduceIte,reduceCtorEq,aw]
 |some n =>
  have h0:ae≠[]:=by rintro rfl; simp[find] at hf
  have hp:=fun x y a b c d e u M=>Lv ae next ak a b c d e u hr.mj h0 hn 2 (x::y :: cA [ba ae,aF next,aF ak]::M) rfl
  have hc:=fun M=>asf data hd M
  simp only[XU,bX,EN,seval]
  repeat' ((first|apply bA|apply bW|apply dK)<;>intro hb<;>simp only[hb,EN,XU,hp,hc,seval])
  all_goals (clear hk hp hc; simp_all only[rO,br,aM,bX,qx,↓reduceIte,reduceCtorEq,aw]; done)
end
def Kv{ae:List Node}(h:oS ae){a b:Node}(ha:a∈ae)(hb:b∈ae)(he:a.ar=b.ar):a=b:=by
 obtain⟨i,hi⟩:=bZ ha;obtain⟨k,hk⟩:=bZ hb;have hil:=(aj.1 hi).1;have hkl:=(aj.1 hk).1;have e1:ae[i]=a:=by rw[ai hil] at hi; injection hi
 have e2:ae[k]=b:=by rw[ai hkl] at hk; injection hk
 rcases iZ i k with cJ|heq|hgt
 ·have:=cm.1 h _ _ hil hkl cJ;rw[e1,e2] at this; omega
 ·subst heq; rw[<-e1,<-e2]
 ·have:=cm.1 h _ _ hkl hil hgt;rw[e1,e2] at this; omega
def ij{ae:List Node}(h:oS ae){i:Int}{m:Node}:find ae i=some m↔m∈ae/\m.ar=i:=by
 refine⟨cG,fun⟨h1,h2⟩=>?_⟩
 cases hf:find ae i with
 |none =>
  have:=fy.1 hf m h1;simp[h2] at this
 |some k =>
  obtain⟨k1,k2⟩:=cG hf;rw[Kv h h1 k1 aH]
def qF{ae:List Node}{i:Int}:find ae i=none↔∀m,m∈ae->m.ar≠i:=by
 unfold find;rw[fy];simp
def x9{ae:List Node}{b:Nat}{o n:Node}(ho:ae[b]?=some o):ae=ae.take b++o::ae.drop (b+1)/\ae.set b n=ae.take b++n::ae.drop (b+1):=by
 have cJ:=(aj.1 ho).1;constructor
 ·rw[ai cJ] at ho; injection ho with ho
  conv=>lhs; rw[<-cF b ae]
  rw[cW cJ,ho]
 ·rw[js,aW cJ]
def vz{ae:List Node}(h:oS ae){n m:Node}:m∈eV ae n↔m=n\/(m∈ae/\m.ar≠n.ar):=by
 rcases th h n.ar with ⟨_,o,h2,h3,h4⟩|⟨_,h2⟩
 ·rw[tK h h2 h4];obtain⟨s1,s2⟩:=x9 (n:=n) h2;have hon:o∈ae:=(cG h3).1;constructor
  ·intro hm;rw[s2] at hm;rcases bo.1 hm with hm|hm
   ·have hmn:=dN hm;have:=vJ (uN h n.ar) m hm;exact .inr ⟨hmn,aH⟩
   ·rcases bJ.1 hm with rfl|hm
    ·exact .inl rfl
    ·refine .inr ⟨dy hm,fun he=>?_⟩
     have hp:=h;unfold oS at hp;rw[s1,fu] at hp;have:=(dq.1 hp.2.1).1 m hm;omega
  ·rintro(rfl|⟨hm,hne⟩)
   ·rw[s2]; simp
   ·rw[s1] at hm;rw[s2];rcases bo.1 hm with hm|hm
    ·exact eH _ hm
    ·rcases bJ.1 hm with rfl|hm
     ·exact absurd h4 hne
     ·exact iG _ (bw _ hm)
 ·rw[ye h h2];rw[qF] at h2;constructor
  ·intro hm;rcases bo.1 hm with hm|hm
   ·have:=dN hm;exact .inr ⟨this,h2 m this⟩
   ·rcases bJ.1 hm with rfl|hm
    ·exact .inl rfl
    ·have:=dy hm;exact .inr ⟨this,h2 m this⟩
  ·rintro(rfl|⟨hm,_⟩)
   ·simp
   ·rw[<-cF (mg ae n.ar) ae] at hm;rcases bo.1 hm with hm|hm
    ·exact eH _ hm
    ·exact iG _ (bw _ hm)
def lJ{ae:List Node}(h:oS ae)(n:Node):oS (eV ae n):=by
 have hl:=uN h n.ar;rcases th h n.ar with ⟨_,o,h2,h3,h4⟩|⟨_,h2⟩
 ·rw[tK h h2 h4];obtain⟨s1,s2⟩:=x9 (n:=n) h2;have hp:=h;unfold oS at hp ⊢;rw[s1,fu] at hp;obtain⟨p1,p2,p3⟩:=hp;obtain⟨p4,p5⟩:=dq.1 p2;rw[s2,fu];refine⟨p1,dq.2 ⟨fun m hm=>by have:=p4 m hm; omega,p5⟩,fun a ha c hc=>?_⟩
  rcases bJ.1 hc with rfl|hc
  ·exact vJ hl a ha
  ·exact p3 a ha c (bw _ hc)
 ·rw[ye h h2];have hp:=h;unfold oS at hp ⊢;rw[<-cF (mg ae n.ar) ae,fu] at hp;obtain⟨p1,p2,p3⟩:=hp;rw[qF] at h2;rw[fu];refine⟨p1,dq.2 ⟨fun m hm=>?_,p2⟩,fun a ha c hc=>?_⟩
  ·have k1:=Fv hl m hm;have k2:=h2 m (dy hm);omega
  ·rcases bJ.1 hc with rfl|hc
   ·exact vJ hl a ha
   ·exact p3 a ha c hc
def gq{ae:List Node}(h:oS ae)(n:Node)(i:Int):find (eV ae n) i=if i=n.ar then some n else find ae i:=by
 split
 ·rename_i he;exact(ij (lJ h n)).2 ⟨(vz h).2 (.inl rfl),he.symm⟩
 ·rename_i hne;cases hf:find ae i with
  |none =>
   rw[qF] at hf ⊢;intro m hm;rcases(vz h).1 hm with rfl|⟨hm,_⟩
   ·exact fun he=>hne he.symm
   ·exact hf m hm
  |some m =>
   obtain⟨h1,h2⟩:=cG hf;exact(ij (lJ h n)).2 ⟨(vz h).2 (.inr ⟨h1,aH⟩),h2⟩
def rK{ae:List Node}(h:oS ae)(i:Int):oS (fQ ae i):=jO _ h
def mh{ae:List Node}(h:oS ae)(k i:Int):find (fQ ae k) i=if i=k then none else find ae i:=by
 split
 ·rename_i he;rw[qF];intro m hm;have:=(eo.1 hm).2;simp at this;omega
 ·rename_i hne;cases hf:find ae i with
  |none =>
   rw[qF] at hf ⊢;exact fun m hm=>hf m (eo.1 hm).1
  |some m =>
   obtain⟨h1,h2⟩:=cG hf;exact(ij (rK h k)).2 ⟨eo.2 ⟨h1,gh⟩,h2⟩
def Sy{l:List gM}(h:ra l){e:gM}(hf:gv l e.name=none):ra (yW l e):=by
 rw[vx h hf];have hl:=sj h e.name;have hp:=h;unfold ra at hp ⊢;rw[<-cF (mo l e.name) l,fu] at hp;obtain⟨p1,p2,p3⟩:=hp;rw[fu];refine⟨p1,dq.2 ⟨fun m hm=>?_,p2⟩,fun a ha c hc=>?_⟩
 ·have k1:=Dn hl m hm;have k2:¬m.name=e.name:=by simpa using fy.1 hf m (dy hm)
  rcases xB m.name e.name with h4|h4|h4
  ·rw[k1] at h4; cases h4
  ·exact absurd h4 k2
  ·exact h4
 ·rcases bJ.1 hc with rfl|hc
  ·exact Bz hl a ha
  ·exact p3 a ha c hc
def AF{l:List gM}(h:ra l)(s:Bytes):ra (jF l s):=jO _ h
def rP.with{t:Tree}(h:rP t){n:Node}(hn:ra n.bc)(next ak:Int):rP ⟨eV t.ae n,next,ak⟩ :=
 ⟨lJ h.mj n,fun m hm=>by
  rcases(vz h.mj).1 hm with rfl|⟨hm,_⟩
  ·exact hn
  ·exact h.bc m hm⟩
def rP.uT{t:Tree}(h:rP t)(i next ak:Int):rP ⟨fQ t.ae i,next,ak⟩ :=
 ⟨rK h.mj i,fun m hm=>h.bc m (eo.1 hm).1⟩
def rP.node{t:Tree}(h:rP t)(i:Int):ra (bl t.ae i).bc:=by
 cases hf:find t.ae i with
 |none=>simp[bl,hf,Node.zero]; exact List.Pairwise.nil
 |some n=>simp[bl,hf]; exact h.bc n (cG hf).1
def rP.left{t:Tree}(h:rP t)(i:Int)(s:Bytes)(next ak:Int):rP ⟨dv t.ae i s,next,ak⟩ :=
 h.with (n:={ bl t.ae i with bc:=jF (bl t.ae i).bc s }) (AF (h.node i) s) next ak
def rP.nH{t:Tree}(h:rP t)(i:Int)(s:Bytes)(of:Int)(hf:gv (bl t.ae i).bc s=none):rP (iq t i s of) :=
 h.with (n:={ bl t.ae i with bc:=yW (bl t.ae i).bc ⟨s,of,t.ak⟩ }) (Sy (h.node i) hf) t.next (nq (t.ak+1))
section
attribute [local irreducible] eX fJ lj gK dY kr aq aR cp bI
def yR{ae:List Node}{dir:Int}(h:(gY ae dir).2=0):∃d,find ae dir=some d/\d.kind=2/\gY ae dir=(d,0):=by
 unfold gY at h ⊢;split at h
 ·cases h
 ·rename_i d hd;split at h
  ·rename_i hk; exact⟨d,hd,hk,by simp[hd,hk]⟩
  ·cases h
def VQ{t:Tree}{dir:Int}{s:Bytes}(h:(pb t dir s != 0)=false):∃d,find t.ae dir=some d/\d.kind=2/\fY s=true/\gv d.bc s=none/\d.bc.length<64/\sq t.ae dir<12/\t.ak<1099511627776:=by
 have h:pb t dir s=0:=by simpa using h
 unfold pb at h;split at h
 ·rename_i hc;rw[h] at hc; cases hc
 ·rename_i hc;obtain⟨d,h1,h2,h3⟩:=yR (by simpa using hc)
  rw[h3] at h;split at h
  ·cases h
  ·rename_i hk;split at h
   ·cases h
   ·rename_i hf;split at h
    ·cases h
    ·rename_i hm;simp at hk hf hm;exact⟨d,h1,h2,hk,hf,aH,aH,aH⟩
def Ks(t:Tree)(ar:Int)(s:Bytes)(kind:Int):Tree×Int×Int :=
 if kind != 1&&kind != 2 then (t,0,1) else if pb t ar s != 0 then (t,0,pb t ar s) else
 if decide ((200:Int)<=t.ae.length)||decide ((1099511627776:Int)<=t.next) then (t,0,76) else
 (iq ⟨eV t.ae ⟨t.next,kind,1,[],[],if kind==2 then ar else 0⟩,nq (t.next+1),t.ak⟩ ar s t.next,t.next,0)
def ap1(t:Tree)(dir:Int)(s:Bytes)(kind:Int)(hz:Sz 1000 t)(hr:rP t)(hs:s.length<=100000)(ha:pc s)(ju:∀m,m∈t.ae->m.ar<t.next) :
  aq cd 147 [br t,aF dir,.str s,aF kind] []=some (.tuple [br (Ks t dir s kind).1,aF (Ks t dir s kind).2.1,aF (Ks t dir s kind).2.2],[]):=by
 obtain⟨ae,next,ak⟩:=t
 have ht:Small ⟨ae,next,ak⟩:=hz.small aH
 have hn:ae.length<=100000:=ht.ae;have hk:=fun b c M=>amc ae next ak dir s ht hr hs ha 2 (b::c :: cA [ba ae,aF next,aF ak]::M) rfl
 have last:(pb ⟨ae,next,ak⟩ dir s != 0)=false->∀u,ae≠[]/\∀b c M,aR (aq cd) 183 [cv 2,aF dir,.str s,aF next] (b::c :: cA [ba (eV ae ⟨next,kind,1,[],[],u⟩),aF (nq (next+1)),aF ak]::M) =
   some (.tuple [],b::c :: cA (aM (iq ⟨eV ae ⟨next,kind,1,[],[],u⟩,nq (next+1),ak⟩ dir s next))::M):=fun hm u=>by
  obtain⟨d,d1,d2,d3,d4,d5,d6,d7⟩:=VQ hm;have dm:=cG d1;have cJ:=ju d dm.1;simp only at cJ;refine⟨by rintro rfl; simp[find] at d1,fun b c M=>?_⟩
  have hz1:Sz 1001 ⟨eV ae ⟨next,kind,1,[],[],u⟩,nq (next+1),ak⟩:=hz.with (n:=⟨next,kind,1,[],[],u⟩) dw dw (nq (next+1)) ak
  have hf:find (eV ae ⟨next,kind,1,[],[],u⟩) dir=some d:=by rw[gq hr.mj,aP gh]; exact d1
  exact YY (eV ae ⟨next,kind,1,[],[],u⟩) (nq (next+1)) ak dir s next (lJ hr.mj _) (hz1.small aH).ae hf (hr.bc d dm.1) aH d4 2 (b::c :: cA [ba (eV ae ⟨next,kind,1,[],[],u⟩),aF (nq (next+1)),aF ak]::M) rfl
 refine aB ?_;simp only[aca,adT,br,aM,hk,EN,seval]
 repeat' ((first|apply bA|apply bW|apply dK)<;>intro hb<;>simp only[hb,EN,adT,hk,seval])
 all_goals try (clear hk last; simp_all only[Ks,br,aM,qx,↓reduceIte,reduceCtorEq,aw]; done)
 all_goals
  have hm:(pb ⟨ae,next,ak⟩ dir s != 0)=false:=by assumption
  have h0:=(last hm 0).1
  have hp:∀u b c M,aR (aq cd) 182 [cv 2,.agg [aF next,aF kind,aF 1,gA [],gA [],aF u]] (b::c :: cA [ba ae,aF (nq (next+1)),aF ak]::M) =
    some (.tuple [],b::c :: cA [ba (eV ae ⟨next,kind,1,[],[],u⟩),aF (nq (next+1)),aF ak]::M):=fun u b c M=>Lv ae (nq (next+1)) ak next kind 1 [] [] u hr.mj h0 hn 2 (b::c :: cA [ba ae,aF (nq (next+1)),aF ak]::M) rfl
  have hl:=fun u=>(last hm u).2
  simp only[adT,hp,hl,aM,EN,seval];clear hk last hp hl;simp_all only[Ks,br,aM,qx,↓reduceIte,reduceCtorEq,aw]
def lnW(t:Tree)(ar to:Int)(s:Bytes):Tree×Int :=
 if !(find t.ae ar).isSome||((bl t.ae ar).kind==1&&(bl t.ae ar).ep==0) then (t,70) else if (bl t.ae ar).kind==2 then (t,72) else
 if pb t to s != 0 then (t,pb t to s) else
 (iq ⟨eV t.ae { bl t.ae ar with ep:=nq ((bl t.ae ar).ep+1) },t.next,t.ak⟩ to s ar,0)
def ap3(t:Tree)(ar dir:Int)(s:Bytes)(hz:Sz 1000 t)(hr:rP t)(hs:s.length<=100000)(ha:pc s) :
  aq cd 149 [br t,aF ar,aF dir,.str s] []=some (.tuple [br (lnW t ar dir s).1,aF (lnW t ar dir s).2],[]):=by
 obtain⟨ae,next,ak⟩:=t
 have ht:Small ⟨ae,next,ak⟩:=hz.small aH
 have hn:ae.length<=100000:=ht.ae;have hg:=fun b c M=>E3 ae next ak ar hr.mj hn 2 (b::c :: cA [ba ae,aF next,aF ak]::M) rfl
 have hk:=fun b c M=>amc ae next ak dir s ht hr hs ha 2 (b::c :: cA [ba ae,aF next,aF ak]::M) rfl
 have last:(pb ⟨ae,next,ak⟩ dir s != 0)=false->(find ae ar).isSome=true->((bl ae ar).kind==2)=false->∀l,ae≠[]/\∀b c M,aR (aq cd) 183 [cv 2,aF dir,.str s,aF ar] (b::c :: cA [ba (eV ae { bl ae ar with ep:=l }),aF next,aF ak]::M) =
   some (.tuple [],b::c :: cA (aM (iq ⟨eV ae { bl ae ar with ep:=l },next,ak⟩ dir s ar))::M):=fun hm hi hkd l=>by
  obtain⟨d,d1,d2,d3,d4,d5,d6,d7⟩:=VQ hm;have dm:=cG d1;refine⟨by rintro rfl; simp[find] at d1,fun b c M=>?_⟩
  have hfd:=hz.find ar;have hz1:Sz 1001 ⟨eV ae { bl ae ar with ep:=l },next,ak⟩:=hz.with (n:={ bl ae ar with ep:=l }) (iY hfd.1) hfd.2 next ak
  obtain⟨n,hfn⟩:=fD.1 hi;have hnn:bl ae ar=n:=by simp[bl,hfn]
  have hne:¬dir=(bl ae ar).ar:=fun he=>by
   rw[hnn] at he hkd;have h1:=(cG hfn).2;rw[he,h1,hfn] at d1;injection d1 with d1
   subst d1;simp[d2] at hkd
  have hf:find (eV ae { bl ae ar with ep:=l }) dir=some d:=by rw[gq hr.mj,aP hne]; exact d1
  exact YY (eV ae { bl ae ar with ep:=l }) next ak dir s ar (lJ hr.mj _) (hz1.small aH).ae hf (hr.bc d dm.1) aH d4 2 (b::c :: cA [ba (eV ae { bl ae ar with ep:=l }),aF next,aF ak]::M) rfl
 refine aB ?_;simp only[acb,adU,br,aM,hg,bK,aL,EN,seval]
 repeat' ((first|apply bA|apply bW|apply dK)<;>intro hb<;>simp only[hb,EN,adU,hk,seval])
 all_goals try (clear hk hg last; simp_all only[lnW,br,aM,qx,↓reduceIte,reduceCtorEq,aw]; done)
 all_goals
  have hm:(pb ⟨ae,next,ak⟩ dir s != 0)=false:=by assumption
  have h2:((bl ae ar).kind==2)=false:=by assumption
  have h3:(!(find ae ar).isSome)=false:=by assumption
  have h3:(find ae ar).isSome=true:=by simpa using h3
  have h0:=(last hm h3 h2 0).1;have hp:=fun a b c d e u x y M=>Lv ae next ak a b c d e u hr.mj h0 hn 2 (x::y :: cA [ba ae,aF next,aF ak]::M) rfl
  have hl:=fun l=>(last hm h3 h2 l).2
  simp only[adU,hp,hl,aM,EN,seval];clear hk hg last hp hl;simp_all only[lnW,br,aM,qx,↓reduceIte,reduceCtorEq,aw]
def look_ok{ae:List Node}{dir:Int}{s:Bytes}(h:((fh ae dir s).2 != 0)=false):∃d e,find ae dir=some d/\d.kind=2/\fY s=true/\gv d.bc s=some e/\fh ae dir s=(e.ar,0):=by
 have h:(fh ae dir s).2=0:=by simpa using h
 have h':=h;unfold fh at h;split at h
 ·rename_i hc; exact absurd h hc
 ·rename_i hc;obtain⟨d,h1,h2,h3⟩:=yR (by simpa using hc)
  rw[h3] at h;split at h
  ·cases h
  ·rename_i hk;split at h
   ·cases h
   ·rename_i e he;have hk:fY s=true:=by simpa using hk
    refine⟨d,e,h1,h2,hk,he,?_⟩;unfold fh;rw[h3];simp[hk,he]
def unW(t:Tree)(dir:Int)(s:Bytes):Tree×Int×Int :=
 if (fh t.ae dir s).2 != 0 then (t,0,(fh t.ae dir s).2) else if decide ((0:Int)<(bl t.ae (fh t.ae dir s).1).bc.length) then (t,0,74) else
 (⟨kE (dv t.ae dir s) (bl t.ae (fh t.ae dir s).1),t.next,t.ak⟩,(fh t.ae dir s).1,0)
def Jg{ae:List Node}(h:oS ae){dir:Int}{s:Bytes}{d:Node}(hf:find ae dir=some d):dv ae dir s≠[]:=by
 intro hc
 have:({ d with bc:=jF d.bc s }:Node)∈dv ae dir s:=by
  unfold dv;rw[hf];exact(vz h).2 (.inl rfl)
 rw[hc] at this;cases this
def ap4(t:Tree)(dir:Int)(s:Bytes)(hz:Sz 1000 t)(hr:rP t)(hs:s.length<=100000)(ha:pc s) :
  aq cd 150 [br t,aF dir,.str s] []=some (.tuple [br (unW t dir s).1,aF (unW t dir s).2.1,aF (unW t dir s).2.2],[]):=by
 obtain⟨ae,next,ak⟩:=t
 have ht:Small ⟨ae,next,ak⟩:=hz.small aH
 have hn:ae.length<=100000:=ht.ae;have hg:=fun b c M=>E3 ae next ak (fh ae dir s).1 hr.mj hn 2 (b::c :: cA [ba ae,aF next,aF ak]::M) rfl
 have hl:=fun M=>YX ae next ak dir s ht hr hs ha M
 refine aB ?_;simp only[acd,QE,br,aM,hl,EN,seval];refine bA (fun hb=>?_) (fun hb=>?_)
 ·simp only[QE,hb,EN,seval];clear hg hl;simp_all only[unW,br,aM,qx,↓reduceIte,reduceCtorEq,aw]
 obtain⟨d,e,d1,d2,d3,d4,d5⟩:=look_ok hb;have dm:=cG d1;have hde:d.bc.length<=1000:=hz.bc d dm.1;have hsz:Sz 1001 ⟨dv ae dir s,next,ak⟩:=hz.left dir s next ak
 have hv:=fun x y M=>afp ae next ak dir s hr.mj hn d1 (hr.bc d dm.1) aH 2 (x::y :: cA [ba ae,aF next,aF ak]::M) rfl
 have hu:=fun a b c d' e' u x y M=>amf (dv ae dir s) next ak a b c d' e' u (hr.left dir s next ak).mj (Jg hr.mj d1) (hsz.small aH).ae 2 (x::y :: cA [ba (dv ae dir s),aF next,aF ak]::M) rfl
 simp only[QE,hb,hg,bK,aL,EN,seval];refine bA (fun hb1=>?_) (fun hb1=>?_)
 ·simp only[QE,hb1,EN,seval];clear hg hl hv hu;simp_all only[unW,br,aM,qx,↓reduceIte,reduceCtorEq,aw]
 ·simp only[QE,hb1,hv,hu,EN,seval];clear hg hl hv hu d5;simp_all only[unW,br,aM,qx,↓reduceIte,reduceCtorEq,aw]
def Lp(x:Int):List Int->Nat->Int
 | [],_ => -1
 |n::r,i=>if x==n then i else Lp x r (i+1)
def M5(x:Int):∀(l:List Int)(i:Nat),decide ((0:Int)<=Lp x l i)=l.contains x
 | [],i=>by simp[Lp]
 |n::r,i=>by
  unfold Lp
  by_cases h:x=n
  ·simp[h]
  ·simp only[dZ,h,aD,M5 x r (i+1),List.contains_cons];simp[h]
def aag{l0:List Int}{x:Int}(hl:l0.length<=100000){k:List K}{R:Int->Option (ag×aC)}
  (hx:∀e,kr (aq cd) [.tmp 4] 0 k ⟨.exit 0,e,[]⟩=R (-1)) (hr:∀(i:Nat),kr (aq cd) [.tmp 4] 0 k ⟨.ret,[(4,aF i)],[]⟩=R i) :
  ∀(l pre:List Int),l0=pre++l->eX (aq cd) [.tmp 4] 0 k (.loop [0,1,7,8] ZQ) [(0,gA (l0.map mS)),(1,aF x),(7,aF l0.length),(8,aF pre.length)] []=R (Lp x l pre.length):=by
 intro l;induction l with
 |nil =>
  intro pre h;rw[bF];simp only[Kj,jJ h,EN,seval];exact hx _
 |cons n r ih =>
  intro pre h;rw[bF];have dR:pre.length+1<=100000:=by rw[h] at hl; simp at hl; omega
  have hw:=zl pre n;have hi:=ih (pre++[n]) (by rw[h]; simp)
  simp only[aA,av,az,aJ] at hi;rw[Lp];simp only[Kj,iP h,gU h,EN,seval];refine bA (fun hb=>?_) (fun hb=>?_)
  ·simp only[Kj,hb,EN,seval];exact hr _
  ·simp only[Kj,hb,hw,af,EN,seval];exact hi
def arj(l:List Int)(x:Int)(hl:l.length<=100000):aq cd 252 [gA (l.map mS),aF x] []=some (aF (Lp x l 0),[]):=by
 refine aB ?_;simp only[ac7,Kj,EN,seval];exact aag (R:=fun z=>some (aF z,[])) hl (fun e=>by simp only[Kj,EN,seval]) (fun i=>by simp only[Kj,EN,seval]) l [] rfl
def asK l x hl:=cP (arj l x hl)
def aqK(l:List Int)(x:Int)(hl:l.length<=100000):aq cd 201 [gA (l.map mS),aF x] []=some (.bool (l.contains x),[]):=by
 refine aB ?_;simp only[acF,aow,asK,hl,M5,EN,seval]
def amg l x hl:=cP (aqK l x hl)
def uX(ae:List Node)(at' own ar:Int)(n:Node):Bool :=
 n.kind==2&&((uC ae n.ar).contains ar&&(decide ((12:Int)<nq (nq (nq (at'+(uC ae n.ar).length)-1)-own))||(nq (nq (nq (at'+(uC ae n.ar).length)-1)-own)==12&&decide ((0:Int)<n.bc.length))))
abbrev sZ(ae:List Node)(next ak at' own ar:Int):aC:=[.cells [.ptr 4 0],.cells [.int .i64 at'],.cells [.int .i64 own],.cells [.int .i64 ar],.cells [ba ae,.int .i64 next,.int .i64 ak]]
def arl(ae:List Node)(next ak at' own ar:Int)(n:Node)(h:oS ae)(hn:ae.length<=99999) :
  aq cd 254 [bK n,cv 0,cv 1,cv 2,cv 3] (sZ ae next ak at' own ar)=some (.bool (uX ae at' own ar n),sZ ae next ak at' own ar):=by
 refine aB ?_;have hk:=fun a b c d M=>afr ae next ak n.ar h aH 4 (a::b::c::d :: cA [ba ae,aF next,aF ak]::M) rfl
 have hl:=uv ae n.ar;have hc:=fun M=>amg (uC ae n.ar) ar aH M
 simp only[ac9,ail,sZ,bK,aL,EN,seval]
 repeat' ((first|apply bA|apply bW|apply dK)<;>intro hb<;>simp only[hb,EN,ail,hk,hc,seval])
 all_goals (clear hk hc; simp_all only[uX,nq,bne,gN,Bool.not_eq_false',qx,↓reduceIte,reduceCtorEq,aw]; done)
end
def adB(ae:List Node)(next ak at' own ar:Int):jX (sZ ae next ak at' own ar) (iy [0,1,2,3,4]) [0,1,2,3,4]=some (sZ ae next ak at' own ar):=rfl
def ank(ae:List Node)(next ak at' own ar:Int):jX [cA [ba ae,aF next,aF ak],cA [cv 0],cA [aF ar],cA [aF at'],cA [aF own]] (iy [1,3,4,2,0]) [1,3,4,2,0]=some (sZ ae next ak at' own ar):=rfl
section
attribute [local irreducible] eX fJ lj gK dY kr aq aR cp bI
def asM(ae:List Node)(next ak at' own ar:Int)(n:Node)(h:oS ae)(hn:ae.length<=99999) :
  aR (aq cd) 254 [.agg (aL n),cv 0,cv 1,cv 2,cv 3] (sZ ae next ak at' own ar)=some (.bool (uX ae at' own ar n),sZ ae next ak at' own ar) :=
 kZ (ids:=[0,1,2,3,4]) rfl rfl (adB ..) rfl rfl (arl ae next ak at' own ar n h hn) rfl rfl rfl rfl rfl
def arD(ae:List Node)(next ak at' own ar:Int)(h:oS ae)(hn:ae.length<=99999):aq cd 287 [ba ae,.func 254 [cv 0,cv 1,cv 2,cv 3]] (sZ ae next ak at' own ar) =
  some (aF (qz (uX ae at' own ar) ae 0),sZ ae next ak at' own ar) :=
 DB (N:=100000) (sz:=6) (e:=aL) fA rfl aH (fun _=>rfl) (fun _=>rfl) rfl rfl fun x _ => .inl ⟨_,_,rfl,asM ae next ak at' own ar x h hn⟩
def asV(ae:List Node)(next ak at' own ar:Int)(h:oS ae)(hn:ae.length<=99999):aR (aq cd) 287 [ba ae,.func 254 [cv 0,cv 1,cv 2,cv 3]] (sZ ae next ak at' own ar) =
  some (aF (qz (uX ae at' own ar) ae 0),sZ ae next ak at' own ar) :=
 kZ (ids:=[0,1,2,3,4]) rfl rfl (adB ..) rfl rfl (arD ae next ak at' own ar h hn) rfl rfl rfl rfl rfl
def ark(ae:List Node)(next ak at' own ar:Int)(h:oS ae)(hn:ae.length<=99999):aq cd 253 [ba ae,.func 254 [cv 0,cv 1,cv 2,cv 3]] (sZ ae next ak at' own ar) =
  some (.bool (ae.any (uX ae at' own ar)),sZ ae next ak at' own ar):=by
 refine aB ?_;have hk:=asV ae next ak at' own ar h hn
 simp only[sZ] at hk;simp only[ac8,aoO,sZ,hk,xb,EN,seval]
def asL(ae:List Node)(next ak at' own ar:Int)(h:oS ae)(hn:ae.length<=99999) :
  aR (aq cd) 253 [ba ae,.func 254 [cv 1,cv 3,cv 4,cv 2]] [cA [ba ae,aF next,aF ak],cA [cv 0],cA [aF ar],cA [aF at'],cA [aF own]] =
  some (.bool (ae.any (uX ae at' own ar)),[cA [ba ae,aF next,aF ak],cA [cv 0],cA [aF ar],cA [aF at'],cA [aF own]]) :=
 kZ (ids:=[1,3,4,2,0]) rfl rfl (ank ..) rfl rfl (ark ae next ak at' own ar h hn) rfl rfl rfl rfl rfl
def Ik(ae:List Node)(ar at':Int):Bool:=ae.any (uX ae at' (sq ae ar) ar)
def aqM(ae:List Node)(next ak ar at':Int)(h:oS ae)(hn:ae.length<=99999):aq cd 203 [cv 0,aF ar,aF at'] [cA [ba ae,aF next,aF ak]] =
  some (.bool (Ik ae ar at'),[cA [ba ae,aF next,aF ak]]):=by
 refine aB ?_;have hk:∀M,aR (aq cd) 239 [cv 0,aF ar] (cA [ba ae,aF next,aF ak]::M)=some (aF (sq ae ar),cA [ba ae,aF next,aF ak]::M):=fun M=>amp ae next ak ar h aH 0 (cA [ba ae,aF next,aF ak]::M) rfl
 have hd:=asL ae next ak at' (sq ae ar) ar h hn
 unfold Ik;simp only[acH,aox,hk,hd,EN,seval]
def asv ae next ak ar at' h hn p M hM:=cM (p:=p) (M:=M) hM (aqM ae next ak ar at' h hn)
def BU(l:List gM)(s:Bytes):gv (jF l s) s=none:=by
 unfold gv jF;rw[fy];intro e he;have:=(eo.1 he).2;simpa using this
def vt{l:List gM}{s r:Bytes}(h:gv l r=none):gv (jF l s) r=none:=by
 unfold gv jF at *;rw[fy] at *;exact fun e he=>h e (eo.1 he).1
def kL{ae:List Node}(h:oS ae){dir:Int}{s:Bytes}{d:Node}(hf:find ae dir=some d)(i:Int):find (dv ae dir s) i=if i=dir then some { d with bc:=jF d.bc s } else find ae i:=by
 have hd:=(cG hf).2;unfold dv;rw[hf];simp only[bj];rw[gq h,show({ d with bc:=jF d.bc s }:Node).ar=dir from hd]
def HA{ae:List Node}(h:oS ae)(n:Node):oS (kE ae n):=by
 unfold kE;split
 ·exact rK h _
 ·exact lJ h _
def EZ{ae:List Node}(h:oS ae)(n:Node){i:Int}(hi:i≠n.ar):find (kE ae n) i=find ae i:=by
 unfold kE;split
 ·rw[mh h,aP hi]
 ·rw[gq h,aP hi]
def Sz.kE{b:Nat}{t:Tree}(h:Sz b t){n:Node}(h1:n.bc.length<=b+1)(h2:n.data.length<=100000)(next ak:Int):Sz (b+1) ⟨kE t.ae n,next,ak⟩:=by
 unfold Go.Proofs.YteoamaffclmdbaaGreatDoor.kE;split
 ·exact(h.uT _ next ak).up aH
 ·exact h.with (n:={ n with ep:=nq (n.ep-1) }) h1 h2 next ak
def yx(t:Tree)(dir:Int)(s:Bytes)(to:Int)(nm:Bytes)(ar:Int)(x y:Node)(there:Bool):Tree :=
 iq ⟨if x.kind==2 then eV (if there then kE (dv (dv t.ae dir s) to nm) y else dv t.ae dir s) { x with up:=to }
  else if there then kE (dv (dv t.ae dir s) to nm) y else dv t.ae dir s,t.next,t.ak⟩ to nm ar
set_option maxHeartbeats 1000000 in
def ahK(ae:List Node)(next ak dir:Int)(s:Bytes)(to:Int)(nm:Bytes)(ar:Int)(x y:Node)(there:Bool)(v5 v140:ag)(B0 Bd:cL)(yr:List ag)(hyr:there=true->aF y.ar::yr=aL y)(hz:Sz 1000 ⟨ae,next,ak⟩)(hr:rP ⟨ae,next,ak⟩){dd dt:Node}(hdir:find ae dir=some dd)(hto:find ae to=some dt)
  (hth:there=false->gv dt.bc nm=none) (hx:(x.kind==2)=true->x.ar≠to) (hy:there=true->y.ar≠to) (hx1:x.bc.length<=1000) (hx2:x.data.length<=100000) (hy1:y.bc.length<=1000) (hy2:y.data.length<=100000) :
  eX (aq cd) [.dG 10 3,.tmp 11,.tmp 12] 0 [] ND [(1,aF dir),(2,.str s),(3,aF to),(4,.str nm),(5,v5),(10,cv 1),(13,aF ar),(15,cv 2),(17,cv 4),(19,cv 5),(21,.bool there),(140,v140)]
   [B0,.cells zT,cA [ba ae,aF next,aF ak],Bd,cA (aL x),cA (aF y.ar::yr)]=some (.tuple [br (yx ⟨ae,next,ak⟩ dir s to nm ar x y there),aF y.ar,aF 0],[]):=by
 have hasc:oS ae:=hr.mj;have n1:=hz.left dir s next ak
 have a1:oS (dv ae dir s):=(hr.left dir s next ak).mj
 have e1:ra dd.bc:=hr.bc dd (cG hdir).1;have e2:ra dt.bc:=hr.bc dt (cG hto).1;have l1:dd.bc.length<=1000:=hz.bc dd (cG hdir).1;have l2:dt.bc.length<=1000:=hz.bc dt (cG hto).1
 obtain⟨d1,f1,g1,m1,q1⟩:∃d1,find (dv ae dir s) to=some d1/\ra d1.bc/\d1.bc.length<=1000/\(gv dt.bc nm=none->gv d1.bc nm=none):=by
  rw[kL hasc hdir];split
  ·rename_i he;subst he;rw[hdir] at hto; cases hto;exact⟨_,rfl,AF e1 s,aY (AG _ _) l1,vt⟩
  ·exact⟨dt,hto,e2,l2,id⟩
 have hv1:=fun a b M=>afp ae next ak dir s hasc (hz.small aH).ae hdir e1 aH 2 (a::b :: cA [ba ae,aF next,aF ak]::M) rfl
 have fin:∀(n3:List Node)(d3:Node),oS n3->Sz 1003 ⟨n3,next,ak⟩->find n3 to=some d3->ra d3.bc->d3.bc.length<=1000->gv d3.bc nm=none ->
   (∀a b M,aR (aq cd) 183 [cv 2,aF to,.str nm,aF ar] (a::b :: cA [ba n3,aF next,aF ak]::M)=some (.tuple [],a::b :: cA (aM (iq ⟨n3,next,ak⟩ to nm ar))::M)) /\
   ((x.kind==2)=true->(∀a b M,aR (aq cd) 182 [cv 2,.agg [aF x.ar,aF x.kind,aF x.ep,c8 x.data,jb x.bc,aF to]] (a::b :: cA [ba n3,aF next,aF ak]::M) =
     some (.tuple [],a::b :: cA [ba (eV n3 { x with up:=to }),aF next,aF ak]::M)) /\
    ∀a b M,aR (aq cd) 183 [cv 2,aF to,.str nm,aF ar] (a::b :: cA [ba (eV n3 { x with up:=to }),aF next,aF ak]::M)=some (.tuple [],a::b :: cA (aM (iq ⟨eV n3 { x with up:=to },next,ak⟩ to nm ar))::M)):=by
  intro n3 d3 b1 b2 b3 b4 b5 b6;have h0:n3≠[]:=by rintro rfl; simp[find] at b3
  refine⟨fun a b M=>YY n3 next ak to nm ar b1 (b2.small aH).ae b3 b4 aH b6 2 (a::b :: cA [ba n3,aF next,aF ak]::M) rfl,fun hk=>⟨fun a b M=>Lv n3 next ak x.ar x.kind x.ep x.data x.bc to b1 h0 (b2.small aH).ae 2 (a::b :: cA [ba n3,aF next,aF ak]::M) rfl,fun a b M=>?_⟩⟩
  have b7:Sz 1004 ⟨eV n3 { x with up:=to },next,ak⟩:=b2.with (n:={ x with up:=to }) (aY hx1 aH) hx2 next ak
  have b8:find (eV n3 { x with up:=to }) to=some d3:=by rw[gq b1,aP (fun he=>hx hk he.symm)]; exact b3
  exact YY (eV n3 { x with up:=to }) next ak to nm ar (lJ b1 _) (b7.small aH).ae b8 b4 aH b6 2 (a::b :: cA [ba (eV n3 { x with up:=to }),aF next,aF ak]::M) rfl
 cases hth':there with
 |false =>
  obtain⟨w1,w2⟩:=fin (dv ae dir s) d1 a1 (n1.up aH) f1 g1 m1 (q1 (hth hth'));cases hkx:(x.kind==2) with
  |false =>
   simp only[yF,hv1,zT,aL,hkx,w1,aM,EN,seval];simp only[yx,hkx,br,aM,qx,↓reduceIte,reduceCtorEq,aw]
  |true =>
   obtain⟨w3,w4⟩:=w2 hkx;simp only[yF,hv1,zT,aL,hkx,w3,w4,aM,EN,seval];simp only[yx,hkx,br,aM,qx,↓reduceIte,reduceCtorEq,aw]
 |true =>
  have hyr':yr=[aF y.kind,aF y.ep,c8 y.data,jb y.bc,aF y.up]:=by have:=hyr hth'; simpa[aL] using this
  subst hyr';have a2:oS (dv (dv ae dir s) to nm):=(rP.left (t:=⟨dv ae dir s,next,ak⟩) (hr.left dir s next ak) to nm next ak).mj
  have n2:=n1.left to nm next ak
  have f2:find (dv (dv ae dir s) to nm) to=some { d1 with bc:=jF d1.bc nm }:=by rw[kL a1 f1,aW rfl]
  have hv2:=fun a b M=>afp (dv ae dir s) next ak to nm a1 (n1.small aH).ae f1 g1 aH 2 (a::b :: cA [ba (dv ae dir s),aF next,aF ak]::M) rfl
  have hu:=fun a b M=>amf (dv (dv ae dir s) to nm) next ak y.ar y.kind y.ep y.data y.bc y.up a2 (Jg a1 f1) (n2.small aH).ae 2 (a::b :: cA [ba (dv (dv ae dir s) to nm),aF next,aF ak]::M) rfl
  have f3:find (kE (dv (dv ae dir s) to nm) y) to=some { d1 with bc:=jF d1.bc nm }:=by rw[EZ a2 y (fun he=>hy hth' he.symm)]; exact f2
  obtain⟨w1,w2⟩:=fin (kE (dv (dv ae dir s) to nm) y) { d1 with bc:=jF d1.bc nm } (HA a2 y) (n2.kE (aY hy1 aH) hy2 next ak) f3 (AF g1 nm) (aY (AG _ _) m1) (BU _ _)
  cases hkx:(x.kind==2) with
  |false =>
   simp only[yF,hv1,hv2,hu,zT,aL,hkx,w1,aM,EN,seval];simp only[yx,hkx,br,aM,qx,↓reduceIte,reduceCtorEq,aw]
  |true =>
   obtain⟨w3,w4⟩:=w2 hkx;simp only[yF,hv1,hv2,hu,zT,aL,hkx,w3,w4,aM,EN,seval];simp only[yx,hkx,br,aM,qx,↓reduceIte,reduceCtorEq,aw]
def mq(ae:List Node)(l:List gM)(s:Bytes):Node:=match gv l s with
 |none=>Node.zero
 |some e=>bl ae e.ar
def D0(t:Tree)(dir to:Int)(bc:List gM)(there:Bool)(kind ar:Int):Bool :=
 ((!there&&to != dir)&&decide ((64:Int)<=bc.length))||(decide ((12:Int)<(uC t.ae to).length)||((kind==2&&Ik t.ae ar (uC t.ae to).length)||decide ((1099511627776:Int)<=t.ak)))
def Ns(t:Tree)(dir:Int)(s:Bytes)(to:Int)(nm:Bytes):Tree×Int×Int :=
 if (fh t.ae dir s).2 != 0 then (t,0,(fh t.ae dir s).2) else
 if (gY t.ae to).2 != 0 then (t,0,(gY t.ae to).2) else
 if !fY nm then (t,0,60) else
 if (mq t.ae (gY t.ae to).1.bc nm).ar==(fh t.ae dir s).1 then (t,0,0) else
 if (bl t.ae (fh t.ae dir s).1).kind==2&&(uC t.ae to).contains (fh t.ae dir s).1 then (t,0,75) else
 if (gv (gY t.ae to).1.bc nm).isSome&&zX (bl t.ae (fh t.ae dir s).1) (mq t.ae (gY t.ae to).1.bc nm) != 0 then (t,0,zX (bl t.ae (fh t.ae dir s).1) (mq t.ae (gY t.ae to).1.bc nm)) else
 if D0 t dir to (gY t.ae to).1.bc (gv (gY t.ae to).1.bc nm).isSome (bl t.ae (fh t.ae dir s).1).kind (fh t.ae dir s).1 then (t,0,76) else
 (yx t dir s to nm (fh t.ae dir s).1 (bl t.ae (fh t.ae dir s).1) (mq t.ae (gY t.ae to).1.bc nm) (gv (gY t.ae to).1.bc nm).isSome,(mq t.ae (gY t.ae to).1.bc nm).ar,0)
def amh(a b c:Int)(d:Bytes)(e:List gM)(u:Int)(a' b' c':Int)(d':Bytes)(e':List gM)(u':Int)(M:aC):aR (aq cd) 202 [.agg [aF a,aF b,aF c,c8 d,jb e,aF u],.agg [aF a',aF b',aF c',c8 d',jb e',aF u']] M=some (aF (zX ⟨a,b,c,d,e,u⟩ ⟨a',b',c',d',e',u'⟩),M) :=
 cO (aqL ⟨a,b,c,d,e,u⟩ ⟨a',b',c',d',e',u'⟩) M
def Xt(ae:List Node)(to:Int):(uC ae to).contains to=true:=by
 have key:∀(m:Nat)(ar:Int)(out:List Int),out.contains to=true->(uu ae m ar out).contains to=true:=by
  intro m;induction m with
  |zero=>intro ar out h; exact h
  |succ m ih =>
   intro ar out h;rw[uu];split
   ·split
    ·exact h
    ·exact ih _ _ (by simp at h ⊢; exact .inl h)
   ·exact h
 exact key _ _ _ dw
def VX{ae:List Node}{i:Int}(h:(bl ae i).kind=2):(bl ae i).ar=i:=by
 cases hf:find ae i with
 |none=>simp[bl,hf,Node.zero] at h
 |some n=>simp[bl,hf]; exact(cG hf).2
set_option maxHeartbeats 4000000 in
def ap6(t:Tree)(dir:Int)(s:Bytes)(to:Int)(nm:Bytes)(hz:Sz 1000 t)(hr:rP t)(hs:s.length<=100000)(ha:pc s)(hs':nm.length<=100000)(ha':pc nm)
  (XC:∀e,gv (gY t.ae to).1.bc nm=some e->(bl t.ae e.ar).ar≠to) :
  aq cd 152 [br t,aF dir,.str s,aF to,.str nm] []=some (.tuple [br (Ns t dir s to nm).1,aF (Ns t dir s to nm).2.1,aF (Ns t dir s to nm).2.2],[]):=by
 obtain⟨Q,hQ⟩:∃Q,ND=Q:=⟨_,rfl⟩;obtain⟨ae,next,ak⟩:=t
 have ht:Small ⟨ae,next,ak⟩:=hz.small aH
 have hn:ae.length<=100000:=ht.ae;have hasc:oS ae:=hr.mj;have hl:=fun M=>YX ae next ak dir s ht hr hs ha M
 have hg:=fun i b c M=>E3 ae next ak i hasc hn 2 (b::c :: cA [ba ae,aF next,aF ak]::M) rfl
 have hd:=fun b c M=>YZ ae next ak to hasc hn 2 (b::c :: cA [ba ae,aF next,aF ak]::M) rfl
 have hup:=fun b c M=>afr ae next ak to hasc hn 2 (b::c :: cA [ba ae,aF next,aF ak]::M) rfl
 have hul:=uv ae to;have hn1:ae.length<=1000:=hz.ae;have hc:=fun x M=>amg (uC ae to) x aH M
 have hdp:=fun i a b c M=>asv ae next ak i a hasc aH 2 (b::c :: cA [ba ae,aF next,aF ak]::M) rfl
 have hE:ra (gY ae to).1.bc:=hr.dir to;have hde:(gY ae to).1.bc.length<=100000:=tC ht to;have hen:=fun a b c d u M=>SJ a b c d (gY ae to).1.bc u nm _ (sj hE nm) hde M
 refine aB ?_;simp only[acf,yF,hQ,br,aM,hl,EN,seval];refine bA (fun hb0=>?_) (fun hb0=>?_)
 ·simp only[yF,hQ,hb0,EN,seval];clear hl hg hd hup hc hdp hen XC;simp_all only[Ns,br,aM,qx,↓reduceIte,reduceCtorEq,aw]
 simp only[yF,hQ,hb0,hd,bK,aL,EN,seval];refine bA (fun hb1=>?_) (fun hb1=>?_)
 ·simp only[yF,hQ,hb1,EN,seval];clear hl hg hd hup hc hdp hen XC;simp_all only[Ns,br,aM,qx,↓reduceIte,reduceCtorEq,aw]
 simp only[yF,hQ,hb1,afq,hs',ha',EN,seval];refine bA (fun hb2=>?_) (fun hb2=>?_)
 ·simp only[yF,hQ,hb2,EN,seval];clear hl hg hd hup hc hdp hen XC;simp_all only[Ns,br,aM,qx,↓reduceIte,reduceCtorEq,aw]
 simp only[yF,hQ,hb2,hg,hen,bK,aL,EN,seval];obtain⟨dd,de,e1,e2,e3,e4,e5⟩:=look_ok hb0;obtain⟨dt,g1,g2,g3⟩:=yR (show(gY ae to).2=0 by simpa using hb1)
 have hx0:=hz.find (fh ae dir s).1;have tail:=fun there y yr hyr hth hy hy1 hy2 v5 v140 B0 Bd hxx=>ahK ae next ak dir s to nm (fh ae dir s).1 (bl ae (fh ae dir s).1) y there v5 v140 B0 Bd yr hyr hz hr e1 g1 hth hxx hy hx0.1 hx0.2 hy1 hy2
 have hxne:((bl ae (fh ae dir s).1).kind==2)=true->(uC ae to).contains (fh ae dir s).1=false->(bl ae (fh ae dir s).1).ar≠to:=fun h1 h2 h3=>by
  rw[VX (by simpa using h1)] at h3
  rw[h3,Xt] at h2; cases h2
 have hdte:dt.bc=(gY ae to).1.bc:=by rw[g3]
 rcases wV hE nm with ⟨h1,o,h2,h3,h4⟩|⟨h1,h2⟩
 ·have hnu:mq ae (gY ae to).1.bc nm=bl ae o.ar:=by simp[mq,h3]
  have hy0:=hz.find o.ar;have tl:=tail true (bl ae o.ar) _ (fun _=>rfl) dw (fun _=>XC o h3) hy0.1 hy0.2
  simp only[aL,zT] at tl;simp only[yF,hQ,h1,h2,hg,bK,aL,fU,EN,seval]
  repeat' ((first|apply bA|apply bW|apply dK)<;>intro hb<;>simp only[hb,EN,yF,hQ,hup,hc,hdp,amh,seval])
  all_goals try (clear hl hg hd hup hc hdp hen XC tail tl hxne e5 g3; simp_all only[Ns,D0,br,aM,bX,qx,↓reduceIte,reduceCtorEq,aw]; done)
  all_goals
   subst hQ;refine(tl _ _ _ _ (fun hk=>by first|exact hxne hk (by assumption)|(exfalso; simp_all; done))).trans ?_
   have hmv:Ns ⟨ae,next,ak⟩ dir s to nm=(yx ⟨ae,next,ak⟩ dir s to nm (fh ae dir s).1 (bl ae (fh ae dir s).1) (bl ae o.ar) true,(bl ae o.ar).ar,0):=by
    clear hl hg hd hup hc hdp hen XC tail tl hxne e5 g3;simp_all only[Ns,D0,bX,qx,↓reduceIte,reduceCtorEq,aw]
   rw[hmv];rfl
 ·have hnu:mq ae (gY ae to).1.bc nm=Node.zero:=by simp[mq,h2]
  have tl:=tail false Node.zero [aF 0,aF 0,.slice .c0 [],.slice .c0 [],aF 0] dw (fun _=>by rw[hdte]; exact h2) dw (by simp[Node.zero]) (by simp[Node.zero])
  have hz0:Node.zero.ar=0:=rfl;simp only[aL,zT,hz0] at tl;simp only[yF,hQ,h1,EN,seval]
  repeat' ((first|apply bA|apply bW|apply dK)<;>intro hb<;>simp only[hb,EN,yF,hQ,hup,hc,hdp,amh,seval])
  all_goals try (clear hl hg hd hup hc hdp hen XC tail tl hxne e5 g3; simp_all only[Ns,D0,br,aM,dr,qx,↓reduceIte,reduceCtorEq,aw]; done)
  all_goals
   subst hQ;refine(tl _ _ _ _ (fun hk=>by first|exact hxne hk (by assumption)|(exfalso; simp_all; done))).trans ?_
   have hmv:Ns ⟨ae,next,ak⟩ dir s to nm=(yx ⟨ae,next,ak⟩ dir s to nm (fh ae dir s).1 (bl ae (fh ae dir s).1) Node.zero false,0,0):=by
    clear hl hg hd hup hc hdp hen XC tail tl hxne e5 g3;simp_all only[Ns,D0,dr,qx,↓reduceIte,reduceCtorEq,aw]
   rw[hmv];rfl
end
def rj(l:List gM)(i:Int):Nat:=l.countP fun e=>e.ar==i
def uH(ns:List Node)(i:Int):Nat:=(ns.map fun n=>rj n.bc i).sum
def zA(i:Int):rj [] i=0:=rfl
def zz(a b:List gM)(i:Int):rj (a++b) i=rj a i+rj b i:=List.countP_append
def Fs(e:gM)(l:List gM)(i:Int):rj (e::l) i=rj l i+(if e.ar=i then 1 else 0):=by simp[rj,lQ]
def xR(a b:List Node)(i:Int):uH (a++b) i=uH a i+uH b i:=by simp[uH]
def vo(n:Node)(l:List Node)(i:Int):uH (n::l) i=rj n.bc i+uH l i:=by simp[uH]
def vp{ns:List Node}(h:oS ns)(n:Node)(i:Int):uH (eV ns n) i+rj (bl ns n.ar).bc i=uH ns i+rj n.bc i:=by
 rcases th h n.ar with ⟨_,o,h2,h3,h4⟩|⟨_,h2⟩
 ·rw[tK h h2 h4];obtain⟨s1,s2⟩:=x9 (n:=n) h2
  have e1:uH ns i=uH (ns.take (mg ns n.ar)) i+(rj o.bc i+uH (ns.drop (mg ns n.ar+1)) i):=by
   rw[<-vo,<-xR,<-s1]
  rw[s2,xR,vo,e1];simp only[bl,h3,bj];omega
 ·rw[ye h h2]
  have e1:uH ns i=uH (ns.take (mg ns n.ar)) i+uH (ns.drop (mg ns n.ar)) i:=by
   rw[<-xR,cF]
  rw[xR,vo,e1];simp only[bl,h2,iK,Node.zero,zA];omega
def GU{ns:List Node}(h:oS ns)(k i:Int):uH (fQ ns k) i+rj (bl ns k).bc i=uH ns i:=by
 rcases th h k with ⟨_,o,h2,h3,h4⟩|⟨_,h2⟩
 ·rw[Ap h h2 h4];obtain⟨s1,_⟩:=x9 (n:=o) h2
  have e1:uH ns i=uH (ns.take (mg ns k)) i+(rj o.bc i+uH (ns.drop (mg ns k+1)) i):=by
   rw[<-vo,<-xR,<-s1]
  rw[xR,e1];simp only[bl,h3,bj];omega
 ·rw[yE h2];simp only[bl,h2,iK,Node.zero,zA];omega
def Ig{l:List gM}{i:Int}:0<rj l i↔∃e,e∈l/\e.ar=i:=by simp[rj,List.countP_pos_iff]
def vU{i:Int}:∀ {ns:List Node},0<uH ns i↔∃n e,n∈ns/\e∈n.bc/\e.ar=i
 | []=>by simp[uH]
 |n::ns=>by
  rw[vo];constructor
  ·intro h;rcases hU (rj n.bc i) with h0|h0
   ·obtain⟨m,e,h1,h2,h3⟩:=(vU (i:=i) (ns:=ns)).1 aH;exact⟨m,e,bw _ h1,h2,h3⟩
   ·obtain⟨e,h1,h2⟩:=Ig.1 h0;exact⟨n,e,bD,h1,h2⟩
  ·rintro⟨m,e,h1,h2,h3⟩;rcases bJ.1 h1 with rfl|h1
   ·have:=Ig.2 ⟨e,h2,h3⟩; omega
   ·have:=(vU (i:=i) (ns:=ns)).2 ⟨m,e,h1,h2,h3⟩; omega
def VR{l:List gM}(h:ra l){e:gM}(hf:gv l e.name=none){x:gM}:x∈yW l e↔x=e\/x∈l:=by
 rw[vx h hf];have:x∈l↔x∈l.take (mo l e.name)\/x∈l.drop (mo l e.name):=by rw[<-bo,cF]
 rw[this,bo,bJ];constructor
 ·rintro(h|h|h)
  ·exact .inr (.inl h)
  ·exact .inl h
  ·exact .inr (.inr h)
 ·rintro(h|h|h)
  ·exact .inr (.inl h)
  ·exact .inl h
  ·exact .inr (.inr h)
def OL{l:List gM}(h:ra l){e:gM}(hf:gv l e.name=none)(i:Int):rj (yW l e) i=rj l i+(if e.ar=i then 1 else 0):=by
 rw[vx h hf,zz,Fs];have:rj l i=rj (l.take (mo l e.name)) i+rj (l.drop (mo l e.name)) i:=by rw[<-zz,cF]
 omega
def Pz{l:List gM}{s:Bytes}{x:gM}:x∈jF l s↔x∈l/\x.name≠s:=by simp[jF,eo]
def L6{l:List gM}{b:Nat}{o:gM}(ho:l[b]?=some o):l=l.take b++o::l.drop (b+1):=by
 have cJ:=(aj.1 ho).1;rw[ai cJ] at ho; injection ho with ho
 conv=>lhs; rw[<-cF b l]
 rw[cW cJ,ho]
def KT{l:List gM}(h:ra l){s:Bytes}{o:gM}(hf:gv l s=some o)(i:Int):rj (jF l s) i+(if o.ar=i then 1 else 0)=rj l i:=by
 rcases wV h s with ⟨_,o',h2,h3,h4⟩|⟨_,h2⟩
 ·rw[hf] at h3; cases h3;rw[Fu h h2 h4]
  have e1:rj l i=rj (l.take (mo l s)) i+(rj (l.drop (mo l s+1)) i+(if o.ar=i then 1 else 0)):=by
   rw[<-Fs,<-zz,<-L6 h2]
  rw[zz,e1];omega
 ·rw[hf] at h2; cases h2
def xZ{ns:List Node}(h:oS ns){n o:Node}(hf:find ns n.ar=some o):(eV ns n).length=ns.length:=by
 rcases th h n.ar with ⟨_,o,h2,h3,h4⟩|⟨_,h2⟩
 ·rw[tK h h2 h4,dL]
 ·rw[hf] at h2; cases h2
def Nm(s:Bytes):Prop:=fY s=true
structure dX(t:Tree)(dE:Int->Nat)(x:Int):Prop where
 lI:rP t
 root:∃r,find t.ae 1=some r/\r.kind=2/\r.up=1
 num:∀i n,find t.ae i=some n->1<=i/\i<t.next
 kind:∀i n,find t.ae i=some n->n.kind=1\/n.kind=2
 file:∀i n,find t.ae i=some n->n.kind=1->n.bc=[]/\n.up=0/\n.data.length<=4096
 dir:∀i n,find t.ae i=some n->n.kind=2->n.data=[]
 Cu:∀i n e,find t.ae i=some n->e∈n.bc->1<=e.ak/\e.ak<t.ak/\e.ar≠1/\Nm e.name/\∃m,find t.ae e.ar=some m/\(m.kind=2->m.up=i)
 yf:∀i n,find t.ae i=some n->(n.bc.Pairwise fun a b=>a.ak≠b.ak)/\n.bc.length<=64
 ep:∀i n,find t.ae i=some n->n.ep=(uH t.ae i:Int)+(if i=x then 1 else 0)
 one:∀i n,find t.ae i=some n->n.kind=2->i≠1->n.ep=1
 Ct:dE 1=0
 qE:∀i n,find t.ae i=some n->n.kind=2->i≠1->dE i=dE n.up+1/\∃p,find t.ae n.up=some p/\p.kind=2
 deep:∀i n,find t.ae i=some n->n.kind=2->dE i<=12/\(dE i=12->n.bc=[])
 ae:t.ae.length<=200
 next:t.next<=1099511627776
 ak:1<=t.ak/\t.ak<=1099511627776
def dX.ar{t:Tree}{dE:Int->Nat}{x:Int}(_:dX t dE x){i:Int}{n:Node}(hf:find t.ae i=some n):n.ar=i:=(cG hf).2
theorem dX.gF{t t':Tree}{dE:Int->Nat}{x x' d:Int}{n n':Node}(h:dX t dE x)(hs:rP t')(hd:find t.ae d=some n)
  (hf:∀i,find t'.ae i=if i=d then some n' else find t.ae i) (hk:n'.kind=n.kind) (hu:n'.up=n.up)
  (hfile:n.kind=1->n'.bc=[]/\n'.data.length<=4096) (hdir:n.kind=2->n'.data=[])
  (hent:∀e,e∈n'.bc->1<=e.ak/\e.ak<t'.ak/\e.ar≠1/\Nm e.name/\∃m,find t.ae e.ar=some m/\(m.kind=2->m.up=d))
  (hcook:(n'.bc.Pairwise fun a b=>a.ak≠b.ak)/\n'.bc.length<=64)
  (hc:∀i,1<=i->(uH t'.ae i:Int)+(if i=x' then 1 else 0)=uH t.ae i+(if i=x then 1 else 0)+(if i=d then n'.ep-n.ep else 0))
  (h1:n.kind=2->n'.ep=n.ep) (hdeep:dE d=12->n'.bc=[]) (hn:t'.ae.length<=200) (hnx:t'.next=t.next) (hck:t.ak<=t'.ak) (hck':t'.ak<=1099511627776):dX t' dE x':=by
 have pO:∀j m,find t.ae j=some m->∃m',find t'.ae j=some m'/\m'.kind=m.kind/\m'.up=m.up:=by
  intro j m hm;rw[hf];split
  ·rename_i he;subst he;rw[hd] at hm; cases hm;exact⟨n',rfl,hk,hu⟩
  ·exact⟨m,hm,rfl,rfl⟩
 have back:∀j m',find t'.ae j=some m'->(j=d/\m'=n')\/(j≠d/\find t.ae j=some m'):=by
  intro j m' hm;rw[hf] at hm;split at hm
  ·rename_i he; injection hm with hm; exact .inl ⟨he,hm.symm⟩
  ·rename_i he; exact .inr ⟨he,hm⟩
 refine⟨hs,?_,?_,?_,?_,?_,?_,?_,?_,?_,h.Ct,?_,?_,hn,by rw[hnx]; exact h.next,⟨by have:=h.ak.1; omega,hck'⟩⟩
 ·obtain⟨r,h1,h2,h3⟩:=h.root;obtain⟨r',k1,k2,k3⟩:=pO _ _ h1;exact⟨r',k1,aH,aH⟩
 ·intro i m hm;rw[hnx];rcases back i m hm with ⟨rfl,rfl⟩|⟨_,hm⟩
  ·exact h.num _ _ hd
  ·exact h.num _ _ hm
 ·intro i m hm;rcases back i m hm with ⟨rfl,rfl⟩|⟨_,hm⟩
  ·rw[hk]; exact h.kind _ _ hd
  ·exact h.kind _ _ hm
 ·intro i m hm hk1;rcases back i m hm with ⟨rfl,rfl⟩|⟨_,hm⟩
  ·rw[hk] at hk1;exact⟨(hfile hk1).1,by rw[hu]; exact(h.file _ _ hd hk1).2.1,(hfile hk1).2⟩
  ·exact h.file _ _ hm hk1
 ·intro i m hm hk1;rcases back i m hm with ⟨rfl,rfl⟩|⟨_,hm⟩
  ·rw[hk] at hk1;exact hdir hk1
  ·exact h.dir _ _ hm hk1
 ·intro i m e hm he
  have key:∀m,find t.ae e.ar=some m/\(m.kind=2->m.up=i)->∃m,find t'.ae e.ar=some m/\(m.kind=2->m.up=i):=by
   rintro m ⟨k1,k2⟩;obtain⟨m',j1,j2,j3⟩:=pO _ _ k1;exact⟨m',j1,fun hk=>by rw[j3]; exact k2 aH⟩
  rcases back i m hm with ⟨rfl,rfl⟩|⟨_,hm⟩
  ·obtain⟨a1,a2,a3,a4,k,a5⟩:=hent e he;exact⟨a1,a2,a3,a4,key k a5⟩
  ·obtain⟨a1,a2,a3,a4,k,a5⟩:=h.Cu _ _ e hm he;exact⟨a1,aH,a3,a4,key k a5⟩
 ·intro i m hm;rcases back i m hm with ⟨rfl,rfl⟩|⟨_,hm⟩
  ·exact hcook
  ·exact h.yf _ _ hm
 ·intro i m hm;rcases back i m hm with ⟨rfl,rfl⟩|⟨hne,hm⟩
  ·have:=hc i (h.num _ _ hd).1;have:=h.ep _ _ hd;simp only[↓reduceIte] at *;omega
  ·have:=hc i (h.num _ _ hm).1;have:=h.ep _ _ hm;simp only[hne,↓reduceIte] at *;omega
 ·intro i m hm hk1 hi;rcases back i m hm with ⟨rfl,rfl⟩|⟨_,hm⟩
  ·rw[hk] at hk1;rw[h1 hk1]; exact h.one _ _ hd hk1 hi
  ·exact h.one _ _ hm hk1 hi
 ·intro i m hm hk1 hi;rcases back i m hm with ⟨rfl,rfl⟩|⟨_,hm⟩
  ·rw[hk] at hk1;obtain⟨a,p,b,c⟩:=h.qE _ _ hd hk1 hi;obtain⟨p',k1,k2,_⟩:=pO _ _ b;rw[hu]; exact⟨a,p',k1,aH⟩
  ·obtain⟨a,p,b,c⟩:=h.qE _ _ hm hk1 hi;obtain⟨p',k1,k2,_⟩:=pO _ _ b;exact⟨a,p',k1,aH⟩
 ·intro i m hm hk1;rcases back i m hm with ⟨rfl,rfl⟩|⟨_,hm⟩
  ·rw[hk] at hk1;exact⟨(h.deep _ _ hd hk1).1,hdeep⟩
  ·exact h.deep _ _ hm hk1
def dX.left{t:Tree}{dE:Int->Nat}{d:Int}{n:Node}{s:Bytes}{e:gM}(h:dX t dE 0)(hd:find t.ae d=some n)(he:gv n.bc s=some e):dX ⟨dv t.ae d s,t.next,t.ak⟩ dE e.ar:=by
 have hE:ra n.bc:=h.lI.bc n (cG hd).1;have hi:n.ar=d:=h.ar hd;have hem:=jW he;have hw:dv t.ae d s=eV t.ae { n with bc:=jF n.bc s }:=by simp[dv,hd]
 have hc:∀i,uH (dv t.ae d s) i+(if e.ar=i then 1 else 0)=uH t.ae i:=by
  intro i;have h1:=vp h.lI.mj { n with bc:=jF n.bc s } i
  have h2:=KT hE he i;rw[hw];have h3:bl t.ae n.ar=n:=by simp only[bl,hi,hd,bj]
  simp only[h3] at h1;omega
 refine h.gF (h.lI.left d s t.next t.ak) hd (kL h.lI.mj hd) rfl rfl ?_ ?_ ?_ ?_ ?_ (fun _=>rfl) ?_ ?_ rfl (dP _) h.ak.2
 ·intro hk;obtain⟨h1,_,h3⟩:=h.file _ _ hd hk;exact⟨by simp[h1,jF],h3⟩
 ·exact h.dir _ _ hd
 ·intro x hx;exact h.Cu _ _ x hd (Pz.1 hx).1
 ·exact⟨jO _ (h.yf _ _ hd).1,aY (bU _ _) (h.yf _ _ hd).2⟩
 ·intro i h0;have h1:=hc i;rw[aP (show i≠0 by omega)]
  have e1:(if i=d then (n.ep-n.ep:Int) else 0)=0:=by split<;>omega
  simp only[e1]
  by_cases h0:i=e.ar
  ·subst h0;simp only[↓reduceIte] at h1 ⊢;omega
  ·rw[aP (fun hh=>h0 hh.symm)] at h1
   rw[aP h0];omega
 ·intro h12;have:=(h.deep _ _ hd ?_).2 h12
  ·simp[this,jF]
  ·rcases h.kind _ _ hd with hk|hk
   ·have:=(h.file _ _ hd hk).1;rw[this] at hem; cases hem.1
   ·exact hk
 ·show(dv t.ae d s).length<=200
  rw[hw,xZ h.lI.mj (o:=n) (by simp only[hi]; exact hd)]
  exact h.ae
def dX.nH{t:Tree}{dE:Int->Nat}{x d:Int}{n m:Node}{s:Bytes}(h:dX t dE x)(hd:find t.ae d=some n)(hk:n.kind=2)(he:gv n.bc s=none)(h64:n.bc.length<64)(hnm:Nm s)
  (hx:find t.ae x=some m) (hx1:x≠1) (hup:m.kind=2->m.up=d) (hdp:dE d<12) (hck:t.ak<1099511627776):dX (iq t d s x) dE 0:=by
 have hE:ra n.bc:=h.lI.bc n (cG hd).1;have hi:n.ar=d:=h.ar hd;have hcw:nq (t.ak+1)=t.ak+1:=gW (by have:=h.ak; omega) aH
 have hw:iq t d s x=⟨eV t.ae { n with bc:=yW n.bc ⟨s,x,t.ak⟩ },t.next,t.ak+1⟩:=by simp only[iq,hd,bj,hcw]
 have hfn:gv n.bc (gM.mk s x t.ak).name=none:=he
 have hc:∀i,uH (iq t d s x).ae i=uH t.ae i+(if x=i then 1 else 0):=by
  intro i;have h1:=vp h.lI.mj { n with bc:=yW n.bc ⟨s,x,t.ak⟩ } i
  have h2:=OL hE hfn i;rw[hw];have h3:bl t.ae n.ar=n:=by simp only[bl,hi,hd,bj]
  simp only[h3] at h1 h2 ⊢;omega
 have hff:∀i,find (iq t d s x).ae i=if i=d then some { n with bc:=yW n.bc ⟨s,x,t.ak⟩ } else find t.ae i:=by
  intro i;rw[hw];have:=gq h.lI.mj { n with bc:=yW n.bc ⟨s,x,t.ak⟩ } i
  rw[this];simp only[hi]
 refine h.gF (h.lI.nH d s x (by simp[bl,hd,he])) hd hff rfl rfl ?_ ?_ ?_ ?_ ?_ (fun _=>rfl) ?_ ?_ ?_ ?_ ?_
 ·intro hk1; omega
 ·exact h.dir _ _ hd
 ·intro e hem;rw[hw];rcases(VR hE hfn).1 hem with rfl|hem
  ·exact⟨h.ak.1,by simp only; omega,hx1,hnm,m,hx,hup⟩
  ·obtain⟨a1,a2,a3,a4,a5⟩:=h.Cu _ _ e hd hem;exact⟨a1,by simp only; omega,a3,a4,a5⟩
 ·refine⟨?_,by simp only[vx hE hfn,aA,av,cq,fS]; omega⟩
  rw[vx hE hfn];have hp:=(h.yf _ _ hd).1;rw[<-cF (mo n.bc s) n.bc,fu] at hp;obtain⟨p1,p2,p3⟩:=hp;rw[fu];refine⟨p1,dq.2 ⟨fun a ha=>?_,p2⟩,fun a ha c hc=>?_⟩
  ·have:=(h.Cu _ _ a hd (dy ha)).2.1;simp only; omega
  ·rcases bJ.1 hc with rfl|hc
   ·have:=(h.Cu _ _ a hd (dN ha)).2.1;simp only; omega
   ·exact p3 a ha c hc
 ·intro i h0;have h1:=hc i;rw[aP (show i≠0 by omega)]
  have e1:(if i=d then (n.ep-n.ep:Int) else 0)=0:=by split<;>omega
  simp only[e1]
  by_cases h0:i=x
  ·subst h0;simp only[↓reduceIte] at h1 ⊢;omega
  ·rw[aP (fun hh=>h0 hh.symm)] at h1
   rw[aP h0];omega
 ·intro h12; omega
 ·rw[hw];simp only;rw[xZ h.lI.mj (o:=n) (by simp only[hi]; exact hd)]
  exact h.ae
 ·rw[hw]
 ·rw[hw]; simp only; omega
 ·rw[hw]; simp only; omega
def dX.RE{t:Tree}{dE:Int->Nat}{x x' d:Int}{n n':Node}(h:dX t dE x)(hd:find t.ae d=some n)(hk:n.kind=1)(hi':n'.ar=d)(hk':n'.kind=1)(hu:n'.up=n.up)(he:n'.bc=n.bc)(hda:n'.data.length<=4096)
  (hx:∀i:Int,1<=i->(if i=x' then 1 else 0:Int)=(if i=x then 1 else 0)+(if i=d then n'.ep-n.ep else 0)):dX ⟨eV t.ae n',t.next,t.ak⟩ dE x':=by
 have hi:n.ar=d:=h.ar hd;have hE:ra n'.bc:=by rw[he]; exact h.lI.bc n (cG hd).1
 have hff:∀i,find (eV t.ae n') i=if i=d then some n' else find t.ae i:=by
  intro i;rw[gq h.lI.mj n' i,hi']
 obtain⟨f1,f2,f3⟩:=h.file _ _ hd hk;refine h.gF (h.lI.with hE t.next t.ak) hd hff aH hu ?_ ?_ ?_ ?_ ?_ ?_ ?_ ?_ rfl (dP _) h.ak.2
 ·intro _; exact⟨by rw[he]; exact f1,hda⟩
 ·intro h2; omega
 ·intro e hem; rw[he,f1] at hem; cases hem
 ·rw[he,f1]; exact⟨List.Pairwise.nil,dw⟩
 ·intro i h0;have h1:=vp h.lI.mj n' i;have h2:=hx i h0;simp only[bl,hi',hd,bj,he] at h1;simp only;omega
 ·intro h2; omega
 ·intro _; rw[he,f1]
 ·simp only;rw[xZ h.lI.mj (o:=n) (by simp only[hi']; exact hd)]
  exact h.ae
def dX.named{t:Tree}{dE:Int->Nat}{x:Int}(h:dX t dE x){i:Int}{n:Node}(hi:find t.ae i=some n)(hk:n.kind=2)(h1:i≠1)(hx:i≠x):∃p e,find t.ae n.up=some p/\p.kind=2/\e∈p.bc/\e.ar=i:=by
 have a:=h.ep _ _ hi;have b:=h.one _ _ hi hk h1;rw[aP hx] at a;obtain⟨m,e,e1,e2,e3⟩:=vU.1 (show 0<uH t.ae i by omega)
 have hm:find t.ae m.ar=some m:=(ij h.lI.mj).2 ⟨e1,rfl⟩;obtain⟨_,_,_,_,k,k1,k2⟩:=h.Cu _ _ e hm e2;rw[e3,hi] at k1; cases k1;obtain⟨_,p,p1,p2⟩:=h.qE _ _ hi hk h1;rw[k2 hk] at p1 ⊢;rw[hm] at p1; cases p1;exact⟨m,e,hm,p2,e2,e3⟩
def dX.drop{t:Tree}{dE:Int->Nat}{x k:Int}{n:Node}(h:dX t dE x)(hx:x=k\/x=0)(hk:find t.ae k=some n)(he:n.bc=[])(h1:k≠1)(hc:uH t.ae k=0):dX ⟨fQ t.ae k,t.next,t.ak⟩ dE 0:=by
 have hff:∀i m,find (fQ t.ae k) i=some m↔i≠k/\find t.ae i=some m:=by
  intro i m;rw[mh h.lI.mj];split<;>simp_all
 have hcn:∀i,uH (fQ t.ae k) i=uH t.ae i:=by
  intro i;have:=GU h.lI.mj k i;simp only[bl,hk,bj,he,zA] at this;omega
 have hno:∀i m e,find t.ae i=some m->e∈m.bc->e.ar≠k:=by
  intro i m e hm hem hh;have:=vU.2 ⟨m,e,(cG hm).1,hem,hh⟩;omega
 refine⟨h.lI.uT k t.next t.ak,?_,?_,?_,?_,?_,?_,?_,?_,?_,h.Ct,?_,?_,?_,h.next,h.ak⟩
 ·obtain⟨r,r1,r2⟩:=h.root;exact⟨r,(hff _ _).2 ⟨fun hh=>h1 hh.symm,r1⟩,r2⟩
 ·intro i m hm; exact h.num _ _ ((hff _ _).1 hm).2
 ·intro i m hm; exact h.kind _ _ ((hff _ _).1 hm).2
 ·intro i m hm; exact h.file _ _ ((hff _ _).1 hm).2
 ·intro i m hm; exact h.dir _ _ ((hff _ _).1 hm).2
 ·intro i m e hm hem;have hm':=((hff _ _).1 hm).2;obtain⟨a1,a2,a3,a4,q,a5,a6⟩:=h.Cu _ _ e hm' hem;exact⟨a1,a2,a3,a4,q,(hff _ _).2 ⟨hno _ _ e hm' hem,a5⟩,a6⟩
 ·intro i m hm; exact h.yf _ _ ((hff _ _).1 hm).2
 ·intro i m hm;obtain⟨m1,m2⟩:=(hff _ _).1 hm;have:=h.ep _ _ m2;have h0:=(h.num _ _ m2).1;rw[aP (show i≠0 by omega)]
  rw[aP (by rcases hx with rfl|rfl<;>omega)] at this
  simp only[hcn];exact this
 ·intro i m hm; exact h.one _ _ ((hff _ _).1 hm).2
 ·intro i m hm hk2 hi1;obtain⟨m1,m2⟩:=(hff _ _).1 hm;obtain⟨a,p,b,c⟩:=h.qE _ _ m2 hk2 hi1;refine⟨a,p,(hff _ _).2 ⟨fun hh=>?_,b⟩,c⟩
  have h0:=(h.num _ _ m2).1;obtain⟨q,e,q1,_,q3,_⟩:=h.named m2 hk2 hi1 (by rcases hx with rfl|rfl<;>omega)
  rw[hh,hk] at q1; cases q1;rw[he] at q3; cases q3
 ·intro i m hm; exact h.deep _ _ ((hff _ _).1 hm).2
 ·exact aY (bU _ _) h.ae
def dX.anH{t:Tree}{dE dep':Int->Nat}{x to:Int}{n p:Node}(h:dX t dE x)(hx:find t.ae x=some n)(hk:n.kind=2)(hx1:x≠1)(hp:find t.ae to=some p)(hpk:p.kind=2)
  (h1:dep' 1=0) (hds:∀i m,find t.ae i=some m->m.kind=2->i≠1->i≠x->dep' i=dep' m.up+1) (hdx:dep' x=dep' to+1)
  (hdeep:∀i m,find t.ae i=some m->m.kind=2->dep' i<=12/\(dep' i=12->m.bc=[])):dX ⟨eV t.ae { n with up:=to },t.next,t.ak⟩ dep' x:=by
 have hi:n.ar=x:=h.ar hx
 have hff:∀i,find (eV t.ae { n with up:=to }) i=if i=x then some { n with up:=to } else find t.ae i:=by
  intro i;rw[gq h.lI.mj { n with up:=to } i]
  simp only[hi]
 have pO:∀j m,find t.ae j=some m->∃m',find (eV t.ae { n with up:=to }) j=some m'/\m'.kind=m.kind/\(j≠x->m'.up=m.up):=by
  intro j m hm;rw[hff];split
  ·rename_i he;subst he;rw[hx] at hm; cases hm;exact⟨_,rfl,rfl,fun hh=>absurd rfl hh⟩
  ·exact⟨m,hm,rfl,fun _=>rfl⟩
 have back:∀j m',find (eV t.ae { n with up:=to }) j=some m'->(j=x/\m'={ n with up:=to })\/(j≠x/\find t.ae j=some m'):=by
  intro j m' hm;rw[hff] at hm;split at hm
  ·rename_i he; injection hm with hm; exact .inl ⟨he,hm.symm⟩
  ·rename_i he; exact .inr ⟨he,hm⟩
 have hcn:∀i,uH (eV t.ae { n with up:=to }) i=uH t.ae i:=by
  intro i;have:=vp h.lI.mj { n with up:=to } i
  have h3:bl t.ae n.ar=n:=by simp only[bl,hi,hx,bj]
  simp only[h3] at this;omega
 have hc0:uH t.ae x=0:=by
  have a:=h.ep _ n hx;have b:=h.one _ n hx hk hx1;simp only[↓reduceIte] at a;omega
 have hno:∀i m e,find t.ae i=some m->e∈m.bc->e.ar≠x:=by
  intro i m e hm hem hh;have:=vU.2 ⟨m,e,(cG hm).1,hem,hh⟩;omega
 have hent:∀i m e,find t.ae i=some m->e∈m.bc->1<=e.ak/\e.ak<t.ak/\e.ar≠1/\Nm e.name/\∃m,find (eV t.ae { n with up:=to }) e.ar=some m/\(m.kind=2->m.up=i):=by
  intro i m e hm hem;obtain⟨a1,a2,a3,a4,q,a5,a6⟩:=h.Cu _ _ e hm hem;obtain⟨q',j1,j2,j3⟩:=pO _ _ a5;exact⟨a1,a2,a3,a4,q',j1,fun hk=>by rw[j3 (hno _ _ e hm hem)]; exact a6 aH⟩
 refine⟨h.lI.with (n:={ n with up:=to }) (h.lI.bc n (cG hx).1) t.next t.ak,?_,?_,?_,?_,?_,?_,?_,?_,?_,h1,?_,?_,?_,h.next,h.ak⟩
 ·obtain⟨r,r1,r2,r3⟩:=h.root;obtain⟨r',k1,k2,k3⟩:=pO _ _ r1;exact⟨r',k1,aH,by rw[k3 (fun hh=>hx1 hh.symm)]; exact r3⟩
 ·intro i m hm;rcases back i m hm with ⟨rfl,rfl⟩|⟨_,hm⟩
  ·exact h.num _ n hx
  ·exact h.num _ _ hm
 ·intro i m hm;rcases back i m hm with ⟨rfl,rfl⟩|⟨_,hm⟩
  ·exact h.kind _ n hx
  ·exact h.kind _ _ hm
 ·intro i m hm hk1;rcases back i m hm with ⟨rfl,rfl⟩|⟨_,hm⟩
  ·simp only at hk1; omega
  ·exact h.file _ _ hm hk1
 ·intro i m hm hk1;rcases back i m hm with ⟨rfl,rfl⟩|⟨_,hm⟩
  ·exact h.dir _ n hx hk
  ·exact h.dir _ _ hm hk1
 ·intro i m e hm hem;rcases back i m hm with ⟨rfl,rfl⟩|⟨_,hm⟩
  ·exact hent _ n e hx hem
  ·exact hent _ _ e hm hem
 ·intro i m hm;rcases back i m hm with ⟨rfl,rfl⟩|⟨_,hm⟩
  ·exact h.yf _ n hx
  ·exact h.yf _ _ hm
 ·intro i m hm;simp only[hcn];rcases back i m hm with ⟨rfl,rfl⟩|⟨_,hm⟩
  ·exact h.ep _ n hx
  ·exact h.ep _ _ hm
 ·intro i m hm hk1 hi1;rcases back i m hm with ⟨rfl,rfl⟩|⟨_,hm⟩
  ·exact h.one _ n hx hk hi1
  ·exact h.one _ _ hm hk1 hi1
 ·intro i m hm hk1 hi1;rcases back i m hm with ⟨rfl,rfl⟩|⟨hne,hm⟩
  ·obtain⟨p',k1,k2,_⟩:=pO _ _ hp;exact⟨hdx,p',k1,aH⟩
  ·obtain⟨_,q,b,c⟩:=h.qE _ _ hm hk1 hi1;obtain⟨q',k1,k2,_⟩:=pO _ _ b;exact⟨hds _ _ hm hk1 hi1 hne,q',k1,aH⟩
 ·intro i m hm hk1;rcases back i m hm with ⟨rfl,rfl⟩|⟨_,hm⟩
  ·exact hdeep _ n hx hk
  ·exact hdeep _ _ hm hk1
 ·simp only;rw[xZ h.lI.mj (o:=n) (by simp only[hi]; exact hx)]
  exact h.ae
def dX.made{t:Tree}{dE:Int->Nat}{d kind:Int}{p:Node}(h:dX t dE 0)(hp:find t.ae d=some p)(hpk:p.kind=2)(hk:kind=1\/kind=2)(hdp:dE d<12)(hl:t.ae.length<200)(hn:t.next<1099511627776) :
  dX ⟨eV t.ae ⟨t.next,kind,1,[],[],if kind==2 then d else 0⟩,t.next+1,t.ak⟩ (fun i=>if i=t.next then dE d+1 else dE i) t.next:=by
 have ju:find t.ae t.next=none:=by
  cases hz:find t.ae t.next with
  |none=>rfl
  |some m=>have:=h.num _ _ hz; omega
 have hnx:2<=t.next:=by
  obtain⟨r,r1,_⟩:=h.root;have:=(h.num _ _ r1).2; omega
 generalize hn':Node.mk t.next kind 1 [] [] (if kind==2 then d else 0)=n'
 have i1:n'.ar=t.next:=by rw[<-hn']
 have i2:n'.kind=kind:=by rw[<-hn']
 have i3:n'.ep=1:=by rw[<-hn']
 have i4:n'.data=[]:=by rw[<-hn']
 have i5:n'.bc=[]:=by rw[<-hn']
 have i6:n'.up=if kind==2 then d else 0:=by rw[<-hn']
 have hff:∀i,find (eV t.ae n') i=if i=t.next then some n' else find t.ae i:=by
  intro i;rw[gq h.lI.mj n' i,i1]
 have pO:∀j m,find t.ae j=some m->find (eV t.ae n') j=some m/\j≠t.next:=by
  intro j m hm;have:=(h.num _ _ hm).2;rw[hff,aP aH];exact⟨hm,aH⟩
 have back:∀j m',find (eV t.ae n') j=some m'->(j=t.next/\m'=n')\/(j≠t.next/\find t.ae j=some m'):=by
  intro j m' hm;rw[hff] at hm;split at hm
  ·rename_i he; injection hm with hm; exact .inl ⟨he,hm.symm⟩
  ·rename_i he; exact .inr ⟨he,hm⟩
 have hcn:∀i,uH (eV t.ae n') i=uH t.ae i:=by
  intro i;have:=vp h.lI.mj n' i;simp only[bl,i1,ju,iK,Node.zero,i5,zA] at this;omega
 have hc0:uH t.ae t.next=0:=by
  rcases hU (uH t.ae t.next) with h0|h0
  ·exact h0
  ·obtain⟨m,e,e1,e2,e3⟩:=vU.1 h0;obtain⟨_,_,_,_,k,k1,_⟩:=h.Cu _ _ e ((ij h.lI.mj).2 ⟨e1,rfl⟩) e2;rw[e3,ju] at k1; cases k1
 refine⟨h.lI.with (n:=n') (by rw[i5]; exact List.Pairwise.nil) _ _,?_,?_,?_,?_,?_,?_,?_,?_,?_,?_,?_,?_,?_,?_,h.ak⟩
 ·obtain⟨r,r1,r2⟩:=h.root;exact⟨r,(pO _ _ r1).1,r2⟩
 ·intro i m hm;simp only;rcases back i m hm with ⟨rfl,rfl⟩|⟨_,hm⟩
  ·omega
  ·have:=h.num _ _ hm; omega
 ·intro i m hm;rcases back i m hm with ⟨rfl,rfl⟩|⟨_,hm⟩
  ·rw[i2]; exact hk
  ·exact h.kind _ _ hm
 ·intro i m hm hk1;rcases back i m hm with ⟨rfl,rfl⟩|⟨_,hm⟩
  ·rw[i2] at hk1;exact⟨i5,by rw[i6,hk1]; rfl,by rw[i4]; simp⟩
  ·exact h.file _ _ hm hk1
 ·intro i m hm hk1;rcases back i m hm with ⟨rfl,rfl⟩|⟨_,hm⟩
  ·exact i4
  ·exact h.dir _ _ hm hk1
 ·intro i m e hm hem;rcases back i m hm with ⟨rfl,rfl⟩|⟨_,hm⟩
  ·rw[i5] at hem; cases hem
  ·obtain⟨a1,a2,a3,a4,q,a5,a6⟩:=h.Cu _ _ e hm hem;exact⟨a1,a2,a3,a4,q,(pO _ _ a5).1,a6⟩
 ·intro i m hm;rcases back i m hm with ⟨rfl,rfl⟩|⟨_,hm⟩
  ·rw[i5]; exact⟨List.Pairwise.nil,dw⟩
  ·exact h.yf _ _ hm
 ·intro i m hm;simp only[hcn];rcases back i m hm with ⟨rfl,rfl⟩|⟨hne,hm⟩
  ·rw[hc0,i3]; simp
  ·rw[aP hne];have:=h.ep _ _ hm;rw[aP (by have:=(h.num _ _ hm).1; omega)] at this
   exact this
 ·intro i m hm hk1 hi1;rcases back i m hm with ⟨rfl,rfl⟩|⟨_,hm⟩
  ·exact i3
  ·exact h.one _ _ hm hk1 hi1
 ·show(if (1:Int)=t.next then dE d+1 else dE 1)=0
  rw[aP aH]; exact h.Ct
 ·intro i m hm hk1 hi1
  show(if i=t.next then dE d+1 else dE i)=(if m.up=t.next then dE d+1 else dE m.up)+1/\_
  rcases back i m hm with ⟨rfl,rfl⟩|⟨hne,hm⟩
  ·rw[i2] at hk1;have hu:m.up=d:=by rw[i6,hk1]; rfl
   rw[hu,aW rfl,aP (pO _ _ hp).2];exact⟨rfl,p,(pO _ _ hp).1,hpk⟩
  ·obtain⟨a,q,b,c⟩:=h.qE _ _ hm hk1 hi1;rw[aP hne,aP (pO _ _ b).2];exact⟨a,q,(pO _ _ b).1,c⟩
 ·intro i m hm hk1
  show(if i=t.next then dE d+1 else dE i)<=12/\((if i=t.next then dE d+1 else dE i)=12->_)
  rcases back i m hm with ⟨rfl,rfl⟩|⟨hne,hm⟩
  ·rw[aW rfl]; exact⟨aH,fun _=>i5⟩
  ·rw[aP hne]; exact h.deep _ _ hm hk1
 ·have:=GB t.ae n';simp only; omega
 ·simp only; omega
def cover:∀(k:Nat)(l:List Nat),(∀j,j<k->j∈l)->k<=l.length
 |0,_,_=>cR _
 |k+1,l,h=>by
  have hk:=h k aH;have:=cover k (l.erase k) (fun j hj=>(List.mem_erase_of_ne aH).2 (h j aH))
  rw[List.length_erase_of_mem hk] at this;have:=List.length_pos_of_mem hk;omega
def dX.anN{t:Tree}{dE:Int->Nat}{x:Int}(h:dX t dE x):∀(m:Nat)(i:Int)(n:Node),find t.ae i=some n->n.kind=2->dE i=m->∀k,k<=m->∃j p,find t.ae j=some p/\dE j=k:=by
 intro m;induction m with
 |zero=>intro i n hi _ hm k hk; exact⟨i,n,hi,aH⟩
 |succ m ih =>
  intro i n hi hk2 hm k hk;rcases Nat.eq_or_lt_of_le hk with rfl|cJ
  ·exact⟨i,n,hi,hm⟩
  ·have h1:i≠1:=fun hh=>by subst hh; have:=h.Ct; omega
   obtain⟨a,p,b,c⟩:=h.qE _ _ hi hk2 h1;exact ih _ p b c aH k aH
def dX.Dl{t:Tree}{dE:Int->Nat}{x:Int}(h:dX t dE x){i:Int}{n:Node}(hi:find t.ae i=some n)(hk:n.kind=2):dE i<t.ae.length:=by
 have:=cover (dE i+1) (t.ae.map fun n=>dE n.ar) (fun j hj=>by
  obtain⟨a,p,h1,h2⟩:=h.anN _ _ _ hi hk rfl j aH;rw[eJ];exact⟨p,(cG h1).1,by rw[(cG h1).2,h2]⟩)
 rw[eK] at this;omega
def dX.KZ{t:Tree}{dE:Int->Nat}{x:Int}(h:dX t dE x):∀(m:Nat)(i:Int)(d:Nat)(n:Node),find t.ae i=some n->n.kind=2->dE i<=m->vW t.ae m i d=d+dE i:=by
 intro m;induction m with
 |zero=>intro i d n _ _ hd; simp only[vW]; omega
 |succ m ih =>
  intro i d n hi hk hd;simp only[vW];split
  ·rename_i h1; subst h1; have:=h.Ct; omega
  ·rename_i h1;obtain⟨a,p,b,c⟩:=h.qE _ _ hi hk h1;have hu:Qd t.ae i=n.up:=by simp[Qd,hi]
   rw[hu,ih _ _ p b c aH];omega
def dX.p8{t:Tree}{dE:Int->Nat}{x:Int}(h:dX t dE x){i:Int}{n:Node}(hi:find t.ae i=some n)(hk:n.kind=2):pM t.ae i=dE i:=by
 have:=h.KZ 201 i 0 n hi hk (by have:=(h.deep _ _ hi hk).1; omega)
 simp only[pM,this]; omega
def dX.yd{t:Tree}{dE:Int->Nat}{x:Int}(h:dX t dE x):∀(m:Nat)(i:Int)(out:List Int)(n:Node),find t.ae i=some n->n.kind=2->dE i<=m->(uu t.ae m i out).length=out.length+dE i:=by
 intro m;induction m with
 |zero=>intro i out n _ _ hd; simp only[uu]; omega
 |succ m ih =>
  intro i out n hi hk hd;simp only[uu]
  by_cases h1:i=1
  ·subst h1; have:=h.Ct; simp; omega
  ·obtain⟨a,p,b,c⟩:=h.qE _ _ hi hk h1;simp only[nv,ne_eq,h1,not_false_eq_true,↓reduceIte,bl,hi,bX,ct,bj,hk,aw,fH,af];rw[ih _ _ p b c aH];simp only[aA,av,az];omega
def dX.uv{t:Tree}{dE:Int->Nat}{x:Int}(h:dX t dE x){i:Int}{n:Node}(hi:find t.ae i=some n)(hk:n.kind=2):(uC t.ae i).length=dE i+1:=by
 have:=h.yd t.ae.length i [i] n hi hk (by have:=h.Dl hi hk; omega)
 simp only[uC,this,av,az]; omega
def dX.Xr{t:Tree}{dE:Int->Nat}{x:Int}(_:dX t dE x){i:Int}{n:Node}(hi:find t.ae i=some n):Qd t.ae i=n.up:=by simp[Qd,hi]
def dX.Dc{t:Tree}{dE:Int->Nat}{x:Int}(h:dX t dE x)(of:Int):∀(m:Nat)(i:Int)(n:Node),find t.ae i=some n->n.kind=2->dE i<m->nc t.ae of m i=nc t.ae of (dE i+1) i:=by
 intro m;induction m with
 |zero=>intro i n _ _ hd; omega
 |succ m ih =>
  intro i n hi hk hd
  by_cases h1:i=1
  ·subst h1; simp only[nc]; split<;>rfl
  ·obtain⟨a,p,b,c⟩:=h.qE _ _ hi hk h1;simp only[nc,h1,↓reduceIte,h.Xr hi];rw[ih _ p b c aH,a]
theorem dX.oL{t:Tree}(i:Int):iM t.ae i i=true:=by simp[iM,nc]
theorem dX.qK{t:Tree}{of:Int}(h1:of≠1):iM t.ae 1 of=false:=by
 simp only[iM,nc];rw[aP (fun hh=>h1 hh.symm)]
 rfl
def dX.sr{t:Tree}{dE:Int->Nat}{x:Int}(h:dX t dE x){of i:Int}{n:Node}(hi:find t.ae i=some n)(hk:n.kind=2)(h1:i≠1)(ho:i≠of):iM t.ae i of=iM t.ae n.up of:=by
 obtain⟨a,p,b,c⟩:=h.qE _ _ hi hk h1;have d1:=h.Dl b c;have d2:=h.Dl hi hk;simp only[iM];rw[h.Dc of _ _ p b c aH];rw[h.Dc of _ _ n hi hk aH]
 conv=>lhs; rw[nc]
 simp only[ho,h1,↓reduceIte,h.Xr hi];rw[a]
def dX.Ay{t:Tree}{dE:Int->Nat}{x:Int}(h:dX t dE x){of:Int}:∀(m:Nat)(i:Int)(n:Node),find t.ae i=some n->n.kind=2->dE i=m->iM t.ae i of=true->dE of<=dE i:=by
 intro m;induction m with
 |zero =>
  intro i n hi hk hm hb
  by_cases h1:i=1
  ·by_cases h2:of=1
   ·subst h1; subst h2; exact au _
   ·subst h1; rw[dX.qK h2] at hb; cases hb
  ·obtain⟨a,_⟩:=h.qE _ _ hi hk h1;omega
 |succ m ih =>
  intro i n hi hk hm hb;have h1:i≠1:=fun hh=>by subst hh; have:=h.Ct; omega
  obtain⟨a,p,b,c⟩:=h.qE _ _ hi hk h1
  by_cases ho:i=of
  ·subst ho; exact au _
  ·rw[h.sr hi hk h1 ho] at hb;have:=ih _ p b c aH hb;omega
def Jt{α:Type}[DecidableEq α]:∀(l k:List α),l.Nodup->(∀x,x∈l->x∈k)->l.length<=k.length
 | [],_,_,_=>cR _
 |a::l,k,h,hs=>by
  have ha:=hs a bD;obtain⟨h1,h2⟩:=oE.1 h;have:=Jt l (k.erase a) h2 (fun x hx=>(List.mem_erase_of_ne (by rintro rfl; exact h1 hx)).2 (hs x (bw _ hx)))
  rw[List.length_erase_of_mem ha] at this;have:=List.length_pos_of_mem ha;simp only[av];omega
def dX.RD{t:Tree}{dE:Int->Nat}{x:Int}(h:dX t dE x){i:Int}{n:Node}(hi:find t.ae i=some n):n.bc.length<=64:=(h.yf _ _ hi).2
def Rb(i:Int):∀(ns:List Node),(∀n,n∈ns->n.bc.length<=64)->uH ns i<=64*ns.length
 | [],_=>cR _
 |n::ns,h=>by
  have h1:=Rb i ns (fun m hm=>h m (bw _ hm))
  have h2:rj n.bc i<=n.bc.length:=nt;have h3:=h n bD;rw[vo,av];omega
def dX.Rc{t:Tree}{dE:Int->Nat}{x:Int}(h:dX t dE x)(i:Int):uH t.ae i<=12800:=by
 have:=Rb i t.ae (fun n hn=>h.RD ((ij h.lI.mj).2 ⟨hn,rfl⟩))
 have:=h.ae;omega
def dX.w9{t:Tree}{dE:Int->Nat}{x:Int}(h:dX t dE x){i:Int}{n:Node}(hi:find t.ae i=some n){e:gM}(he:e∈n.bc):e.ar≠i:=by
 intro hh;obtain⟨_,_,h1,_,m,hm,hu⟩:=h.Cu _ _ e hi he;rw[hh,hi] at hm; cases hm
 have hk:n.kind=2:=by
  rcases h.kind _ _ hi with hk|hk
  ·rw[(h.file _ _ hi hk).1] at he; cases he
  ·exact hk
 have:=(h.qE _ _ hi hk aH).1;rw[hu hk] at this;omega
def It{t:Tree}{ar:Int}{s:Bytes}(h:(oV t ar s != 0)=false):∃d,find t.ae ar=some d/\d.kind=2/\fY s=true/\gv d.bc s=none/\d.bc.length<64/\pM t.ae ar<12/\t.ak<1099511627776:=by
 have h0:oV t ar s=0:=by simpa using h
 unfold oV at h0;split at h0
 ·rename_i h1; exact absurd h0 h1
 ·rename_i h1;obtain⟨d,d1,d2,d3⟩:=yR (show(gY t.ae ar).2=0 by omega)
  rw[d3] at h0;split at h0
  ·cases h0
  ·rename_i h2;split at h0
   ·cases h0
   ·rename_i h3;split at h0
    ·cases h0
    ·rename_i h4;simp only[Dy,(cG d1).2,cU,bh,o4] at h4;refine⟨d,d1,d2,by simpa using h2,by simpa using h3,aH,aH,aH⟩
def dX.cw{t:Tree}{dE:Int->Nat}{x:Int}(h:dX t dE x)(hn:t.next<1099511627776):nq (t.next+1)=t.next+1:=gW (by
 obtain⟨r,r1,_⟩:=h.root;have:=h.num _ _ r1; omega) aH
def QS{t:Tree}{dE:Int->Nat}(h:dX t dE 0)(ar:Int)(s:Bytes)(kind:Int)(hs:fY s=true->Nm s):∃dep',dX (rR t ar s kind).1 dep' 0:=by
 unfold rR;split
 ·exact⟨dE,h⟩
 ·rename_i hk;split
  ·exact⟨dE,h⟩
  ·rename_i he;split
   ·exact⟨dE,h⟩
   ·rename_i hb;obtain⟨d,d1,d2,d3,d4,d5,d6,d7⟩:=It (by simpa using he)
    simp only[cU,bh,o4] at hb;have hn:t.next<1099511627776:=aH
    rw[h.p8 d1 d2] at d6
    have hk':kind=1\/kind=2:=by
     simp only[bu,nv,ne_eq,not_and,Decidable.not_not] at hk
     by_cases h1:kind=1
     ·exact .inl h1
     ·exact .inr (hk h1)
    have hm:=h.made d1 d2 hk' d6 aH hn;rw[h.cw hn];have cJ:=(h.num _ _ d1).2;have hne:ar≠t.next:=aH
    refine⟨_,hm.nH (d:=ar) (n:=d) (m:=⟨t.next,kind,1,[],[],if kind==2 then ar else 0⟩) ?_ d2 d4 (by simpa using d5) (hs d3) ?_ ?_ ?_ ?_ d7⟩
    ·simp only; rw[gq h.lI.mj]; simp only[hne,↓reduceIte]; exact d1
    ·simp only; rw[gq h.lI.mj]; simp only[↓reduceIte]
    ·have:=(h.num _ _ d1).1; omega
    ·intro h2;simp only at h2;simp[h2]
    ·simp only[hne,↓reduceIte]; exact d6
def ZU{t:Tree}{dE:Int->Nat}(h:dX t dE 0)(ar to:Int)(s:Bytes)(hs:fY s=true->Nm s):dX (CA t ar to s).1 dE 0:=by
 unfold CA;split
 ·exact h
 ·rename_i hf;split
  ·exact h
  ·rename_i hk;split
   ·exact h
   ·rename_i he;obtain⟨d,d1,d2,d3,d4,d5,d6,d7⟩:=It (by simpa using he)
    rw[h.p8 d1 d2] at d6;cases hi:find t.ae ar with
    |none=>simp[hi] at hf
    |some n =>
     simp only[bl,hi,bj] at hk ⊢
     have hk1:n.kind=1:=by
      rcases h.kind _ _ hi with h1|h1
      ·exact h1
      ·simp[h1] at hk
     have hlk:=h.ep _ _ hi;rw[aP (by have:=(h.num _ _ hi).1; omega)] at hlk
     have hcl:=h.Rc ar;have hw:nq (n.ep+1)=n.ep+1:=gW aH aH;rw[hw];obtain⟨f1,f2,f3⟩:=h.file _ _ hi hk1
     have hg:=h.RE (n':={ n with ep:=n.ep+1 }) (x':=ar) hi hk1 (cG hi).2 hk1 rfl rfl f3 (fun i h0=>by
      simp only;rw[aP (show i≠0 by omega)]
      split<;>omega)
     have hne:to≠ar:=fun hh=>by subst hh; rw[hi] at d1; cases d1; omega
     refine hg.nH (d:=to) (n:=d) (m:={ n with ep:=n.ep+1 }) ?_ d2 d4 (by simpa using d5) (hs d3) ?_ ?_ ?_ d6 d7
     ·simp only; rw[gq h.lI.mj]; simp only[h.ar hi,hne,↓reduceIte]; exact d1
     ·simp only; rw[gq h.lI.mj]; simp only[h.ar hi,↓reduceIte]
     ·intro hh; subst hh;obtain⟨r,r1,r2,_⟩:=h.root;rw[hi] at r1; cases r1; omega
     ·intro h2; simp only at h2; omega
def dX.unnamed{t:Tree}{dE:Int->Nat}{k:Int}{n:Node}(h:dX t dE k)(hk:find t.ae k=some n)(he:n.bc=[])(h1:k≠1):dX ⟨fp t.ae k,t.next,t.ak⟩ dE 0:=by
 unfold fp;simp only[bl,hk,bj];have hl:=h.ep _ _ hk;simp only[↓reduceIte] at hl;split
 ·rename_i h2;have:=h.one _ _ hk (by simpa using h2) h1
  exact h.drop (.inl rfl) hk he h1 aH
 ·rename_i h2
  have hk1:n.kind=1:=by
   rcases h.kind _ _ hk with h1|h1
   ·exact h1
   ·simp[h1] at h2
  have hcl:=h.Rc k;have hw:nq (n.ep-1)=n.ep-1:=gW aH aH;rw[hw];obtain⟨f1,f2,f3⟩:=h.file _ _ hk hk1
  exact h.RE (n':={ n with ep:=n.ep-1 }) (x':=0) hk hk1 (cG hk).2 hk1 rfl rfl f3 (fun i h0=>by
   simp only;rw[aP (show i≠0 by omega)]
   split<;>omega)
def dX.un{t:Tree}{dE:Int->Nat}(h:dX t dE 0){d:Int}{n m:Node}{s:Bytes}{e:gM}(hd:find t.ae d=some n)(he:gv n.bc s=some e)(hm:find t.ae e.ar=some m)(hm0:m.bc=[]):dX ⟨fp (dv t.ae d s) e.ar,t.next,t.ak⟩ dE 0:=by
 have hem:=(jW he).1;have hl:=h.left hd he;refine hl.unnamed (n:=m) ?_ hm0 (h.Cu _ _ e hd hem).2.2.1;simp only;rw[kL h.lI.mj hd,aP (h.w9 hd hem)];exact hm
def abh{t:Tree}{dE:Int->Nat}(h:dX t dE 0)(ar:Int)(s:Bytes):dX (BC t ar s).1 dE 0:=by
 unfold BC;split
 ·exact h
 ·rename_i hl;obtain⟨d,e,d1,d2,d3,d4,d5⟩:=look_ok (by simpa using hl)
  rw[d5];split
  ·exact h
  ·rename_i h0;obtain⟨_,_,_,_,m,hm,_⟩:=h.Cu _ _ e d1 (jW d4).1;simp only[bl,hm,bj,bh] at h0;exact h.un d1 d4 hm (dQ.1 aH)
def Wy{t:Tree}{dE:Int->Nat}(h:dX t dE 0)(ar:Int)(data:Bytes):dX (rO t ar data).1 dE 0:=by
 unfold rO;split
 ·exact h
 ·rename_i hf;split
  ·exact h
  ·rename_i hk;split
   ·exact h
   ·rename_i hd;cases hi:find t.ae ar with
    |none=>simp[hi] at hf
    |some n =>
     simp only[bl,hi,bj] at hk ⊢
     have hk1:n.kind=1:=by
      rcases h.kind _ _ hi with h1|h1
      ·exact h1
      ·simp[h1] at hk
     simp only[bh] at hd
     exact h.RE (n':={ n with data:=data }) (x':=0) hi hk1 (cG hi).2 hk1 rfl rfl (by simp only; omega) (fun i h0=>by
      simp only;rw[aP (show i≠0 by omega)]
      split<;>omega)
def Fz{t:Tree}{dE:Int->Nat}(h:dX t dE 0)(ar:Int):dX (kC t ar).1 dE 0:=by
 unfold kC;split
 ·exact h
 ·rename_i hf;split
  ·exact h
  ·rename_i hk;split
   ·exact h
   ·rename_i hd;cases hi:find t.ae ar with
    |none=>simp[hi] at hf
    |some n =>
     simp only[bl,hi,bj] at hk hd
     have hk1:n.kind=1:=by
      rcases h.kind _ _ hi with h1|h1
      ·exact h1
      ·simp[h1] at hk
     simp only[bh] at hd;have hl:=h.ep _ _ hi;rw[aP (by have:=(h.num _ _ hi).1; omega)] at hl
     refine h.drop (.inr rfl) hi (h.file _ _ hi hk1).1 ?_ aH;intro hh; subst hh;obtain⟨r,r1,r2,_⟩:=h.root;rw[hi] at r1; cases r1; omega
def Mn:∀ {a b:List Node},oS a->oS b->(∀m,m∈a↔m∈b)->a=b
 | [],[],_,_,_=>rfl
 | [],y::b,_,_,h=>by have:=(h y).2 bD; cases this
 |x::a,[],_,_,h=>by have:=(h x).1 bD; cases this
 |x::a,y::b,ha,hb,h=>by
  obtain⟨a1,a2⟩:=dq.1 ha;obtain⟨b1,b2⟩:=dq.1 hb
  have hxy:x=y:=by
   rcases bJ.1 ((h x).1 bD) with h1|h1
   ·exact h1
   ·rcases bJ.1 ((h y).2 bD) with h2|h2
    ·exact h2.symm
    ·have:=b1 x h1; have:=a1 y h2; omega
  subst hxy;rw[Mn a2 b2 (fun m=>?_)]
  constructor
  ·intro hm;rcases bJ.1 ((h m).1 (bw _ hm)) with h1|h1
   ·subst h1; have:=a1 m hm; omega
   ·exact h1
  ·intro hm;rcases bJ.1 ((h m).2 (bw _ hm)) with h1|h1
   ·subst h1; have:=b1 m hm; omega
   ·exact h1
def RJ{a b:List Node}(ha:oS a)(hb:oS b)(h:∀i,find a i=find b i):a=b :=
 Mn ha hb fun m=>by
  constructor
  ·intro hm;have:=(ij ha).2 ⟨hm,rfl⟩;rw[h] at this;exact(cG this).1
  ·intro hm;have:=(ij hb).2 ⟨hm,rfl⟩;rw[<-h] at this;exact(cG this).1
def Am{ae:List Node}(h:oS ae)(k:Int):oS (fp ae k):=by
 unfold fp;split
 ·exact rK h _
 ·exact lJ h _
def r9{ae:List Node}(h:oS ae)(k:Int)(s:Bytes):oS (dv ae k s):=lJ h _
def Ng(n:Node):Option Node:=if n.kind==2 then none else some { n with ep:=nq (n.ep-1) }
def uY{ae:List Node}(h:oS ae){k:Int}{n:Node}(hk:find ae k=some n)(i:Int):find (fp ae k) i=if i=k then Ng n else find ae i:=by
 unfold fp Ng;simp only[bl,hk,bj];split
 ·rw[mh h]
 ·rw[gq h];simp only[(cG hk).2]
def K3(l:List gM)(a b:Bytes):jF (jF l a) b=jF (jF l b) a:=by
 simp only[jF,List.filter_filter];congr 1;funext e;rw[Bool.and_comm]
def Xo{ae:List Node}(h:oS ae){f to y:Int}{s nm:Bytes}{dF dT m:Node}(hF:find ae f=some dF)(hT:find ae to=some dT)(hy:find ae y=some m)(h1:y≠f)(h2:y≠to) :
  fp (dv (dv ae f s) to nm) y=dv (fp (dv ae to nm) y) f s:=by
 have a1:=r9 h f s;have a2:=r9 h to nm;have a3:=r9 a1 to nm;have a4:=Am a2 y;have f1:=kL h hF (s:=s);have f2:=kL h hT (s:=nm);have hy1:find (dv ae to nm) y=some m:=by rw[f2,aP h2]; exact hy
 have f4:=uY a2 hy1;obtain⟨dT',hT'⟩:∃dT',find (dv ae f s) to=some dT':=by rw[f1]; split<;>simp_all
 have f3:=kL a1 hT' (s:=nm);have hy3:find (dv (dv ae f s) to nm) y=some m:=by rw[f3,aP h2,f1,aP h1]; exact hy
 have f5:=uY a3 hy3;obtain⟨dF',hF'⟩:∃dF',find (fp (dv ae to nm) y) f=some dF':=by rw[f4,aP (fun hh=>h1 hh.symm),f2]; split<;>simp_all
 have f6:=kL a4 hF' (s:=s);refine RJ (Am a3 y) (r9 a4 f s) (fun i=>?_)
 rw[f5,f6,f4,f3];rw[f1] at hT';rw[f4,aP (fun hh=>h1 hh.symm),f2] at hF'
 by_cases i1:i=y
 ·subst i1; simp[h1]
 ·simp only[i1,↓reduceIte]
  by_cases i2:i=to
  ·subst i2;simp only[↓reduceIte]
   by_cases i3:i=f
   ·subst i3;simp only[↓reduceIte] at hT' hF' ⊢;injection hT' with hT'; injection hF' with hF'
    rw[<-hT',<-hF'];rw[hF] at hT; cases hT;simp only[K3]
   ·simp only[i3,↓reduceIte] at hT' ⊢;rw[f2]; simp only[↓reduceIte];rw[hT] at hT'; injection hT' with hT'; rw[hT']
  ·simp only[i2,↓reduceIte];rw[f1,f2]
   by_cases i3:i=f
   ·subst i3;simp only[↓reduceIte,i2] at hF' ⊢;rw[hF] at hF'; injection hF' with hF'; rw[hF']
   ·simp only[i3,i2,↓reduceIte]
def Ip{l:List gM}{s:Bytes}{e:gM}(h:gv l s=some e):(jF l s).length<l.length:=by
 obtain⟨h1,h2⟩:=jW h;refine Nat.lt_of_le_of_ne (bU _ _) fun hh=>?_
 have:=List.length_filter_eq_length_iff.1 hh e h1;simp[h2] at this
def dX.adv{t:Tree}{dE dep':Int->Nat}{f to:Int}{s nm:Bytes}{dF dT m:Node}{e:gM}(h:dX t dE 0)(hF:find t.ae f=some dF)(he:gv dF.bc s=some e)(hT:find t.ae to=some dT)(hTk:dT.kind=2)(hfree:gv dT.bc nm=none)(hroom:to≠f->dT.bc.length<64)(hnm:Nm nm)
  (hm:find t.ae e.ar=some m) (hne:e.ar≠to) (hd12:dep' to<12) (hck:t.ak<1099511627776)
  (hcase:(m.kind=1/\dep'=dE)\/(m.kind=2/\dep' 1=0/\(∀i n,find t.ae i=some n->n.kind=2->i≠1->i≠e.ar->dep' i=dep' n.up+1)/\dep' e.ar=dep' to+1 /\
   ∀i n,find t.ae i=some n->n.kind=2->dep' i<=12/\(dep' i=12->n.bc=[]))):dX (tc t f s to nm e.ar 0) dep' 0:=by
 have hem:=(jW he).1;have hnf:e.ar≠f:=h.w9 hF hem;have h1:e.ar≠1:=(h.Cu _ _ e hF hem).2.2.1;have hl:=h.left hF he;have fl:=kL h.lI.mj hF (s:=s);have hmx:find (dv t.ae f s) e.ar=some m:=by rw[fl,aP hnf]; exact hm
 obtain⟨d1,g1,g2,g3,g4⟩:∃d1,find (dv t.ae f s) to=some d1/\d1.kind=2/\gv d1.bc nm=none/\d1.bc.length<64:=by
  rw[fl];split
  ·rename_i hh;subst hh;rw[hF] at hT; cases hT;exact⟨_,rfl,hTk,vt hfree,bz (Ip he) (h.RD hF)⟩
  ·rename_i hh;exact⟨dT,hT,hTk,hfree,hroom hh⟩
 have hnode:bl t.ae e.ar=m:=by simp[bl,hm]
 unfold tc;simp only[hnode,aw,af,↓reduceIte];rcases hcase with ⟨hk,rfl⟩|⟨hk,c1,c2,c3,c4⟩
 ·rw[aP (by simp[hk])]
  exact hl.nH g1 g2 g3 g4 hnm hmx h1 (fun h2=>aH) hd12 hck
 ·rw[aW (by simp[hk])]
  have hs:=hl.anH (dep':=dep') hmx hk h1 g1 g2 c1 (fun i n hi hk2 hi1 hie=>by
    simp only[fl] at hi;split at hi
    ·rename_i hh; subst hh;cases hi;exact c2 i dF hF hk2 hi1 hie
    ·exact c2 _ _ hi hk2 hi1 hie) c3 (fun i n hi hk2=>by
    simp only[fl] at hi;split at hi
    ·rename_i hh; subst hh;cases hi;obtain⟨q1,q2⟩:=c4 i dF hF hk2;exact⟨q1,fun h12=>by simp[q2 h12,jF]⟩
    ·exact c4 _ _ hi hk2)
  have hmi:m.ar=e.ar:=(cG hm).2;have fw:=gq (r9 h.lI.mj f s) { m with up:=to }
  refine hs.nH (n:=d1) (m:={ m with up:=to }) ?_ g2 g3 g4 hnm ?_ h1 (fun _=>rfl) hd12 hck
  ·simp only;rw[fw];rw[aP (show ¬to=m.ar from fun hh=>hne aH)]
   exact g1
  ·simp only;rw[fw];simp only[hmi,↓reduceIte]
def uZ(ae:List Node)(at' d:Int)(n:Node):Int :=
 if decide ((0:Int)<n.bc.length) then nq (nq (nq (at'+pM ae n.ar)-d)+1) else nq (nq (at'+pM ae n.ar)-d)
def I1(ae:List Node)(ar at' d:Int)(n:Node)(dS:Int):dS<=sC ae ar at' d n dS/\((n.kind==2&&iM ae n.ar ar)=true->uZ ae at' d n<=sC ae ar at' d n dS):=by
 have e:sC ae ar at' d n dS=if n.kind==2&&iM ae n.ar ar then (if uZ ae at' d n>dS then uZ ae at' d n else dS) else dS:=rfl
 rw[e];split
 ·split
  ·exact⟨aH,fun _=>dP _⟩
  ·exact⟨dP _,fun _=>aH⟩
 ·rename_i h; exact⟨dP _,fun hh=>absurd hh h⟩
def AW(ae:List Node)(ar at' d:Int):∀(l:List Node)(dS:Int),dS<=vY ae ar at' d l dS/\∀n,n∈l->(n.kind==2&&iM ae n.ar ar)=true->uZ ae at' d n<=vY ae ar at' d l dS
 | [],dS=>⟨dP _,fun n hn=>by cases hn⟩
 |m::l,dS=>by
  obtain⟨h1,h2⟩:=AW ae ar at' d l (sC ae ar at' d m dS);obtain⟨h3,h4⟩:=I1 ae ar at' d m dS;rw[vY];refine⟨aH,fun n hn hb=>?_⟩
  rcases bJ.1 hn with rfl|hn
  ·have:=h4 hb; omega
  ·exact h2 n hn hb
def rF(ae:List Node)(dE:Int->Nat)(x to:Int):Int->Nat:=fun i=>if iM ae i x then dE i+(dE to+1)-dE x else dE i
def dX.FH{t:Tree}{dE:Int->Nat}(h:dX t dE 0){x to i:Int}{m n:Node}(hx:find t.ae x=some m)(hk:m.kind=2)(hd:dE to<12)(hi:find t.ae i=some n)(hk2:n.kind=2)(hb:iM t.ae i x=true) :
  uZ t.ae (((dE to+1:Nat):Int)) (dE x) n=((rF t.ae dE x to i+(if 0<n.bc.length then 1 else 0):Nat):Int):=by
 have d1:=(h.deep _ _ hi hk2).1;have d2:=(h.deep _ _ hx hk).1;have d3:=h.Ay _ i n hi hk2 rfl hb;have hdn:pM t.ae n.ar=dE i:=by rw[h.ar hi]; exact h.p8 hi hk2
 have w1:nq ((((dE to+1:Nat):Int))+(dE i:Nat))=(((dE to+1:Nat):Int))+(dE i:Nat):=gW aH aH;have w2:nq ((((dE to+1:Nat):Int))+(dE i:Nat)-(dE x:Nat))=(((dE to+1:Nat):Int))+(dE i:Nat)-(dE x:Nat):=gW aH aH;have w3:nq ((((dE to+1:Nat):Int))+(dE i:Nat)-(dE x:Nat)+1)=(((dE to+1:Nat):Int))+(dE i:Nat)-(dE x:Nat)+1:=gW aH aH;unfold uZ rF;rw[aW hb,hdn,w1,w2,w3]
 by_cases hl:0<n.bc.length
 ·rw[aW (by simpa using hl),aW hl]; omega
 ·rw[aP (by simpa using hl),aP hl]; omega
def dX.ahv{t:Tree}{dE:Int->Nat}(h:dX t dE 0){x to:Int}{m dT:Node}(hx:find t.ae x=some m)(hk:m.kind=2)(hx1:x≠1)(hT:find t.ae to=some dT)(hTk:dT.kind=2)(hnb:iM t.ae to x=false)(hd:dE to<12)
  (hh:BX t.ae x (((dE to+1:Nat):Int))<=12) :
  rF t.ae dE x to 1=0/\(∀i n,find t.ae i=some n->n.kind=2->i≠1->i≠x->rF t.ae dE x to i=rF t.ae dE x to n.up+1)/\rF t.ae dE x to x=rF t.ae dE x to to+1 /\
   (∀i n,find t.ae i=some n->n.kind=2->rF t.ae dE x to i<=12/\(rF t.ae dE x to i=12->n.bc=[]))/\rF t.ae dE x to to=dE to:=by
 have hto:rF t.ae dE x to to=dE to:=by unfold rF; rw[aP (by simp[hnb])]
 refine⟨?_,?_,?_,?_,hto⟩
 ·unfold rF;rw[aP (by simp[dX.qK hx1])]
  exact h.Ct
 ·intro i n hi hk2 hi1 hix;obtain⟨a,p,b,c⟩:=h.qE _ _ hi hk2 hi1;have hb:=h.sr hi hk2 hi1 hix;unfold rF;rw[hb];split
  ·rename_i hb2;have:=h.Ay _ _ p b c rfl hb2;omega
  ·exact a
 ·rw[hto];unfold rF;rw[aW (dX.oL x)];omega
 ·intro i n hi hk2
  by_cases hb:iM t.ae i x=true
  ·have h1:=(AW t.ae x (((dE to+1:Nat):Int)) (pM t.ae x) t.ae 0).2 n (cG hi).1 (by rw[hk2,h.ar hi,hb]; rfl)
   rw[h.p8 hx hk,h.FH hx hk hd hi hk2 hb] at h1;unfold BX at hh;rw[h.p8 hx hk] at hh;have h2:=Int.le_trans h1 hh;split at h2
   ·rename_i hl;exact⟨aH,fun h12=>aH⟩
   ·rename_i hl;exact⟨aH,fun _=>dQ.1 aH⟩
  ·have:rF t.ae dE x to i=dE i:=by unfold rF; rw[aP hb]
   rw[this];exact h.deep _ _ hi hk2
def Dw{l:List gM}{s r:Bytes}(h:r≠s):gv (jF l s) r=gv l r:=by
 unfold gv jF;rw[List.find?_filter];congr 1;funext e
 by_cases he:e.name=r
 ·have hn:e.name≠s:=he▸h;simp[he,h]
 ·simp[he]
structure air(t:Tree)(dE:Int->Nat)(f:Int)(s:Bytes)(to:Int)(nm:Bytes)(dF dT m:Node)(e:gM):Prop where
 hF:find t.ae f=some dF
 kF:dF.kind=2
 he:gv dF.bc s=some e
 hT:find t.ae to=some dT
 kT:dT.kind=2
 hn:fY nm=true
 hm:find t.ae e.ar=some m
 ne:e.ar≠to
 nf:e.ar≠f
 loop:m.kind=2->iM t.ae to e.ar=false
 deep:dE to<12
 high:m.kind=2->BX t.ae e.ar (((dE to+1:Nat):Int))<=12
 ak:t.ak<1099511627776
 room:gv dT.bc nm=none->to≠f->dT.bc.length<64
 atD:∀e2,gv dT.bc nm=some e2->e2.ar≠e.ar/\∃y,find t.ae e2.ar=some y/\y.bc=[]/\(m.kind=2↔y.kind=2)/\e2.ar≠f/\e2.ar≠to
def dX.mv{t:Tree}{dE:Int->Nat}(h:dX t dE 0){f:Int}{s:Bytes}{to:Int}{nm:Bytes}{dF dT m:Node}{e:gM}(hs:fY nm=true->Nm nm)(k:air t dE f s to nm dF dT m e):∃dep',dX (tc t f s to nm e.ar (jg dT.bc nm)) dep' 0:=by
 have hem:=(jW k.he).1;have hx1:=(h.Cu _ _ e k.hF hem).2.2.1
 have hcase:∃dep':Int->Nat,dep' to<12/\((m.kind=1/\dep'=dE)\/(m.kind=2/\dep' 1=0/\(∀i n,find t.ae i=some n->n.kind=2->i≠1->i≠e.ar->dep' i=dep' n.up+1)/\dep' e.ar=dep' to+1 /\
   ∀i n,find t.ae i=some n->n.kind=2->dep' i<=12/\(dep' i=12->n.bc=[]))):=by
  rcases h.kind _ _ k.hm with hk|hk
  ·exact⟨dE,k.deep,.inl ⟨hk,rfl⟩⟩
  ·obtain⟨c1,c2,c3,c4,c5⟩:=h.ahv k.hm hk hx1 k.hT k.kT (k.loop hk) k.deep (k.high hk);exact⟨rF t.ae dE e.ar to,by rw[c5]; exact k.deep,.inr ⟨hk,c1,c2,c3,c4⟩⟩
 obtain⟨dep',hd12,hcase⟩:=hcase;refine⟨dep',?_⟩;cases hfr:gv dT.bc nm with
 |none =>
  have hu:jg dT.bc nm=0:=by simp[jg,hfr]
  rw[hu];exact h.adv k.hF k.he k.hT k.kT hfr (k.room hfr) (hs k.hn) k.hm k.ne hd12 k.ak hcase
 |some e2 =>
  have hu:jg dT.bc nm=e2.ar:=by simp[jg,hfr]
  rw[hu];obtain⟨q1,y,q2,q3,q4,q5,q6⟩:=k.atD e2 hfr;have h1:=h.un k.hT hfr q2 q3;have a2:=r9 h.lI.mj to nm;have f2:=kL h.lI.mj k.hT (s:=nm);have hy1:find (dv t.ae to nm) e2.ar=some y:=by rw[f2,aP q6]; exact q2
  have f4:∀i,find (fp (dv t.ae to nm) e2.ar) i=if i=e2.ar then Ng y else if i=to then some { dT with bc:=jF dT.bc nm } else find t.ae i:=by
   intro i;rw[uY a2 hy1,f2]
  have hnn:bl (fp (dv t.ae to nm) e2.ar) e.ar=bl t.ae e.ar:=by
   simp only[bl];rw[f4,aP (fun hh=>q1 hh.symm),aP k.ne]
  have hy0:=(h.num _ _ q2).1
  have hmv:tc t f s to nm e.ar e2.ar=tc ⟨fp (dv t.ae to nm) e2.ar,t.next,t.ak⟩ f s to nm e.ar 0:=by
   unfold tc;simp only[hnn];rw[Xo h.lI.mj k.hF k.hT q2 q5 q6];have e1:(e2.ar != 0)=true:=gh;simp only[e1,aw,af,↓reduceIte]
  rw[hmv]
  have hsn:to=f->s≠nm:=fun hh hsn=>by
   subst hh; subst hsn;have:=k.hF; rw[k.hT] at this; cases this;have:=k.he; rw[hfr] at this; cases this;exact q1 rfl
  obtain⟨dF',g1,g2⟩:∃dF',find (fp (dv t.ae to nm) e2.ar) f=some dF'/\gv dF'.bc s=some e:=by
   rw[f4,aP (fun hh=>q5 hh.symm)]
   split
   ·rename_i hh;refine⟨_,rfl,?_⟩;rw[Dw (hsn hh.symm)];subst hh;have:=k.hF; rw[k.hT] at this; cases this;exact k.he
   ·exact⟨dF,k.hF,k.he⟩
  have back:∀i n,find (fp (dv t.ae to nm) e2.ar) i=some n->n.kind=2->∃n0,find t.ae i=some n0/\n0.kind=2/\n0.up=n.up/\(n0.bc=[]->n.bc=[]):=by
   intro i n hi hk;rw[f4] at hi;split at hi
   ·unfold Ng at hi;split at hi
    ·cases hi
    ·rename_i hh;cases hi;simp only at hk;simp[hk] at hh
   ·split at hi
    ·rename_i hh; subst hh;cases hi;exact⟨dT,k.hT,hk,rfl,fun h0=>by simp[h0,jF]⟩
    ·exact⟨n,hi,hk,rfl,fun h0=>h0⟩
  refine h1.adv (dep':=dep') g1 g2 (dT:={ dT with bc:=jF dT.bc nm }) ?_ k.kT (BU _ _) (fun _=>bz (Ip hfr) (h.RD k.hT)) (hs k.hn) (m:=m) ?_ k.ne hd12 k.ak ?_
  ·simp only; rw[f4,aP (fun hh=>q6 hh.symm),aW rfl]
  ·simp only; rw[f4,aP (fun hh=>q1 hh.symm),aP k.ne]; exact k.hm
  ·rcases hcase with hc|⟨hk,c1,c2,c3,c4⟩
   ·exact .inl hc
   ·refine .inr ⟨hk,c1,?_,c3,?_⟩
    ·intro i n hi hk2 hi1 hie;obtain⟨n0,b1,b2,b3,_⟩:=back i n hi hk2;rw[<-b3]; exact c2 i n0 b1 b2 hi1 hie
    ·intro i n hi hk2;obtain⟨n0,b1,b2,_,b4⟩:=back i n hi hk2;exact⟨(c4 i n0 b1 b2).1,fun h12=>b4 ((c4 i n0 b1 b2).2 h12)⟩
def dX.zero{t:Tree}{dE:Int->Nat}{x:Int}(h:dX t dE x):find t.ae 0=none:=by
 cases hz:find t.ae 0 with
 |none=>rfl
 |some m=>have:=h.num _ _ hz; omega
def PD{t:Tree}{dE:Int->Nat}(h:dX t dE 0)(f:Int)(s:Bytes)(to:Int)(nm:Bytes) :
  ((wM t f s to nm).1=t/\(wM t f s to nm).2.1=0/\(wM t f s to nm).2.2≠0) \/
  (wM t f s to nm=(t,0,0)/\∃dF dT e e2,find t.ae f=some dF/\dF.kind=2/\fY s=true/\gv dF.bc s=some e/\fh t.ae f s=(e.ar,0)/\find t.ae to=some dT/\dT.kind=2/\fY nm=true/\gv dT.bc nm=some e2/\e2.ar=e.ar) \/
  ∃dF dT m e,air t dE f s to nm dF dT m e/\fY s=true/\fh t.ae f s=(e.ar,0)/\wM t f s to nm=(tc t f s to nm e.ar (jg dT.bc nm),jg dT.bc nm,0):=by
 unfold wM;split
 ·rename_i c1; exact .inl ⟨rfl,rfl,by simpa using c1⟩
 rename_i c1;split
 ·rename_i c2; exact .inl ⟨rfl,rfl,by simpa using c2⟩
 rename_i c2;split
 ·exact .inl ⟨rfl,rfl,dw⟩
 rename_i c3;obtain⟨dF,e,e1,e2,e3,e4,e5⟩:=look_ok (by simpa using c1)
 obtain⟨dT,g1,g2,g3⟩:=yR (show(gY t.ae to).2=0 by simpa using c2)
 have hem:=(jW e4).1;obtain⟨_,_,x1,_,m,hm,hup⟩:=h.Cu _ _ e e1 hem;have hnode:bl t.ae e.ar=m:=by simp[bl,hm]
 simp only[e5,g3,hnode];split
 ·rename_i c4;right; left;refine⟨rfl,dF,dT,e,?_⟩;have c4':jg dT.bc nm=e.ar:=by simpa using c4
  cases hfr:gv dT.bc nm with
  |none=>simp only[jg,hfr] at c4'; have:=(h.num _ _ hm).1; omega
  |some e2'=>simp only[jg,hfr] at c4'; exact⟨e2',e1,e2,e3,e4,rfl,g1,g2,by simpa using c3,rfl,c4'⟩
 rename_i c4;split
 ·exact .inl ⟨rfl,rfl,dw⟩
 rename_i c5;split
 ·rename_i c6; exact .inl ⟨rfl,rfl,by simpa using c6⟩
 rename_i c6;split
 ·exact .inl ⟨rfl,rfl,dw⟩
 rename_i c7;right; right;have hdt:=h.p8 g1 g2;simp only[manyN,hdt,cU,bu,dZ,bh,o4,not_and,nv] at c7;obtain⟨r1,r2,r3,r4⟩:=c7
 have hw:nq (((dE to:Nat):Int)+1)=((dE to+1:Nat):Int):=by
  have:=(h.deep _ _ g1 g2).1;rw[show(((dE to:Nat):Int)+1)=((dE to+1:Nat):Int) by omega]
  exact gW aH aH
 rw[hw] at r3;have hnf:=h.w9 e1 hem
 have hne:e.ar≠to:=fun hh=>by
  rw[hh,g1] at hm; cases hm;simp only[g2,lU,cH] at c5;rw[hh,dX.oL] at c5;exact c5 rfl
 refine⟨dF,dT,m,e,⟨e1,e2,e4,g1,g2,by simpa using c3,hm,hne,hnf,?_,aH,?_,aH,?_,?_⟩,e3,rfl,rfl⟩
 ·intro hk;simpa[hk] using c5
 ·intro hk;have:=r3 hk; omega
 ·intro hfr hne;have hu:jg dT.bc nm=0:=by simp[jg,hfr]
  have:=r1 ⟨hu,hne⟩;omega
 ·intro e2' hfr;have hu:jg dT.bc nm=e2'.ar:=by simp[jg,hfr]
  rw[hu] at c4 c6;obtain⟨_,_,_,_,y,hy,_⟩:=h.Cu _ _ e2' g1 (jW hfr).1;have hny:bl t.ae e2'.ar=y:=by simp[bl,hy]
  have hto:=h.w9 g1 (jW hfr).1;simp only[uW,hy,bX,ct,af,↓reduceIte,hny,nv,ne_eq,Decidable.not_not] at c6;split at c6
  ·cases c6
  ·rename_i k1;split at c6
   ·cases c6
   ·rename_i k2;split at c6
    ·cases c6
    ·rename_i k3;have hy0:y.bc=[]:=dQ.1 (by simpa using k3)
     refine⟨by simpa using c4,y,hy,hy0,?_,?_,hto⟩
     ·simp at k1 k2;constructor
      ·exact k1
      ·intro hy2;rcases h.kind _ _ hm with hk|hk
       ·exact absurd hy2 (k2 aH)
       ·exact hk
     ·intro hh;rw[hh,e1] at hy; cases hy;rw[hy0] at hem; cases hem
def aay{t:Tree}{dE:Int->Nat}(h:dX t dE 0)(f:Int)(s:Bytes)(to:Int)(nm:Bytes)(hs:fY nm=true->Nm nm):∃dep',dX (wM t f s to nm).1 dep' 0:=by
 rcases PD h f s to nm with ⟨h1,_⟩|⟨h1,_⟩|⟨dF,dT,m,e,k,_,_,hk⟩
 ·rw[h1]; exact⟨dE,h⟩
 ·rw[h1]; exact⟨dE,h⟩
 ·rw[hk]; exact h.mv hs k
def VW:dX wJ (fun _=>0) 0:=by
 have hf:∀i n,find wJ.ae i=some n->i=1/\n=⟨1,2,0,[],[],1⟩:=by
  intro i n hi;obtain⟨h1,h2⟩:=cG hi;simp[wJ] at h1;subst h1;exact⟨h2.symm,rfl⟩
 refine⟨⟨?_,?_⟩,⟨_,rfl,rfl,rfl⟩,?_,?_,?_,?_,?_,?_,?_,?_,rfl,?_,?_,by simp[wJ],by simp[wJ],by simp[wJ]⟩
 ·simp[wJ,oS]
 ·intro n hn; simp[wJ] at hn; subst hn; exact List.Pairwise.nil
 ·intro i n hi; obtain⟨rfl,rfl⟩:=hf i n hi; simp[wJ]
 ·intro i n hi; obtain⟨rfl,rfl⟩:=hf i n hi; simp
 ·intro i n hi; obtain⟨rfl,rfl⟩:=hf i n hi; simp
 ·intro i n hi; obtain⟨rfl,rfl⟩:=hf i n hi; simp
 ·intro i n e hi he; obtain⟨rfl,rfl⟩:=hf i n hi; cases he
 ·intro i n hi; obtain⟨rfl,rfl⟩:=hf i n hi; exact⟨List.Pairwise.nil,dw⟩
 ·intro i n hi; obtain⟨rfl,rfl⟩:=hf i n hi; simp[wJ,uH,rj]
 ·intro i n hi _ h1; exact absurd (hf i n hi).1 h1
 ·intro i n hi _ h1; exact absurd (hf i n hi).1 h1
 ·intro i n hi; obtain⟨rfl,rfl⟩:=hf i n hi; simp
section
attribute [local irreducible] eX fJ lj gK dY kr aq aR cp bI
def vm:∀(d:Bytes),bytesOf (d.map qW)=some d
 | []=>rfl
 |b::d=>by
  rw[aK]
  show bI (bytesOf (d.map qW)) (fun l=>some (UInt8.ofNat ((b.toNat:Int)).toNat::l))=some (b::d)
  rw[vm d,bO];simp
def apB(a b:Bytes):aq cd 112 [c8 a,c8 b] []=some (.bool (a==b),[]):=by
 refine aB ?_;simp only[abR,aoi,vm,EN,seval]
def ar1 a b:=cP (apB a b)
def arH(x y:gM):decide (x=y)=(x.name==y.name&&(x.ar==y.ar&&(x.ak==y.ak&&true))):=by
 cases x; cases y;simp only[gM.mk.injEq,gb];rw[cu];simp
def Ru(x y:gM):kU [.s,.i,.i] (fU x) (fU y)=some (decide (x=y)):=by
 rw[arH];simp only[fU,kU,km,bO,↓reduceIte]
def aiv(x:gM):(fU x).all ag.jf=true:=rfl
def akq(a b:List gM)(ha:a.length<=100000):aq cd 113 [jb a,jb b] []=some (.bool (decide (a=b)),[]) :=
 DA (sz:=3) (e:=iH) (ld := .mL 3) (ne := .Qs [.s,.i,.i] true) fA rfl ha (fun _=>rfl) (fun _=>rfl) (fun _=>rfl) (fun _ _ _ _ h=>by simp only[ef,fZ.ev,h]; rfl) (fun _ _ _ _ _ _ h h'=>by simp only[ef,fZ.ev,h,h',iH,Ru,bO])
def ar2 a b ha:=cP (akq a b ha)
def adw(x y:Node):decide (x=y)=(x.ar==y.ar&&(x.kind==y.kind&&(x.ep==y.ep&&(x.up==y.up&&(x.data==y.data&&decide (x.bc=y.bc)))))):=by
 cases x; cases y;simp only[Node.mk.injEq];rw[cu];simp only[bh,bu,dZ];constructor
 ·rintro⟨h1,h2,h3,h4,h5,h6⟩; exact⟨h1,h2,h3,h6,h4,h5⟩
 ·rintro⟨h1,h2,h3,h6,h4,h5⟩; exact⟨h1,h2,h3,h4,h5,h6⟩
def apA(x y:Node)(hx:x.bc.length<=100000):aq cd 111 [.agg (aL x),.agg (aL y)] []=some (.bool (decide (x=y)),[]):=by
 rw[adw];refine aB ?_;simp only[abQ,ah4,bK,aL,EN,seval]
 repeat' ((first|apply bA|apply bW|apply dK)<;>intro hb<;>simp only[hb,EN,ah4,ar1,ar2,hx,seval])
 all_goals simp_all only[qx,↓reduceIte,reduceCtorEq,aw]
def ar0 x y hx:=cP (apA x y hx)
def apC(a b:List Node)(ha:a.length<=100000)(he:∀n,n∈a->n.bc.length<=100000):aq cd 114 [ba a,ba b,.func 111 []] []=some (.bool (decide (a=b)),[]) :=
 ado (sz:=6) (e:=aL) (z:=[aF 0,aF 0,aF 0,.slice .c0 [],.slice .c0 [],aF 0]) fA rfl ha (fun _=>rfl) rfl (fun _=>rfl) (fun _=>rfl) fun x y M h=>ar0 x y (he x h) M
def ar3 a b ha he:=cP (apC a b ha he)
def anL(x y:Tree):decide (x=y)=(x.next==y.next&&(x.ak==y.ak&&decide (x.ae=y.ae))):=by
 cases x; cases y;simp only[Tree.mk.injEq];rw[cu];simp only[bh,bu,dZ];constructor
 ·rintro⟨h1,h2,h3⟩; exact⟨h2,h3,h1⟩
 ·rintro⟨h2,h3,h1⟩; exact⟨h1,h2,h3⟩
def c56(a b:Tree)(ha:Small a):aq cd 56 [br a,br b] []=some (.bool (decide (a=b)),[]):=by
 rw[anL];have h1:=ha.ae;have h2:=ha.bc;refine aB ?_;simp only[alu,E56,br,aM,EN,seval]
 repeat' ((first|apply bA|apply bW|apply dK)<;>intro hb<;>simp only[hb,EN,E56,ar3 _ _ h1 h2,seval])
 all_goals simp_all only[qx,↓reduceIte,reduceCtorEq,aw]
def dX.ju{t:Tree}{dE:Int->Nat}{x:Int}(h:dX t dE x):∀m,m∈t.ae->m.ar<t.next:=fun m hm=>(h.num _ _ ((ij h.lI.mj).2 ⟨hm,rfl⟩)).2
end
def dX.EH{t:Tree}{dE:Int->Nat}{x:Int}(h:dX t dE x){i:Int}{n:Node}(hi:find t.ae i=some n)(hk:n.kind=2):sq t.ae i=dE i:=by
 simp only[sq,h.uv hi hk]; omega
def dX.Qe{t:Tree}{dE:Int->Nat}{x:Int}(h:dX t dE x)(of:Int):∀(m:Nat)(i:Int)(out:List Int)(n:Node),find t.ae i=some n->n.kind=2->dE i<=m->out.contains i=true->(uu t.ae m i out).contains of=(out.contains of||nc t.ae of (m+1) i):=by
 intro m;induction m with
 |zero =>
  intro i out n hi hk hd ho;simp only[uu,nc]
  by_cases h1:i=of
  ·subst h1; rw[ho]; rfl
  ·simp[h1]
 |succ m ih =>
  intro i out n hi hk hd ho;simp only[uu];rw[nc]
  by_cases h1:i=1
  ·by_cases h2:i=of
   ·subst h2; simp[h1] at ho ⊢; exact ho
   ·simp[h1,h2];intro h3; exact absurd (h1.trans h3) h2
  ·obtain⟨a,p,b,c⟩:=h.qE _ _ hi hk h1;simp only[nv,ne_eq,h1,not_false_eq_true,↓reduceIte,bl,hi,bX,ct,bj,hk,aw,fH,af];rw[ih _ _ p b c aH dw,h.Xr hi]
   by_cases h2:i=of
   ·subst h2;have:(out++[n.up]).contains i=true:=by simp at ho ⊢; exact .inl ho
    rw[this,ho]; simp
   ·rw[aP h2]
    by_cases h3:n.up=of
    ·have:nc t.ae of (m+1) n.up=true:=by simp[nc,h3]
     rw[this]; simp
    ·have:(out++[n.up]).contains of=out.contains of:=by
      simp;intro hh; exact absurd hh.symm h3
     rw[this]
def dX.yA{t:Tree}{dE:Int->Nat}{x:Int}(h:dX t dE x)(of:Int){i:Int}{n:Node}(hi:find t.ae i=some n)(hk:n.kind=2):(uC t.ae i).contains of=iM t.ae i of:=by
 have:=h.Qe of t.ae.length i [i] n hi hk (by have:=h.Dl hi hk; omega) dw
 simp only[uC,this,iM]
 by_cases h2:i=of
 ·subst h2; simp[nc]
 ·have:([i]:List Int).contains of=false:=by simp; exact fun hh=>h2 hh.symm
  rw[this]; rfl
def dX.under{t:Tree}{dE:Int->Nat}(h:dX t dE 0){to:Int}{nm:Bytes}{dT:Node}(hT:find t.ae to=some dT):(mq t.ae dT.bc nm).ar=jg dT.bc nm:=by
 unfold mq jg;cases he:gv dT.bc nm with
 |none=>rfl
 |some e =>
  obtain⟨_,_,_,_,m,hm,_⟩:=h.Cu _ _ e hT (jW he).1;simp[bl,hm,(cG hm).2]
def VP{t:Tree}{dE:Int->Nat}(h:dX t dE 0)(dir:Int)(s:Bytes):pb t dir s=oV t dir s:=by
 unfold pb oV
 by_cases h0:(gY t.ae dir).2=0
 ·obtain⟨d,d1,d2,d3⟩:=yR h0
  have hf:Dy t d=(decide ((64:Int)<=d.bc.length)||(decide ((12:Int)<=sq t.ae dir)||decide ((1099511627776:Int)<=t.ak))):=by
   unfold Dy;rw[(cG d1).2,h.p8 d1 d2,h.EH d1 d2]
  simp only[d3,hf,aw,af,↓reduceIte,ne_eq,mZ];cases fY s<;>simp
 ·rw[aW (by simpa using h0),aW h0]
def X3{t:Tree}{dE:Int->Nat}(h:dX t dE 0)(dir:Int)(s:Bytes)(kind:Int):Ks t dir s kind=rR t dir s kind:=by
 unfold Ks rR;rw[VP h]
def agV{t:Tree}{dE:Int->Nat}(h:dX t dE 0)(ar dir:Int)(s:Bytes):lnW t ar dir s=CA t ar dir s:=by
 unfold lnW CA;rw[VP h]
def Cm{ae:List Node}{x:Int}{m:Node}(hx:find ae x=some m):kE ae m=fp ae x:=by
 unfold kE fp;simp only[bl,hx,bj,(cG hx).2]
def ahP{t:Tree}{dE:Int->Nat}(h:dX t dE 0)(dir:Int)(s:Bytes):unW t dir s=BC t dir s:=by
 unfold unW BC;split
 ·rfl
 ·rename_i hl;obtain⟨d,e,d1,d2,d3,d4,d5⟩:=look_ok (by simpa using hl)
  simp only[d5];obtain⟨_,_,_,_,m,hm,_⟩:=h.Cu _ _ e d1 (jW d4).1
  have hm':find (dv t.ae dir s) e.ar=some m:=by
   rw[kL h.lI.mj d1,aP (h.w9 d1 (jW d4).1)]; exact hm
  have hn:bl t.ae e.ar=m:=by simp[bl,hm]
  rw[hn,Cm hm']
def FI(ae:List Node)(ar at' d:Int)(b:Int):∀(l:List Node)(dS:Int),b<vY ae ar at' d l dS->b<dS\/∃n,n∈l/\(n.kind==2&&iM ae n.ar ar)=true/\b<uZ ae at' d n
 | [],dS,h => .inl h
 |m::l,dS,h=>by
  rw[vY] at h;rcases FI ae ar at' d b l _ h with h1|⟨n,h1,h2,h3⟩
  ·have e:sC ae ar at' d m dS=if m.kind==2&&iM ae m.ar ar then (if uZ ae at' d m>dS then uZ ae at' d m else dS) else dS:=rfl
   rw[e] at h1;split at h1
   ·rename_i hb;split at h1
    ·exact .inr ⟨m,bD,hb,h1⟩
    ·exact .inl h1
   ·exact .inl h1
  ·exact .inr ⟨n,bw _ h1,h2,h3⟩
def dX.Yo{t:Tree}{dE:Int->Nat}(h:dX t dE 0){x to:Int}{m:Node}(hx:find t.ae x=some m)(hk:m.kind=2)(hd:dE to<12) :
  Ik t.ae x (((dE to+1:Nat):Int))=decide ((12:Int)<BX t.ae x (((dE to+1:Nat):Int))):=by
 have key:∀n,n∈t.ae->uX t.ae (((dE to+1:Nat):Int)) ((dE x:Nat):Int) x n=((n.kind==2&&iM t.ae n.ar x)&&decide ((12:Int)<uZ t.ae (((dE to+1:Nat):Int)) ((dE x:Nat):Int) n)):=by
  intro n hn;have hi:find t.ae n.ar=some n:=(ij h.lI.mj).2 ⟨hn,rfl⟩;unfold uX
  by_cases hk2:n.kind=2
  ·rw[h.yA x hi hk2,h.uv hi hk2]
   by_cases hb:iM t.ae n.ar x=true
   ·rw[h.FH hx hk hd hi hk2 hb];have d1:=(h.deep _ _ hi hk2).1;have d2:=(h.deep _ _ hx hk).1;have d3:=h.Ay _ _ n hi hk2 rfl hb;have w1:nq ((((dE to+1:Nat):Int))+((dE n.ar+1:Nat):Int))=(((dE to+1:Nat):Int))+((dE n.ar+1:Nat):Int):=gW aH aH;have w2:nq ((((dE to+1:Nat):Int))+((dE n.ar+1:Nat):Int)-1)=(((dE to+1:Nat):Int))+((dE n.ar+1:Nat):Int)-1:=gW aH aH;have w3:nq ((((dE to+1:Nat):Int))+((dE n.ar+1:Nat):Int)-1-(dE x:Nat))=(((dE to+1:Nat):Int))+((dE n.ar+1:Nat):Int)-1-(dE x:Nat):=gW aH aH;rw[w1,w2,w3];unfold rF;rw[aW hb,hb];simp only[hk2,lU,cH];rw[cu];simp only[cU,bu,bh,dZ];split<;>omega
   ·have:iM t.ae n.ar x=false:=by simpa using hb
    simp[this]
  ·have:(n.kind==2)=false:=by simpa using hk2
   simp[this]
 have hdx:(sq t.ae x:Int)=((dE x:Nat):Int):=by rw[h.EH hx hk]
 unfold Ik BX;rw[h.p8 hx hk,hdx];rw[cu];simp only[iJ,bh];constructor
 ·rintro⟨n,hn,hp⟩;rw[key n hn] at hp;simp only[bu,bh] at hp;have:=(AW t.ae x (((dE to+1:Nat):Int)) ((dE x:Nat):Int) t.ae 0).2 n hn (by simp[hp.1.1,hp.1.2])
  omega
 ·intro hh;rcases FI t.ae x _ _ 12 t.ae 0 hh with h1|⟨n,h1,h2,h3⟩
  ·omega
  ·exact⟨n,h1,by rw[key n h1,h2]; simpa using h3⟩
def ag2{t:Tree}{dE:Int->Nat}(h:dX t dE 0)(f:Int)(s:Bytes)(to:Int)(nm:Bytes):Ns t f s to nm=wM t f s to nm:=by
 unfold Ns wM;split
 ·rfl
 rename_i c1;split
 ·rfl
 rename_i c2;split
 ·rfl
 obtain⟨dF,e,e1,e2,e3,e4,e5⟩:=look_ok (by simpa using c1)
 obtain⟨dT,g1,g2,g3⟩:=yR (show(gY t.ae to).2=0 by simpa using c2)
 have hem:=(jW e4).1;obtain⟨_,_,x1,_,m,hm,hup⟩:=h.Cu _ _ e e1 hem;have hnode:bl t.ae e.ar=m:=by simp[bl,hm]
 simp only[e5,g3,hnode,h.under g1,h.yA e.ar g1 g2];split
 ·rfl
 rename_i c4;split
 ·rfl
 rename_i c5;have hup':jg dT.bc nm≠e.ar:=by simpa using c4
 have hnf:=h.w9 e1 hem
 have hne:e.ar≠to:=fun hh=>by
  rw[hh,g1] at hm; cases hm;simp only[g2,lU,cH] at c5;rw[hh,dX.oL] at c5;exact c5 rfl
 have hmany:∀there:Bool,(jg dT.bc nm==0) = !there->D0 t f to dT.bc there m.kind e.ar=manyN t f to dT.bc m.kind (jg dT.bc nm) e.ar:=by
  intro there hth;unfold D0 manyN;rw[hth,h.uv g1 g2,h.p8 g1 g2]
  by_cases hd:dE to<12
  ·have hw:nq (((dE to:Nat):Int)+1)=((dE to+1:Nat):Int):=by
    rw[show(((dE to:Nat):Int)+1)=((dE to+1:Nat):Int) by omega]
    exact gW aH aH
   rw[hw]
   have hdd:decide ((12:Int)<((dE to+1:Nat):Int))=decide ((12:Int)<=((dE to:Nat):Int)):=by
    rw[decide_eq_decide]; omega
   rw[hdd];rcases h.kind _ _ hm with hk|hk
   ·simp[hk]
   ·rw[h.Yo hm hk hd]
  ·have h1:decide ((12:Int)<((dE to+1:Nat):Int))=true:=by rw[bh]; omega
   have h2:decide ((12:Int)<=((dE to:Nat):Int))=true:=by rw[bh]; omega
   rw[h1,h2]; simp
 cases hfr:gv dT.bc nm with
 |none =>
  have hu:jg dT.bc nm=0:=by simp[jg,hfr]
  have hm1:=hmany false (by rw[hu]; rfl)
  rw[hu] at hm1 ⊢;have hcl:uW t.ae m.kind 0=0:=by simp[uW,h.zero]
  simp only[dr,cI,af,↓reduceIte,hcl,aw,hm1];split
  ·rfl
  ·unfold yx tc;simp only[hnode,af,↓reduceIte,aw]
 |some e2 =>
  have hu:jg dT.bc nm=e2.ar:=by simp[jg,hfr]
  obtain⟨_,_,_,_,y,hy,_⟩:=h.Cu _ _ e2 g1 (jW hfr).1;have hny:bl t.ae e2.ar=y:=by simp[bl,hy]
  have hto:=h.w9 g1 (jW hfr).1;have hy0:=(h.num _ _ hy).1;have hm1:=hmany true (by rw[hu]; simp; omega)
  have hnu:mq t.ae dT.bc nm=y:=by simp[mq,hfr,hny]
  rw[hu] at hm1 ⊢
  have hcl:uW t.ae m.kind e2.ar=zX m y:=by
   unfold uW zX;simp only[hy,bX,ct,af,↓reduceIte,hny]
  rw[hnu,hcl];simp only[bX,cH,hm1];split
  ·rfl
  rename_i c6;split
  ·rfl
  have hy00:y.bc=[]:=by
   have:zX m y=0:=by simpa using c6
   unfold zX at this;split at this
   ·cases this
   split at this
   ·cases this
   split at this
   ·cases this
   ·rename_i k3; exact dQ.1 (by simpa using k3)
  have hnf2:e2.ar≠f:=fun hh=>by
   rw[hh,e1] at hy; cases hy;rw[hy00] at hem; cases hem
  have hyl:find (dv (dv t.ae f s) to nm) e2.ar=some y:=by
   have f1:=kL h.lI.mj e1 (s:=s);obtain⟨dT',hT'⟩:∃dT',find (dv t.ae f s) to=some dT':=by rw[f1]; split<;>simp_all
   rw[kL (r9 h.lI.mj f s) hT',aP hto,f1,aP hnf2];exact hy
  have hb:(e2.ar != 0)=true:=gh;unfold yx tc;simp only[hnode,↓reduceIte,hb,Cm hyl]
section
attribute [local irreducible] eX fJ lj gK dY kr aq aR cp bI
def aqN(e:gM)(z:Int):aq cd 206 [iH e,cv 0] [cA [aF z]]=some (.bool (decide (e.ak<z)),[cA [aF z]]):=by
 refine aB ?_;simp only[acJ,aoz,iH,fU,EN,seval]
def asx(e:gM)(z:Int)(p:Nat)(M:aC)(hM:nth M p=some (cA [aF z])):aR (aq cd) 206 [.agg (fU e),cv p] M=some (.bool (decide (e.ak<z)),M) :=
 uF (p:=p) (vs:=[.agg (fU e)]) hM (aqN e z) rfl rfl rfl rfl rfl rfl rfl rfl rfl
def qU(z:Int)(l:List gM):List gM:=l.filter fun e => !decide (e.ak<z)
def Mh:gM:=⟨[],0,0⟩
abbrev WK(m:Nat):ag:=Dj 3 m
def akz(xs:List gM)(z:Int)(hn:xs.length<=100000)(h0:xs≠[]):aq cd 204 [.cB 0 0 3 0 xs.length,.func 206 [cv 1]] [.arr 3 0 (xs.map iH),cA [aF z]] =
  some (WK (qU z xs).length,[.arr 3 0 ((qU z xs++List.replicate (xs.length-(qU z xs).length) Mh).map iH),cA [aF z]]) :=
 adn (sz:=3) (z:=[.str [],aF 0,aF 0]) (zc:=[.str [],aF 0,aF 0]) (gi:=166) (e:=fU) (zx:=Mh) (p:=fun e=>decide (e.ak<z)) fA rfl fA rfl rfl hn (fun _=>rfl) rfl mu (fun _=>rfl) (fun _=>rfl) (fun _=>rfl) ⟨fun _ _=>rfl,rfl,fun _=>rfl,rfl⟩ (fun e _ _=>asx e z 1 _ rfl) h0
end
structure fE where
 bC:Int
 handle:Int
 ar:Int
 deriving DecidableEq,Inhabited
structure dU where
 ar:Int
 ae:Int
 bytes:Int
 deriving DecidableEq,Inhabited
structure po where
 ki:Int
 BA:Int
 node:Node
 deriving DecidableEq,Inhabited
structure mR where
 id:Int
 ar:Int
 at':Int
 deriving DecidableEq,Inhabited
structure iQ where
 now:Tree
 tick:Int
 since:List Int
 eN:List po
 dV:List mR
 next:Int
 deriving DecidableEq,Inhabited
structure aa where
 s:iQ
 holds:List fE
 dW:List dU
 deriving DecidableEq,Inhabited
structure jC where
 kind:Int
 bC:Int
 dH:Bytes
 u9:Bytes
 n:Int
 m:Int
 handle:Int
 data:Bytes
 deriving DecidableEq,Inhabited
structure vN where
 err:Int
 ar:Int
 kind:Int
 n:Int
 m:Int
 names:List Bytes
 data:Bytes
 deriving DecidableEq,Inhabited
structure Km where
 bC:Int
 seq:Int
 ll:vN
 deriving DecidableEq,Inhabited
def jc(h:fE):List ag:=[.int .i64 h.bC,.int .i64 h.handle,.int .i64 h.ar]
def ig(h:fE):ag := .agg (jc h)
abbrev fI(l:List fE):ag := .slice .sh (l.map ig)
def iW(q:dU):List ag:=[.int .i64 q.ar,.int .i64 q.ae,.int .i64 q.bytes]
def gz(q:dU):ag := .agg (iW q)
abbrev cQ(l:List dU):ag := .slice .sh (l.map gz)
def mH(p:po):List ag := .int .i64 p.ki :: .int .i64 p.BA::aL p.node
def lV(p:po):ag := .agg (mH p)
abbrev rY(l:List po):ag := .slice .sh (l.map lV)
def iC(s:mR):List ag:=[.int .i64 s.id,.int .i64 s.ar,.int .i64 s.at']
def kO(s:mR):ag := .agg (iC s)
abbrev ke(l:List mR):ag := .slice .sh (l.map kO)
abbrev tV(l:List Int):ag := .slice .sh (l.map mS)
abbrev dj(l:List Bytes):ag := .slice .sh (l.map ag.str)
def bL(s:iQ):List ag:=[ba s.now.ae,.int .i64 s.now.next,.int .i64 s.now.ak,.int .i64 s.tick,tV s.since,rY s.eN,ke s.dV,.int .i64 s.next]
def qN(s:iQ):ag := .agg (bL s)
def cf(f:aa):List ag:=[ba f.s.now.ae,.int .i64 f.s.now.next,.int .i64 f.s.now.ak,.int .i64 f.s.tick,tV f.s.since,rY f.s.eN,ke f.s.dV,.int .i64 f.s.next,fI f.holds,cQ f.dW]
def OU(f:aa):ag := .agg (cf f)
def eT(o:jC):List ag:=[.int .i64 o.kind,.int .i64 o.bC,.str o.dH,.str o.u9,.int .i64 o.n,.int .i64 o.m,.int .i64 o.handle,c8 o.data]
def XB(o:jC):ag := .agg (eT o)
def cT(a:vN):List ag:=[.int .i64 a.err,.int .i64 a.ar,.int .i64 a.kind,.int .i64 a.n,.int .i64 a.m,dj a.names,c8 a.data]
def K5(a:vN):ag := .agg (cT a)
def yT(s:Km):List ag := .int .i64 s.bC :: .int .i64 s.seq::cT s.ll
def Rq(s:Km):ag := .agg (yT s)
def H9(n:fE):(ig n).cells=jc n:=rfl
def GR(n:dU):(gz n).cells=iW n:=rfl
def Ib(n:po):(lV n).cells=mH n:=rfl
def Ie(n:mR):(kO n).cells=iC n:=rfl
def Ic(n:Km):(Rq n).cells=yT n:=rfl
def LB(n:fE):(jc n).length=3:=rfl
def Jj(n:dU):(iW n).length=3:=rfl
def LD(n:po):(mH n).length=8:=rfl
def LG(n:mR):(iC n).length=3:=rfl
def LF(n:Km):(yT n).length=9:=rfl
def pk{α:Type}(f:α->ag)(k:Nat)(h:∀a,(f a).cells.length=k)(l:List α):wid (l.map f) k=True:=by
 simp only[fx,ja];intro x hx;obtain⟨n,_,rfl⟩:=eJ.1 hx;exact h n
def Qi(l:List fE):wid (l.map ig) 3=True:=pk ig _ (fun _=>rfl) l
def Mf(l:List dU):wid (l.map gz) 3=True:=pk gz _ (fun _=>rfl) l
def Qj(l:List po):wid (l.map lV) 8=True:=pk lV _ (fun _=>rfl) l
def Ql(l:List mR):wid (l.map kO) 3=True:=pk kO _ (fun _=>rfl) l
def Qk(l:List Km):wid (l.map Rq) 9=True:=pk Rq _ (fun _=>rfl) l
def Xw(l:List Bytes):wid (l.map ag.str) 1=True:=pk ag.str _ (fun _=>rfl) l
def tkH(n:fE):List.take 3 (jc n)=jc n:=rfl
def shH(n:fE):List.map ag.shut (jc n)=jc n:=rfl
def tkQ(n:dU):List.take 3 (iW n)=iW n:=rfl
def shQ(n:dU):List.map ag.shut (iW n)=iW n:=rfl
def tkP(n:po):List.take 8 (mH n)=mH n:=rfl
def shP(n:po):List.map ag.shut (mH n)=mH n:=rfl
def tkS(n:mR):List.take 3 (iC n)=iC n:=rfl
def shS(n:mR):List.map ag.shut (iC n)=iC n:=rfl
def tkU(n:Km):List.take 9 (yT n)=yT n:=rfl
def shU(n:Km):List.map ag.shut (yT n)=yT n:=rfl
def akL:((2:Nat):Int)=2:=rfl
def ahL:Int.toNat 0=0:=rfl
def ahM:Int.toNat 1=1:=rfl
def arI(a b c d:Int):kU [FK.i,FK.i] [aF a,aF b] [aF c,aF d]=some (a==c&&b==d):=by
 simp[kU,km]
def Yw(a b c a' b' c':Int):kU [FK.i,FK.i,FK.i] [aF a,aF b,aF c] [aF a',aF b',aF c']=some (a==a'&&(b==b'&&c==c')):=by
 simp[kU,km]
set_option linter.defProp false in
def EVF:=bR @arI (bR @Yw (bR @gk.{0} (bR @cX.{0} (bR @akL (bR @ahL (bR @ahM (bR @jD (bR @fN (bR @H9 (bR @GR (bR @Ib (bR @Ie (bR @Ic (bR @LB (bR @Jj (bR @LD (bR @LG (bR @LF (bR @Qi (bR @Mf (bR @Qj (bR @Ql (bR @Qk (bR @Xw (bR @tkH (bR @shH (bR @tkQ (bR @shQ (bR @tkP (bR @shP (bR @tkS (bR @shS (bR @tkU (bR @shU (bR @tkN (bR @shN (bR @tkE (@shE))))))))))))))))))))))))))))))))))))))
set_option linter.defProp false in
def EW:=And.intro EVF EN
section
attribute [local irreducible] eX fJ lj gK dY kr aq aR cp bI
def aro(h:fE):aq cd 258 [.agg (jc h)] []=some (.agg [aF h.bC,aF h.handle],[]):=by
 refine aB ?_;simp only[adb,aoQ,ig,jc,EW,seval]
def amr h:=cP (aro h)
def gV(n:Node):Bool:=n.kind==1&&n.ep==0
def aqS(n:Node):aq cd 213 [.agg (aL n)] []=some (.bool (gV n),[]):=by
 refine aB ?_;simp only[acO,aii,bK,aL,EW,seval]
 repeat' ((first|apply bA|apply bW|apply dK)<;>intro hb<;>simp only[hb,EW,aii,seval])
 all_goals (simp_all only[gV,qx,↓reduceIte,reduceCtorEq,aw]; done)
def afs n:=cP (aqS n)
def zO(c h:Int):Bool:=decide (0<=c)&&decide (c<16)&&decide (0<=h)&&decide (h<100)
def aqP(c h:Int):aq cd 210 [.agg [aF c,aF h]] []=some (.bool (zO c h),[]):=by
 refine aB ?_;simp only[acL,aih,EW,seval]
 repeat' ((first|apply bA|apply bW|apply dK)<;>intro hb<;>simp only[hb,EW,aih,seval])
 all_goals (simp_all only[zO,qx,↓reduceIte,reduceCtorEq,aw]; done)
def asz c h:=cP (aqP c h)
def orI(a b:Int):Int:=if a != 0 then a else b
def atE(a b:Int)(ha:(a != 0)=false):orI a b=b:=by simp[orI,ha]
def arp(a b:Int):aq cd 259 [gA [aF a,aF b]] []=some (aF (orI a b),[]):=by
 refine aB ?_;simp only[Sd,HK,EW,seval];rw[bF];simp only[Sd,HK,EW,seval];refine bA (fun hb=>?_) (fun hb=>?_)
 ·simp only[HK,hb,orI,EW,seval]
 ·have w1:IntKind.i64.wrap 1=1:=gW mu mu;have w2:IntKind.i64.wrap 2=2:=gW mu mu;simp only[HK,hb,atE a b hb,w1,EW,seval];rw[bF];simp only[HK,EW,seval];refine bA (fun hc=>?_) (fun hc=>?_)
  ·simp only[HK,hc,EW,seval]
  ·simp only[HK,hc,w2,EW,seval];rw[bF];simp only[HK,EW,seval];have:b=0:=by simpa using hc
   rw[this]
def asO a b:=cP (arp a b)
def il(x:fE)(c h:Int):Int:=orI (qM x.bC c) (qM x.handle h)
def aqR(c h a b:Int)(x:fE):aq cd 212 [.agg [aF c,aF h],.agg (jc x),.agg [aF a,aF b]] []=some (aF (il x c h),[]):=by
 refine aB ?_;simp only[acN,aoA,ig,amr,Y0,asO,il,EW,seval]
def amk c h a b x:=cP (aqR c h a b x)
def sQ(c h:Int)(x:fE):Bool:=x.bC==c&&x.handle==h
def aqT(c h:Int)(x:fE):aq cd 217 [.agg [aF c,aF h],.agg (jc x)] []=some (.bool (sQ c h x),[]):=by
 refine aB ?_;simp only[acP,aoB,ig,amr,sQ,EW,seval]
def asB c h x:=cP (aqT c h x)
end
section
theorem xW{α:Type}(p:α->Bool):∀(l:List α)(i:Nat),(qz p l i = -1/\l.find? p=none)\/∃(m:Nat) (x:α),qz p l i=((i+m:Nat):Int)/\l[m]?=some x/\l.find? p=some x/\l.eraseIdx m=l.eraseP p
 | [],i => .inl ⟨rfl,rfl⟩
 |x::r,i=>by
  rw[qz]
  by_cases h:p x=true
  ·grind
  ·rcases xW p r (i+1) with ⟨h1,h2⟩|⟨m,y,h1,h2,h3,h4⟩
   ·exact .inl ⟨by simp[h,h1],by simp[h,h2]⟩
   ·grind
def mi{α:Type}(lt:α->Bool)(l:List α):Nat:=(l.takeWhile lt).length
theorem Hg{α:Type}{lt:α->Bool}:∀ {l:List α},l.Pairwise (fun a b=>lt b=true->lt a=true)->Xz lt l (mi lt l)
 | [],_=>⟨au _,fun h n hn=>by simp_all⟩
 |a::r,h=>by
  obtain⟨h1,h2⟩:=dq.1 h;obtain⟨i1,i2⟩:=Hg h2;unfold mi at i1 i2 ⊢
  by_cases ha:lt a=true
  ·rw[iv,aW ha];refine⟨j6,fun k n hn=>?_⟩
   grind
  ·rw[iv,aP ha];refine⟨dw,fun k n hn=>?_⟩
   grind
def Wu(z:Int):jX [cA [aF z]] (iy [0]) [0]=some [cA [aF z]]:=rfl
def L0(u v:Int):jX [cA [aF u],cA [aF v]] (iy [0,1]) [0,1]=some [cA [aF u],cA [aF v]]:=rfl
attribute [local irreducible] eX fJ lj gK dY kr aq aR cp bI
def arq(x:fE)(z:Int):aq cd 262 [ig x,cv 0] [cA [aF z]]=some (.bool (x.ar==z),[cA [aF z]]):=by
 refine aB ?_;simp[ade,aoR,ig,jc,EW]
def aqA(x:fE)(z:Int):aq cd 186 [ig x,cv 0] [cA [aF z]]=some (.bool (x.ar==z),[cA [aF z]]):=by
 refine aB ?_;simp[acv,aor,ig,jc,EW]
def arx(q:dU)(ar:Int):aq cd 268 [gz q,aF ar] []=some (aF (qM q.ar ar),[]):=by
 refine aB ?_;simp[adi,aoV,gz,iW,Y0,EW]
def asR(n:dU)(ar:Int)(M:aC):aR (aq cd) 268 [.agg (iW n),aF ar] M=some (aF (qM n.ar ar),M):=cO (arx n _) M
def aru(n:Node)(ar:Int):aq cd 264 [bK n,aF ar] []=some (aF (qM n.ar ar),[]):=by
 refine aB ?_;simp[adf,aoS,bK,aL,Y0,EW]
def asQ(n:Node)(ar:Int)(M:aC):aR (aq cd) 264 [.agg (aL n),aF ar] M=some (aF (qM n.ar ar),M):=cO (aru n _) M
def zg(ki BA:Int)(x:mR):Bool:=decide (ki<=x.at')&&decide (x.at'<BA)
def arv(x:mR)(a b:Int):aq cd 266 [kO x,cv 0,cv 1] [cA [aF a],cA [aF b]]=some (.bool (zg a b x),[cA [aF a],cA [aF b]]):=by
 refine aB ?_;simp only[adh,aoU,kO,iC,EW,seval]
 repeat' ((first|refine bA _ _|refine bW (fun hb=>?_) (fun hb=>?_)|refine dK _ _)<;>simp only[hb,EW,seval])
 all_goals (simp_all only[zg,qx]; done)
def akD(xs:List fE)(c g:Int)(hn:xs.length<=100000):aq cd 216 [gA (xs.map ig),.qV 217 [.agg [aF c,aF g]]] []=some (aF (qz (sQ c g) xs 0),[]) :=
 DB (sz:=3) (e:=jc) fA rfl hn (fun _=>rfl) (fun _=>rfl) rfl rfl fun x _ => .inr ⟨_,_,rfl,asB c g x []⟩
def adt(xs:List fE)(c g:Int)(hn:xs.length<=100000)(M:aC):aR (aq cd) 216 [gA (xs.map ig),.qV 217 [.agg [aF c,aF g]]] M=some (aF (qz (sQ c g) xs 0),M):=cO (akD _ c g hn) M
def akB(xs:List fE)(z:Int)(hn:xs.length<=100000):aq cd 216 [gA (xs.map ig),.func 262 [cv 0]] [cA [aF z]]=some (aF (qz (fun x:fE=>x.ar==z) xs 0),[cA [aF z]]) :=
 DB (sz:=3) (e:=jc) fA rfl hn (fun _=>rfl) (fun _=>rfl) rfl rfl fun x _ => .inl ⟨_,_,rfl,uF (p:=0) (vs:=[.agg (jc x)]) rfl (arq x z) rfl rfl rfl rfl rfl rfl rfl rfl rfl⟩
def akv(xs:List fE)(z:Int)(hn:xs.length<=100000):aq cd 185 [gA (xs.map ig),.func 262 [cv 0]] [cA [aF z]]=some (.bool (xs.any (fun x:fE=>x.ar==z)),[cA [aF z]]):=by
 refine aB ?_;have hk:aR (aq cd) 216 [gA (xs.map ig),.func 262 [cv 0]] _=some (aF _,[cA [aF z]]):=kZ (ids:=[0]) rfl rfl (Wu z) rfl rfl (akB xs z hn) rfl rfl rfl rfl rfl;simp only[R5,aic,hk,xb,EW,seval]
def akC(xs:List fE)(z:Int)(hn:xs.length<=100000):aq cd 216 [gA (xs.map ig),.func 186 [cv 0]] [cA [aF z]]=some (aF (qz (fun x:fE=>x.ar==z) xs 0),[cA [aF z]]) :=
 DB (sz:=3) (e:=jc) fA rfl hn (fun _=>rfl) (fun _=>rfl) rfl rfl fun x _ => .inl ⟨_,_,rfl,uF (p:=0) (vs:=[.agg (jc x)]) rfl (aqA x z) rfl rfl rfl rfl rfl rfl rfl rfl rfl⟩
def akw(xs:List fE)(z:Int)(hn:xs.length<=100000):aq cd 185 [gA (xs.map ig),.func 186 [cv 0]] [cA [aF z]]=some (.bool (xs.any (fun x:fE=>x.ar==z)),[cA [aF z]]):=by
 refine aB ?_;have hk:aR (aq cd) 216 [gA (xs.map ig),.func 186 [cv 0]] _=some (aF _,[cA [aF z]]):=kZ (ids:=[0]) rfl rfl (Wu z) rfl rfl (akC xs z hn) rfl rfl rfl rfl rfl;simp only[R5,aic,hk,xb,EW,seval]
def akH(xs:List mR)(u v:Int)(hn:xs.length<=100000):aq cd 299 [gA (xs.map kO),.func 266 [cv 0,cv 1]] [cA [aF u],cA [aF v]]=some (aF (qz (zg u v) xs 0),[cA [aF u],cA [aF v]]) :=
 DB (sz:=3) (e:=iC) fA rfl hn (fun _=>rfl) (fun _=>rfl) rfl rfl fun x _ => .inl ⟨_,_,rfl,kZ (ids:=[0,1]) rfl rfl (L0 u v) rfl rfl (arv x u v) rfl rfl rfl rfl rfl⟩
def akG(xs:List mR)(u v:Int)(hn:xs.length<=100000):aq cd 265 [gA (xs.map kO),.func 266 [cv 0,cv 1]] [cA [aF u],cA [aF v]]=some (.bool (xs.any (zg u v)),[cA [aF u],cA [aF v]]):=by
 refine aB ?_;have hk:aR (aq cd) 299 [gA (xs.map kO),.func 266 [cv 0,cv 1]] _=some (aF _,[cA [aF u],cA [aF v]]):=kZ (ids:=[0,1]) rfl rfl (L0 u v) rfl rfl (akH xs u v hn) rfl rfl rfl rfl rfl;simp only[adg,aoT,hk,xb,EW,seval]
def arw(xs:List dU)(ar:Int)(b:Nat)(hb:Xz (fun x=>decide (qM x.ar ar<0)) xs b)(hn:xs.length<=100000):aq cd 267 [gA (xs.map gz),aF ar,.func 268 []] []=some (.tuple [aF b,.bool (pg (fun x=>qM x.ar ar==0) xs b)],[]) :=
 YQ (sz:=3) (e:=iW) fA rfl hb hn (fun _=>rfl) (fun _=>rfl) (.inl ⟨_,_,rfl⟩) rfl rfl rfl rfl rfl (fun _ _ => .inl ⟨_,_,rfl,asR _ _ _⟩)
def akF(xs:List Node)(ar:Int)(b:Nat)(hb:Xz (fun x=>decide (qM x.ar ar<0)) xs b)(hn:xs.length<=100000):aq cd 263 [gA (xs.map bK),aF ar,.func 264 []] []=some (.tuple [aF b,.bool (pg (fun x=>qM x.ar ar==0) xs b)],[]) :=
 YQ (sz:=6) (e:=aL) fA rfl hb hn (fun _=>rfl) (fun _=>rfl) (.inl ⟨_,_,rfl⟩) rfl rfl rfl rfl rfl (fun _ _ => .inl ⟨_,_,rfl,asQ _ _ _⟩)
def aac{xs:List fE}{c g:Int}{b:Nat}(hb:Xz (fun x=>decide (il x c g<0)) xs b)(hn:xs.length<=100000){k:List K}{r:Option (ag×aC)}
  (hx:∀v q,kr (aq cd) [.tmp 6,.tmp 7] 0 k ⟨.exit 0,[(0,gA (xs.map ig)),(2,.qV 212 [.agg [aF c,aF g]]),(4,cv 0),(8,aF xs.length),(9,aF b),(10,v),(17,q)],[cA [aF c,aF g]]⟩=r) :
  ∀(f i j:Nat),j-i<=f->i<=b->b<=j->j<=xs.length->eX (aq cd) [.tmp 6,.tmp 7] 0 k (.loop [0,2,4,8,9,10] ZK) [(0,gA (xs.map ig)),(2,.qV 212 [.agg [aF c,aF g]]),(4,cv 0),(8,aF xs.length),(9,aF i),(10,aF j)] [cA [aF c,aF g]]=r:=by
 intro f;induction f with
 |zero =>
  intro i j h1 h2 h3 h4;obtain rfl:i=b:=aH;rw[bF];have cJ:((i:Int)<(j:Int))=False:=gh;simp only[HJ,cJ,EW,seval];exact hx _ _
 |succ f ih =>
  intro i j h1 h2 h3 h4;rw[bF]
  by_cases hij:i<j
  ·have cJ:((i:Int)<(j:Int))=True:=gh;obtain⟨m1,m2,m3,m4,m5⟩:=VV i j aH aH;have hmid:(i+j) / 2<xs.length:=aH;have hx:=ai hmid;have hl:=hb.lt _ _ hx;have hk:=fun x:fE=>amk c g c g x [cA [aF c,aF g]]
   simp only[HJ,cJ,m1,m2,m3,m4,hx,hk,EW,seval];refine bA (fun hq=>?_) (fun hq=>?_)
   ·simp only[HJ,m5,EW,seval];exact ih ((i+j) / 2+1) j aH (hl.1 hq) h3 h4
   ·simp only[HJ,EW,seval];exact ih i ((i+j) / 2) aH h2 (Nat.not_lt.1 fun h=>by rw[hl.2 h] at hq; cases hq) aH
  ·obtain rfl:i=b:=aH;have cJ:((i:Int)<(j:Int))=False:=gh;simp only[HJ,cJ,EW,seval];exact hx _ _
def aqQ(xs:List fE)(c g:Int)(b:Nat)(hb:Xz (fun x=>decide (il x c g<0)) xs b)(hn:xs.length<=100000):aq cd 211 [gA (xs.map ig),.agg [aF c,aF g],.qV 212 [.agg [aF c,aF g]]] []=some (.tuple [aF b,.bool (pg (fun x=>il x c g==0) xs b)],[]):=by
 refine aB ?_;simp only[acM,HJ,EW,seval];refine aac hb hn (fun v q=>?_) xs.length 0 xs.length aH aH hb.le aH
 have hk:=fun x:fE=>amk c g c g x [cA [aF c,aF g]]
 unfold pg
 by_cases cJ:b<xs.length
 ·have hx:=ai cJ;have h1:((b:Int)<(xs.length:Int))=True:=gh;simp only[HJ,hx,h1,hk,EW,seval]
 ·have hx:xs[b]?=none:=eS aH;have h1:((b:Int)<(xs.length:Int))=False:=gh;simp only[HJ,hx,h1,EW,seval]
end
end
end Go.Proofs.YteoamaffclmdbaaGreatDoor
