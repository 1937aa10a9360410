import Derived.Laws.RangeString
import Derived.RangeFuncBox
import Derived.RangeFuncFrom
import Derived.RangeFuncLeaves
import Derived.Shelf.Abstract
import Derived.WalkKit
import Derived.OwnWalkIn
import Derived.TacticsInMore
import Derived.LoopNIn
import Derived.LoopIn
import Derived.Maps.AppendAt
import Derived.RangeFuncNested
import Derived.Test.YteoamaffclmdbaaGreatDoorHcaC
set_option linter.unusedSimpArgs false
set_option linter.unusedVariables false
set_option linter.unusedSectionVars false
set_option linter.defProp false
open Go.Proofs.Tryz
namespace Go.Proofs.YteoamaffclmdbaaGreatDoor
open Go Go.Abs
def RA:Nat->Option eH
 |251=>some ado
 |252=>some adp
 |253=>some adq
 |254=>some adr
 |257=>some ads
 |258=>some adt
 |259=>some Su
 |262=>some adu
 |263=>some alu
 |264=>some adv
 |265=>some adw
 |266=>some adx
 |267=>some alv
 |268=>some ady
 |271=>some Na
 |273=>some alx
 |275=>some Nb
 |278=>some adz
 |284=>some adA
 |285=>some adB
 |287=>some aly
 |299=>some alz
 |302=>some Nc
 |325=>some I5
 |_=>none
def Rz:Nat->Option eH
 |164=>some acz
 |166=>some acA
 |167=>some acB
 |168=>some acC
 |169=>some acD
 |170=>some acE
 |171=>some acF
 |172=>some acG
 |173=>some M6
 |174=>some M7
 |175=>some Sg
 |176=>some I2
 |177=>some I3
 |178=>some acH
 |179=>some acI
 |180=>some acJ
 |181=>some acK
 |182=>some Sh
 |183=>some Si
 |184=>some Sj
 |185=>some Sk
 |186=>some acL
 |187=>some acM
 |190=>some acN
 |191=>some acO
 |192=>some acP
 |193=>some acQ
 |194=>some acR
 |195=>some Sm
 |196=>some acS
 |197=>some acT
 |198=>some I4
 |199=>some acU
 |200=>some Sn
 |201=>some acV
 |202=>some acW
 |203=>some acX
 |204=>some acY
 |206=>some acZ
 |208=>some alk
 |209=>some ac0
 |210=>some ac1
 |211=>some ac2
 |212=>some ac3
 |213=>some ac4
 |216=>some alm
 |217=>some ac5
 |219=>some ac6
 |221=>some ac7
 |222=>some ac8
 |223=>some ac9
 |224=>some ada
 |225=>some adb
 |226=>some ade
 |230=>some Sq
 |232=>some Sr
 |233=>some adf
 |234=>some Ss
 |235=>some adg
 |236=>some M8
 |237=>some M9
 |238=>some adh
 |239=>some adi
 |240=>some adj
 |244=>some St
 |245=>some adk
 |246=>some adl
 |247=>some adm
 |249=>some alq
 |250=>some adn
 |f=>RA f
def Ry:Nat->Option eH
 |85=>some Pk
 |86=>some alV
 |87=>some alW
 |88=>some alX
 |93=>some afo
 |94=>some Sx
 |95=>some Pm
 |96=>some Sy
 |97=>some Ly
 |98=>some Y0
 |99=>some afp
 |100=>some MS
 |101=>some R4
 |102=>some IX
 |103=>some yz
 |104=>some MT
 |105=>some IY
 |106=>some MU
 |107=>some MV
 |108=>some R5
 |109=>some ab5
 |110=>some ab6
 |111=>some ab7
 |112=>some ab8
 |113=>some ale
 |114=>some alf
 |116=>some MW
 |117=>some ab9
 |118=>some R6
 |119=>some R7
 |120=>some IZ
 |121=>some aca
 |122=>some R8
 |123=>some acb
 |124=>some acd
 |125=>some ace
 |126=>some acf
 |127=>some acg
 |128=>some ach
 |129=>some aci
 |130=>some acj
 |131=>some ack
 |132=>some acm
 |133=>some acn
 |134=>some MX
 |135=>some MY
 |136=>some aco
 |137=>some acp
 |138=>some MZ
 |139=>some I0
 |140=>some R9
 |141=>some Sa
 |145=>some acq
 |146=>some acr
 |147=>some acs
 |148=>some Sb
 |149=>some acu
 |150=>some acv
 |151=>some acw
 |152=>some acx
 |153=>some yA
 |154=>some Sc
 |155=>some acy
 |156=>some Sd
 |157=>some M1
 |158=>some Se
 |159=>some M4
 |161=>some M5
 |162=>some I1
 |163=>some Sf
 |f=>Rz f
def code:Nat->Option eH
 |4=>some fn4
 |5=>some fn5
 |6=>some fn6
 |7=>some fn7
 |8=>some fn8
 |9=>some fn9
 |10=>some ald
 |11=>some aff
 |13=>some YX
 |15=>some afg
 |17=>some alg
 |18=>some alh
 |19=>some ali
 |21=>some ar2
 |22=>some aln
 |23=>some alo
 |24=>some alp
 |25=>some alr
 |26=>some als
 |27=>some alw
 |28=>some uC
 |30=>some afh
 |32=>some alA
 |33=>some alB
 |34=>some alC
 |35=>some alD
 |37=>some ar3
 |38=>some alE
 |39=>some alF
 |40=>some alG
 |41=>some alH
 |42=>some alI
 |43=>some Hf
 |44=>some zN
 |45=>some CI
 |46=>some Lw
 |47=>some Sv
 |48=>some YY
 |49=>some Pg
 |52=>some alJ
 |53=>some alK
 |54=>some ar4
 |55=>some alM
 |56=>some alN
 |57=>some ar5
 |58=>some ar6
 |59=>some ar7
 |60=>some ar8
 |61=>some ar9
 |62=>some asa
 |63=>some asb
 |66=>some alO
 |67=>some afj
 |68=>some alP
 |69=>some YZ
 |70=>some alQ
 |71=>some alR
 |72=>some alS
 |73=>some alT
 |74=>some alU
 |75=>some afk
 |76=>some Hg
 |77=>some afl
 |78=>some Fa
 |79=>some Lx
 |80=>some Ph
 |81=>some afm
 |82=>some Pj
 |83=>some afn
 |84=>some Sw
 |f=>Ry f
noncomputable def oS:Nat->Option (List ag->aC->Option (ag×aC))
 |207=>some (wE 3 2 208)
 |272=>some (wE 6 0 273)
 |276=>some (zi)
 |277=>some (JN)
 |286=>some (Ae)
 |205=>some (mQ 3 32)
 |241=>some (mQ 6 80)
 |215=>some (mQ 3 24)
 |189=>some (mQ 3 24)
 |220=>some (sk 8 96)
 |229=>some (sk 3 24)
 |160=>some (pCC 1 1)
 |283=>some (lI 6)
 |248=>some (lI 3)
 |218=>some (sH 3)
 |227=>some (sH 3)
 |242=>some (lf 6 80)
 |243=>some (lf 3 32)
 |214=>some (lf 3 24)
 |228=>some (lf 3 24)
 |_=>none
noncomputable def bW:zt:=⟨code,oS⟩
set_option maxRecDepth 100000 in
def tJ{f:Nat}{c fn:eH}{func:Func}{A:Cz}(h:some c=some fn)(h1:Tryz.prog.funcs[f]?=some func)(h2:pa Tryz.prog A func=some c):∃ A func,Tryz.prog.funcs[f]?=some func/\pa Tryz.prog A func=some fn:=by
 cases h; exact⟨_,_,h1,h2⟩
def gu{f:Nat}{c fn:eH}{func:Func}(h:some c=some fn)(h1:Tryz.prog.funcs[f]?=some func)(h2:sL [] func c):∃ A func,Tryz.prog.funcs[f]?=some func/\pa Tryz.prog A func=some fn:=tJ h h1 h2
def Rx(f:Nat)(fn:eH)(h:RA f=some fn):∃A func,Tryz.prog.funcs[f]?=some func/\pa Tryz.prog A func=some fn:=by
 unfold RA at h;split at h
 ·exact gu h func251 fp
 ·exact gu h func252 fp
 ·exact gu h func253 fp
 ·exact gu h func254 fp
 ·exact gu h func257 fp
 ·exact gu h func258 fp
 ·exact gu h func259 fp
 ·exact gu h func262 fp
 ·exact gu h func263 fp
 ·exact gu h func264 fp
 ·exact gu h func265 fp
 ·exact gu h func266 fp
 ·exact gu h func267 fp
 ·exact gu h func268 fp
 ·exact gu h func271 fp
 ·exact gu h func273 fp
 ·exact gu h func275 fp
 ·exact gu h func278 fp
 ·exact gu h func284 fp
 ·exact gu h func285 fp
 ·exact gu h func287 fp
 ·exact gu h func299 fp
 ·exact gu h func302 fp
 ·exact gu h func325 fp
 ·cases h
set_option maxRecDepth 100000 in
def Rv(f:Nat)(fn:eH)(h:Rz f=some fn):∃A func,Tryz.prog.funcs[f]?=some func/\pa Tryz.prog A func=some fn:=by
 unfold Rz at h;split at h
 ·exact gu h func164 fp
 ·exact gu h func166 fp
 ·exact gu h func167 fp
 ·exact gu h func168 fp
 ·exact gu h func169 fp
 ·exact gu h func170 fp
 ·exact gu h func171 fp
 ·exact gu h func172 fp
 ·exact gu h func173 fp
 ·exact gu h func174 fp
 ·exact tJ h func175 ank
 ·exact tJ h func176 anl
 ·exact tJ h func177 anm
 ·exact gu h func178 fp
 ·exact gu h func179 fp
 ·exact gu h func180 fp
 ·exact gu h func181 fp
 ·exact tJ h func182 ann
 ·exact tJ h func183 ano
 ·exact tJ h func184 anp
 ·exact gu h func185 fp
 ·exact gu h func186 fp
 ·exact gu h func187 fp
 ·exact gu h func190 fp
 ·exact gu h func191 fp
 ·exact gu h func192 fp
 ·exact gu h func193 fp
 ·exact gu h func194 fp
 ·exact tJ h func195 anr
 ·exact gu h func196 fp
 ·exact gu h func197 fp
 ·exact gu h func198 fp
 ·exact gu h func199 fp
 ·exact tJ h func200 ant
 ·exact gu h func201 fp
 ·exact gu h func202 fp
 ·exact gu h func203 fp
 ·exact gu h func204 fp
 ·exact gu h func206 fp
 ·exact gu h func208 fp
 ·exact gu h func209 fp
 ·exact gu h func210 fp
 ·exact gu h func211 fp
 ·exact gu h func212 fp
 ·exact gu h func213 fp
 ·exact gu h func216 fp
 ·exact gu h func217 fp
 ·exact gu h func219 fp
 ·exact gu h func221 fp
 ·exact gu h func222 fp
 ·exact gu h func223 fp
 ·exact gu h func224 fp
 ·exact gu h func225 fp
 ·exact gu h func226 fp
 ·exact tJ h func230 anu
 ·exact tJ h func232 anv
 ·exact gu h func233 fp
 ·exact tJ h func234 anw
 ·exact gu h func235 fp
 ·exact gu h func236 fp
 ·exact gu h func237 fp
 ·exact gu h func238 fp
 ·exact gu h func239 fp
 ·exact gu h func240 fp
 ·exact tJ h func244 anx
 ·exact gu h func245 fp
 ·exact gu h func246 fp
 ·exact gu h func247 fp
 ·exact gu h func249 fp
 ·exact gu h func250 fp
 ·exact Rx _ _ h
set_option maxRecDepth 100000 in
def Ru(f:Nat)(fn:eH)(h:Ry f=some fn):∃A func,Tryz.prog.funcs[f]?=some func/\pa Tryz.prog A func=some fn:=by
 unfold Ry at h;split at h
 ·exact tJ h func85 at0
 ·exact gu h func86 fp
 ·exact gu h func87 fp
 ·exact gu h func88 fp
 ·exact gu h func93 fp
 ·exact gu h func94 fp
 ·exact gu h func95 fp
 ·exact gu h func96 fp
 ·exact gu h func97 fp
 ·exact gu h func98 fp
 ·exact gu h func99 fp
 ·exact gu h func100 fp
 ·exact gu h func101 fp
 ·exact gu h func102 fp
 ·exact tJ h func103 am5
 ·exact gu h func104 fp
 ·exact gu h func105 fp
 ·exact gu h func106 fp
 ·exact gu h func107 fp
 ·exact gu h func108 fp
 ·exact gu h func109 fp
 ·exact gu h func110 fp
 ·exact gu h func111 fp
 ·exact gu h func112 fp
 ·exact gu h func113 fp
 ·exact gu h func114 fp
 ·exact gu h func116 fp
 ·exact gu h func117 fp
 ·exact tJ h func118 am6
 ·exact tJ h func119 am7
 ·exact tJ h func120 am8
 ·exact gu h func121 fp
 ·exact tJ h func122 am9
 ·exact gu h func123 fp
 ·exact gu h func124 fp
 ·exact gu h func125 fp
 ·exact gu h func126 fp
 ·exact gu h func127 fp
 ·exact gu h func128 fp
 ·exact gu h func129 fp
 ·exact gu h func130 fp
 ·exact gu h func131 fp
 ·exact gu h func132 fp
 ·exact gu h func133 fp
 ·exact gu h func134 fp
 ·exact gu h func135 fp
 ·exact gu h func136 fp
 ·exact gu h func137 fp
 ·exact gu h func138 fp
 ·exact tJ h func139 ana
 ·exact gu h func140 fp
 ·exact gu h func141 fp
 ·exact gu h func145 fp
 ·exact gu h func146 fp
 ·exact gu h func147 fp
 ·exact tJ h func148 anb
 ·exact gu h func149 fp
 ·exact gu h func150 fp
 ·exact gu h func151 fp
 ·exact gu h func152 fp
 ·exact tJ h func153 anc
 ·exact tJ h func154 ane
 ·exact gu h func155 fp
 ·exact tJ h func156 anf
 ·exact tJ h func157 ang
 ·exact tJ h func158 anh
 ·exact gu h func159 fp
 ·exact gu h func161 fp
 ·exact tJ h func162 ani
 ·exact tJ h func163 anj
 ·exact Rv _ _ h
set_option maxRecDepth 100000 in
def ML(f:Nat)(fn:eH)(h:code f=some fn):∃A func,Tryz.prog.funcs[f]?=some func/\pa Tryz.prog A func=some fn:=by
 unfold code at h;split at h
 ·exact tJ h func4 ok4
 ·exact tJ h func5 ok5
 ·exact tJ h func6 ok6
 ·exact tJ h func7 ok7
 ·exact tJ h func8 ok8
 ·exact gu h func9 fp
 ·exact gu h func10 fp
 ·exact gu h func11 fp
 ·exact gu h func13 fp
 ·exact tJ h func15 atG
 ·exact gu h func17 fp
 ·exact gu h func18 fp
 ·exact tJ h func19 atH
 ·exact gu h func21 fp
 ·exact gu h func22 fp
 ·exact gu h func23 fp
 ·exact gu h func24 fp
 ·exact gu h func25 fp
 ·exact gu h func26 fp
 ·exact gu h func27 fp
 ·exact gu h func28 fp
 ·exact tJ h func30 atK
 ·exact gu h func32 fp
 ·exact gu h func33 fp
 ·exact gu h func34 fp
 ·exact gu h func35 fp
 ·exact gu h func37 fp
 ·exact gu h func38 fp
 ·exact gu h func39 fp
 ·exact gu h func40 fp
 ·exact gu h func41 fp
 ·exact gu h func42 fp
 ·exact gu h func43 fp
 ·exact tJ h func44 atM
 ·exact gu h func45 fp
 ·exact tJ h func46 atO
 ·exact tJ h func47 atP
 ·exact gu h func48 fp
 ·exact tJ h func49 atQ
 ·exact gu h func52 fp
 ·exact gu h func53 fp
 ·exact gu h func54 fp
 ·exact gu h func55 fp
 ·exact gu h func56 fp
 ·exact gu h func57 fp
 ·exact gu h func58 fp
 ·exact gu h func59 fp
 ·exact gu h func60 fp
 ·exact gu h func61 fp
 ·exact gu h func62 fp
 ·exact gu h func63 fp
 ·exact gu h func66 fp
 ·exact gu h func67 fp
 ·exact gu h func68 fp
 ·exact gu h func69 fp
 ·exact gu h func70 fp
 ·exact gu h func71 fp
 ·exact gu h func72 fp
 ·exact gu h func73 fp
 ·exact gu h func74 fp
 ·exact gu h func75 fp
 ·exact tJ h func76 atS
 ·exact tJ h func77 atT
 ·exact tJ h func78 atU
 ·exact tJ h func79 atV
 ·exact tJ h func80 atW
 ·exact gu h func81 fp
 ·exact tJ h func82 atX
 ·exact tJ h func83 atY
 ·exact tJ h func84 atZ
 ·exact Ru _ _ h
def NL(f:Nat)(g:List ag->aC->Option (ag×aC))(h:oS f=some g)(args:List ag)(M:aC)(x:ag×aC)(hx:g args M=some x):lF Tryz.prog f=true/\db Tryz.prog f args M x:=by
 unfold oS at h;split at h
 ·cases h; exact⟨fz,Xo hx⟩
 ·cases h; exact⟨fz,Xp hx⟩
 ·cases h; exact⟨fz,LD hx⟩
 ·cases h; exact⟨fz,amh hx⟩
 ·cases h; exact⟨fz,Iz hx⟩
 ·cases h; exact⟨fz,OU hx⟩
 ·cases h; exact⟨fz,OW hx⟩
 ·cases h; exact⟨fz,OV hx⟩
 ·cases h; exact⟨fz,OT hx⟩
 ·cases h; exact⟨fz,KW hx⟩
 ·cases h; exact⟨fz,KX hx⟩
 ·cases h; exact⟨fz,ae1 hx⟩
 ·cases h; exact⟨fz,O5 hx⟩
 ·cases h; exact⟨fz,O4 hx⟩
 ·cases h; exact⟨fz,K8 hx⟩
 ·cases h; exact⟨fz,K9 hx⟩
 ·cases h; exact⟨fz,Pv hx⟩
 ·cases h; exact⟨fz,Pw hx⟩
 ·cases h; exact⟨fz,Pt hx⟩
 ·cases h; exact⟨fz,Pu hx⟩
 ·cases h
def ahY:vk Tryz.prog bW:=⟨ML,NL⟩
abbrev Bytes:=List UInt8
structure gI where
 name:Bytes
 ar:Int
 ak:Int
 deriving DecidableEq,Inhabited
structure Node where
 ar:Int
 kind:Int
 eE:Int
 data:Bytes
 bc:List gI
 up:Int
 deriving DecidableEq,Inhabited
structure Tree where
 ae:List Node
 next:Int
 ak:Int
 deriving DecidableEq,Inhabited
def Node.zero:Node:=⟨0,0,0,[],[],0⟩
def gd(e:gI):List ag:=[.str e.name,.int .i64 e.ar,.int .i64 e.ak]
def iE(e:gI):ag := .agg (gd e)
abbrev ja(l:List gI):ag := .slice .sh (l.map iE)
abbrev cR(d:Bytes):ag := .slice .sh (d.map pt)
def aL(n:Node):List ag:=[.int .i64 n.ar,.int .i64 n.kind,.int .i64 n.eE,cR n.data,ja n.bc,.int .i64 n.up]
def bK(n:Node):ag := .agg (aL n)
abbrev ba(l:List Node):ag := .slice .sh (l.map bK)
def aM(t:Tree):List ag:=[ba t.ae,.int .i64 t.next,.int .i64 t.ak]
def bq(t:Tree):ag := .agg (aM t)
structure Small(t:Tree):Prop where
 ae:t.ae.length<=100000
 bc:∀n,n∈t.ae->n.bc.length<=100000
 data:∀n,n∈t.ae->n.data.length<=100000
def Ir(n:Node):(bK n).cells=aL n:=rfl
def KT(e:gI):(iE e).cells=gd e:=rfl
def LP(n:Node):(aL n).length=6:=rfl
def PF(e:gI):(gd e).length=3:=rfl
def GI(l:List Node):wid (l.map bK) 6=True:=by
 simp only[fH,iZ];intro x hx;obtain⟨n,_,rfl⟩:=eJ.1 hx;rfl
def Kh(l:List gI):wid (l.map iE) 3=True:=by
 simp only[fH,iZ];intro x hx;obtain⟨n,_,rfl⟩:=eJ.1 hx;rfl
theorem sg(l:Bytes):wid (l.map pt) 1=True:=by
 simp only[fH,iZ];intro x hx;obtain⟨n,_,rfl⟩:=eJ.1 hx;rfl
structure Step where
 kind:Nat
 a:Nat
 b:Nat
 n:Nat
 m:Nat
 data:Bytes
set_option linter.defProp false in
def EVN:=bQ @Ir (bQ @KT (bQ @LP (bQ @PF (bQ @GI (bQ @Kh @sg)))))
set_option linter.defProp false in
def EN:=And.intro EVN EV
section
attribute [local irreducible] eX fM lu gK dX kr aq aU cr bJ
def gP{α:Type}{l:List α}{pre r:List α}{n:α}(h:l=pre++n::r):l[pre.length]?=some n:=by rw[h]; simp
def iK{α:Type}{l:List α}{pre r:List α}{n:α}(h:l=pre++n::r):((pre.length:Int)<(l.length:Int))=True:=by rw[h]; simp; omega
def jL{α:Type}{l:List α}{pre:List α}(h:l=pre++[]):((pre.length:Int)<(l.length:Int))=False:=by rw[h]; simp
def Xv{α:Type}{pre:List α}{n:α}:((pre.length:Int)+1)=((pre++[n]).length:Int):=dy
def zp{T:Type}(l:List T)(x:T)(h:(l.length:Int)+1<9223372036854775808:=by omega):IntKind.i64.wrap ((l.length:Int)+1)=((l++[x]).length:Int):=by rw[gv aH aH]; exact Xv
def find(ae:List Node)(ar:Int):Option Node:=ae.find? fun n=>n.ar==ar
def gV(ae:List Node)(ar:Int):Node×Int:=match find ae ar with
 |none=>(Node.zero,70)
 |some n=>if n.kind=2 then (n,0) else (Node.zero,73)
def gq(l:List gI)(s:Bytes):Option gI:=l.find? fun e=>e.name==s
def sS(b:UInt8):Bool := !(decide ((b.toNat:Int)<32)||((b.toNat:Int)==47))
def fU(s:Bytes):Bool := !(decide ((s.length:Int)<1)||(decide ((s.length:Int)>32)||(s==[46]||s==[46,46])))&&s.all sS
def fg(ae:List Node)(ar:Int)(s:Bytes):Int×Int :=
 if (gV ae ar).2≠0 then (0,(gV ae ar).2) else if fU s=false then (0,60) else match gq (gV ae ar).1.bc s with
  |none=>(0,70)
  |some e=>(e.ar,0)
theorem cD{ae:List Node}{ar:Int}{n:Node}(h:find ae ar=some n):n∈ae/\n.ar=ar:=by
 unfold find at h;exact⟨iz h,by simpa using List.find?_some h⟩
def tC{t:Tree}(hs:Small t)(ar:Int):(gV t.ae ar).1.bc.length<=100000:=by
 unfold gV;split
 ·simp[Node.zero]
 ·rename_i n hn;split
  ·exact hs.bc n (cD hn).1
  ·simp[Node.zero]
def zT:List ag:=[.slice .c0 [],.int .i64 0,.int .i64 0]
def ot(n:Node):List Node->List Node->Bool->List Node×Bool
 | [],out,done=>(out,done)
 |m::r,out,done =>
  ot n r ((if !done&&decide (m.ar>=n.ar) then out++[n] else out)++(if m.ar=n.ar then [] else [m])) (done||decide (m.ar>=n.ar))
def eT(ae:List Node)(n:Node):List Node:=(ot n ae [] false).1++(if (ot n ae [] false).2=true then [] else [n])
def fP(ae:List Node)(ar:Int):List Node:=ae.filter fun n=>n.ar != ar
def j8(l:List gI)(s:Bytes):List gI:=l.filter fun e=>e.name != s
def dx(ae:List Node)(ar:Int)(s:Bytes):List Node:=eT ae { (find ae ar).getD Node.zero with bc:=j8 ((find ae ar).getD Node.zero).bc s }
abbrev nw(n:Int):Int:=IntKind.i64.wrap n
def gtB(a b:Bytes):Bool := !(strLt a b||a==b)
def vA(e:gI):List gI->List gI->Bool->List gI×Bool
 | [],out,done=>(out,done)
 |m::r,out,done=>vA e r ((if !done&&gtB m.name e.name then out++[e] else out)++[m]) (done||gtB m.name e.name)
def yZ(l:List gI)(e:gI):List gI:=(vA e l [] false).1++(if (vA e l [] false).2=true then [] else [e])
def il(t:Tree)(ar:Int)(s:Bytes)(of:Int):Tree :=
 ⟨eT t.ae { (find t.ae ar).getD Node.zero with bc:=yZ ((find t.ae ar).getD Node.zero).bc ⟨s,of,t.ak⟩ },t.next,nw (t.ak+1)⟩
def Qs(ae:List Node)(ar:Int):Int:=((find ae ar).getD Node.zero).up
def vZ(ae:List Node):Nat->Int->Nat->Nat
 |0,_,d=>d
 |m+1,ar,d=>if ar=1 then d else vZ ae m (Qs ae ar) (d+1)
def pP(ae:List Node)(ar:Int):Nat:=vZ ae 201 ar 0
def nj(ae:List Node)(of:Int):Nat->Int->Bool
 |0,_=>false
 |m+1,ar=>if ar=of then true else if ar=1 then false else nj ae of m (Qs ae ar)
def iJ(ae:List Node)(ar of:Int):Bool:=nj ae of (ae.length+1) ar
structure Sz(b:Nat)(t:Tree):Prop where
 ae:t.ae.length<=b
 bc:∀n,n∈t.ae->n.bc.length<=b
 data:∀n,n∈t.ae->n.data.length<=100000
def Sz.small{b:Nat}{t:Tree}(h:Sz b t)(hb:b<=100000):Small t:=⟨aY h.ae hb,fun n hn=>aY (h.bc n hn) hb,h.data⟩
def GJ(n:Node):∀(l out:List Node)(d:Bool),(ot n l out d).1.length+(if (ot n l out d).2=true then 0 else 1)<=out.length+l.length+(if d then 0 else 1)
 | [],out,d=>by simp only[ot,az,c8]; exact au _
 |m::r,out,d=>by
  rw[ot];refine aY (GJ n r _ _) ?_;cases d<;>by_cases h1:n.ar<=m.ar<;>by_cases h2:m.ar=n.ar<;>simp[h1,h2]<;>omega
def GK(n:Node):∀(l out:List Node)(d:Bool)(x:Node),x∈(ot n l out d).1->x=n\/x∈out\/x∈l
 | [],out,d,x,h=>by simp[ot] at h; exact .inr (.inl h)
 |m::r,out,d,x,h=>by
  rw[ot] at h;rcases GK n r _ _ x h with h|h|h
  ·exact .inl h
  ·rcases bm.1 h with h|h
   ·split at h
    ·rcases bm.1 h with h|h
     ·exact .inr (.inl h)
     ·exact .inl (by simpa using h)
    ·exact .inr (.inl h)
   ·split at h
    ·cases h
    ·exact .inr (.inr (by simp at h; simp[h]))
  ·exact .inr (.inr (bt _ h))
def GL(ae:List Node)(n:Node):(eT ae n).length<=ae.length+1:=by
 have:=GJ n ae [] false;unfold eT;split at this<;>simp_all
def GM{ae:List Node}{n x:Node}(h:x∈eT ae n):x=n\/x∈ae:=by
 unfold eT at h;rcases bm.1 h with h|h
 ·rcases GK n ae [] false x h with h|h|h
  ·exact .inl h
  ·cases h
  ·exact .inr h
 ·split at h
  ·cases h
  ·exact .inl (by simpa using h)
def Sz.with{b:Nat}{t:Tree}(h:Sz b t){n:Node}(h1:n.bc.length<=b+1)(h2:n.data.length<=100000)(next ak:Int):Sz (b+1) ⟨eT t.ae n,next,ak⟩ :=
 ⟨aY (GL _ _) (by have:=h.ae; simp; omega),fun x hx=>by
  rcases GM hx with rfl|hx
  ·exact h1
  ·exact iW (h.bc x hx),fun x hx=>by
  rcases GM hx with rfl|hx
  ·exact h2
  ·exact h.data x hx⟩
def Sz.up{b c:Nat}{t:Tree}(h:Sz b t)(hbc:b<=c):Sz c t:=⟨aY h.ae hbc,fun n hn=>aY (h.bc n hn) hbc,h.data⟩
def Sz.find{b:Nat}{t:Tree}(h:Sz b t)(ar:Int):((find t.ae ar).getD Node.zero).bc.length<=b/\((find t.ae ar).getD Node.zero).data.length<=100000:=by
 cases hf:Go.Proofs.YteoamaffclmdbaaGreatDoor.find t.ae ar with
 |none=>simp[Node.zero]
 |some n=>exact⟨h.bc n (cD hf).1,h.data n (cD hf).1⟩
def AR(l:List gI)(s:Bytes):(j8 l s).length<=l.length:=bT _ _
def Sz.left{b:Nat}{t:Tree}(h:Sz b t)(ar:Int)(s:Bytes)(next ak:Int):Sz (b+1) ⟨dx t.ae ar s,next,ak⟩ :=
 h.with (n:={ (Go.Proofs.YteoamaffclmdbaaGreatDoor.find t.ae ar).getD Node.zero with bc:=j8 ((Go.Proofs.YteoamaffclmdbaaGreatDoor.find t.ae ar).getD Node.zero).bc s }) (aY (AR _ _) (iW (h.find ar).1)) (h.find ar).2 next ak
def Sz.uU{b:Nat}{t:Tree}(h:Sz b t)(ar:Int)(next ak:Int):Sz b ⟨fP t.ae ar,next,ak⟩ :=
 ⟨aY (bT _ _) h.ae,fun x hx=>h.bc x ((ei.1 hx).1),fun x hx=>h.data x ((ei.1 hx).1)⟩
def DG(t:Tree)(n:Node):Bool:=decide ((64:Int)<=n.bc.length)||(decide ((12:Int)<=pP t.ae n.ar)||decide ((1099511627776:Int)<=t.ak))
def oW(t:Tree)(ar:Int)(s:Bytes):Int :=
 if (gV t.ae ar).2≠0 then (gV t.ae ar).2 else if fU s=false then 60 else if (gq (gV t.ae ar).1.bc s).isSome=true then 71 else if DG t (gV t.ae ar).1 then 76 else 0
def rU(t:Tree)(ar:Int)(s:Bytes)(kind:Int):Tree×Int×Int :=
 if kind != 1&&kind != 2 then (t,0,1) else if oW t ar s != 0 then (t,0,oW t ar s) else
 if decide ((200:Int)<=t.ae.length)||decide ((1099511627776:Int)<=t.next) then (t,0,76) else
 (il ⟨eT t.ae ⟨t.next,kind,1,[],[],if kind==2 then ar else 0⟩,nw (t.next+1),t.ak⟩ ar s t.next,t.next,0)
abbrev bl(ae:List Node)(ar:Int):Node:=(find ae ar).getD Node.zero
def CK(t:Tree)(ar to:Int)(s:Bytes):Tree×Int :=
 if !(find t.ae ar).isSome||((bl t.ae ar).kind==1&&(bl t.ae ar).eE==0) then (t,70) else if (bl t.ae ar).kind==2 then (t,72) else
 if oW t to s != 0 then (t,oW t to s) else
 (il ⟨eT t.ae { bl t.ae ar with eE:=nw ((bl t.ae ar).eE+1) },t.next,t.ak⟩ to s ar,0)
def fm(ae:List Node)(ar:Int):List Node :=
 if (bl ae ar).kind==2 then fP ae ar else eT ae { bl ae ar with eE:=nw ((bl ae ar).eE-1) }
def BN(t:Tree)(ar:Int)(s:Bytes):Tree×Int×Int :=
 if (fg t.ae ar s).2 != 0 then (t,0,(fg t.ae ar s).2) else if decide ((0:Int)<(bl t.ae (fg t.ae ar s).1).bc.length) then (t,0,74) else
 (⟨fm (dx t.ae ar s) (fg t.ae ar s).1,t.next,t.ak⟩,(fg t.ae ar s).1,0)
def uX(ae:List Node)(kind:Int)(y:Int):Int :=
 if !(find ae y).isSome then 0 else if kind==2&&(bl ae y).kind != 2 then 73 else if kind != 2&&(bl ae y).kind==2 then 72 else if decide ((0:Int)<(bl ae y).bc.length) then 74 else 0
def rP(t:Tree)(ar:Int)(data:Bytes):Tree×Int :=
 if !(find t.ae ar).isSome then (t,70) else if (bl t.ae ar).kind==2 then (t,72) else if decide ((4096:Int)<data.length) then (t,2) else
 (⟨eT t.ae { bl t.ae ar with data:=data },t.next,t.ak⟩,0)
def kJ(t:Tree)(ar:Int):Tree×Int :=
 if !(find t.ae ar).isSome then (t,70) else if (bl t.ae ar).kind==2 then (t,72) else if decide ((0:Int)<(bl t.ae ar).eE) then (t,71) else
 (⟨fP t.ae ar,t.next,t.ak⟩,0)
def wK:Tree:=⟨[⟨1,2,0,[],[],1⟩],2,1⟩
def sC(ae:List Node)(ar at' d:Int)(n:Node)(dC:Int):Int :=
 if n.kind==2&&iJ ae n.ar ar then
  (if (if decide ((0:Int)<n.bc.length) then nw (nw (nw (at'+pP ae n.ar)-d)+1) else nw (nw (at'+pP ae n.ar)-d))>dC
   then (if decide ((0:Int)<n.bc.length) then nw (nw (nw (at'+pP ae n.ar)-d)+1) else nw (nw (at'+pP ae n.ar)-d)) else dC)
 else dC
def wc(ae:List Node)(ar at' d:Int):List Node->Int->Int
 | [],dC=>dC
 |n::r,dC=>wc ae ar at' d r (sC ae ar at' d n dC)
def B9(ae:List Node)(ar at':Int):Int:=wc ae ar at' (pP ae ar) ae 0
def jf(l:List gI)(s:Bytes):Int:=match gq l s with
 |none=>0
 |some e=>e.ar
def manyN(t:Tree)(kv to:Int)(bc:List gI)(kind y ar:Int):Bool :=
 ((y==0&&to != kv)&&decide ((64:Int)<=bc.length))||(decide ((12:Int)<=pP t.ae to)||((kind==2&&decide ((12:Int)<B9 t.ae ar (nw (pP t.ae to+1))))||decide ((1099511627776:Int)<=t.ak)))
def tc(t:Tree)(kv:Int)(s:Bytes)(to:Int)(nm:Bytes)(ar y:Int):Tree :=
 il ⟨if (bl t.ae ar).kind==2 then
   eT (if y != 0 then fm (dx (dx t.ae kv s) to nm) y else dx t.ae kv s) { bl t.ae ar with up:=to }
  else if y != 0 then fm (dx (dx t.ae kv s) to nm) y else dx t.ae kv s,t.next,t.ak⟩ to nm ar
def wP(t:Tree)(kv:Int)(s:Bytes)(to:Int)(nm:Bytes):Tree×Int×Int :=
 if (fg t.ae kv s).2 != 0 then (t,0,(fg t.ae kv s).2) else
 if (gV t.ae to).2 != 0 then (t,0,(gV t.ae to).2) else
 if !fU nm then (t,0,60) else
 if jf (gV t.ae to).1.bc nm==(fg t.ae kv s).1 then (t,0,0) else
 if (bl t.ae (fg t.ae kv s).1).kind==2&&iJ t.ae to (fg t.ae kv s).1 then (t,0,75) else
 if uX t.ae (bl t.ae (fg t.ae kv s).1).kind (jf (gV t.ae to).1.bc nm) != 0 then (t,0,uX t.ae (bl t.ae (fg t.ae kv s).1).kind (jf (gV t.ae to).1.bc nm)) else
 if manyN t kv to (gV t.ae to).1.bc (bl t.ae (fg t.ae kv s).1).kind (jf (gV t.ae to).1.bc nm) (fg t.ae kv s).1 then (t,0,76) else
 (tc t kv s to nm (fg t.ae kv s).1 (jf (gV t.ae to).1.bc nm),jf (gV t.ae to).1.bc nm,0)
def Sz.unnamed{b:Nat}{t:Tree}(h:Sz b t)(ar next ak:Int):Sz (b+1) ⟨fm t.ae ar,next,ak⟩:=by
 unfold fm;split
 ·exact(h.uU ar next ak).up aH
 ·exact h.with (n:={ bl t.ae ar with eE:=nw ((bl t.ae ar).eE-1) }) (iW (h.find ar).1) (h.find ar).2 next ak
structure Step.Ok(s:Step):Prop where
 kind:s.kind<256
 a:s.a<256
 b:s.b<256
 n:s.n<256
 m:s.m<256
 data:s.data.length<=100000
def nameOf(n:Nat):Bytes:=match n % 6 with
 |0=>[97]
 |1=>[98]
 |2=>[99]
 |3=>[100]
 |4=>[101]
 |_=>[46,46]
def wB(t:Tree)(n:Nat):Int:=match t.ae[n % (t.ae.length+1)]? with
 |some m=>m.ar
 |none=>t.next
def abX(t:Tree)(s:Step):Tree×Int×Int :=
 if ((s.kind % 8:Nat):Int)==0||((s.kind % 8:Nat):Int)==1 then rU t (wB t s.a) (nameOf s.n) (((s.m % 2:Nat):Int)+1) else
 if ((s.kind % 8:Nat):Int)==2 then ((CK t (wB t s.b) (wB t s.a) (nameOf s.n)).1,0,(CK t (wB t s.b) (wB t s.a) (nameOf s.n)).2) else
 if ((s.kind % 8:Nat):Int)==3 then BN t (wB t s.a) (nameOf s.n) else
 if ((s.kind % 8:Nat):Int)==4||((s.kind % 8:Nat):Int)==5 then wP t (wB t s.a) (nameOf s.n) (wB t s.b) (nameOf s.m) else
 if ((s.kind % 8:Nat):Int)==6 then ((rP t (wB t s.a) s.data).1,0,(rP t (wB t s.a) s.data).2) else
 ((kJ t (wB t s.a)).1,0,(kJ t (wB t s.a)).2)
def Jf(e:gI):∀(l out:List gI)(d:Bool),(vA e l out d).1.length+(if (vA e l out d).2=true then 0 else 1)<=out.length+l.length+(if d then 0 else 1)
 | [],out,d=>by simp only[vA,az,c8]; exact au _
 |m::r,out,d=>by
  rw[vA];refine aY (Jf e r _ _) ?_;cases d<;>cases h1:gtB m.name e.name<;>simp<;>omega
def SR(l:List gI)(e:gI):(yZ l e).length<=l.length+1:=by
 have:=Jf e l [] false;unfold yZ;split at this<;>simp_all
def Sz.nH{b:Nat}{t:Tree}(h:Sz b t)(ar:Int)(s:Bytes)(of:Int):Sz (b+1) (il t ar s of) :=
 h.with (n:={ bl t.ae ar with bc:=yZ (bl t.ae ar).bc ⟨s,of,t.ak⟩ }) (aY (SR _ _) (Nat.succ_le_succ (h.find ar).1)) (h.find ar).2 t.next (nw (t.ak+1))
def Sz.add{b:Nat}{t:Tree}(h:Sz b t)(ar:Int)(s:Bytes)(kind:Int):Sz (b+5) (rU t ar s kind).1:=by
 unfold rU;split
 ·exact h.up aH
 ·split
  ·exact h.up aH
  ·split
   ·exact h.up aH
   ·exact((h.with (n:=⟨t.next,kind,1,[],[],if kind==2 then ar else 0⟩) dy dy (nw (t.next+1)) t.ak).nH ar s t.next).up aH
def Sz.ln{b:Nat}{t:Tree}(h:Sz b t)(ar to:Int)(s:Bytes):Sz (b+5) (CK t ar to s).1:=by
 unfold CK;split
 ·exact h.up aH
 ·split
  ·exact h.up aH
  ·split
   ·exact h.up aH
   ·exact((h.with (n:={ bl t.ae ar with eE:=nw ((bl t.ae ar).eE+1) }) (iW (h.find ar).1) (h.find ar).2 t.next t.ak).nH to s ar).up aH
def Sz.un{b:Nat}{t:Tree}(h:Sz b t)(ar:Int)(s:Bytes):Sz (b+5) (BN t ar s).1:=by
 unfold BN;split
 ·exact h.up aH
 ·split
  ·exact h.up aH
  ·exact((h.left ar s t.next t.ak).unnamed _ t.next t.ak).up aH
def Sz.put{b:Nat}{t:Tree}(h:Sz b t)(ar:Int)(data:Bytes)(hd:data.length<=100000):Sz (b+5) (rP t ar data).1:=by
 unfold rP;split
 ·exact h.up aH
 ·split
  ·exact h.up aH
  ·split
   ·exact h.up aH
   ·exact(h.with (n:={ bl t.ae ar with data:=data }) (iW (h.find ar).1) hd t.next t.ak).up aH
def Sz.free{b:Nat}{t:Tree}(h:Sz b t)(ar:Int):Sz (b+5) (kJ t ar).1:=by
 unfold kJ;split
 ·exact h.up aH
 ·split
  ·exact h.up aH
  ·split
   ·exact h.up aH
   ·exact(h.uU ar t.next t.ak).up aH
def Sz.move{b:Nat}{t:Tree}(h:Sz b t)(kv:Int)(s:Bytes)(to:Int)(nm:Bytes)(ar y:Int):Sz (b+5) (tc t kv s to nm ar y):=by
 unfold tc;have z1:=h.left kv s t.next t.ak
 have z3:=(z1.left to nm t.next t.ak).unnamed y t.next t.ak
 have z:Sz (b+3) ⟨if y != 0 then fm (dx (dx t.ae kv s) to nm) y else dx t.ae kv s,t.next,t.ak⟩:=by
  split
  ·exact z3
  ·exact z1.up aH
 split
 ·exact((z.with (n:={ bl t.ae ar with up:=to }) (aY (h.find ar).1 aH) (h.find ar).2 t.next t.ak).nH to nm ar).up aH
 ·exact(z.nH to nm ar).up aH
def Sz.mv{b:Nat}{t:Tree}(h:Sz b t)(kv:Int)(s:Bytes)(to:Int)(nm:Bytes):Sz (b+5) (wP t kv s to nm).1:=by
 unfold wP
 repeat' split
 all_goals first
  |exact h.up aH
  |exact h.move kv s to nm _ _
def Sz.done{b:Nat}{t:Tree}(h:Sz b t)(s:Step)(hs:s.Ok):Sz (b+5) (abX t s).1:=by
 unfold abX
 repeat' split
 all_goals first
  |exact h.add _ _ _
  |exact h.ln _ _ _
  |exact h.un _ _
  |exact h.mv _ _ _ _
  |exact h.put _ _ hs.data
  |exact h.free _
def Sz.wK:Sz 1 wK:=⟨by simp[Go.Proofs.YteoamaffclmdbaaGreatDoor.wK],fun n hn=>by simp[Go.Proofs.YteoamaffclmdbaaGreatDoor.wK] at hn; subst hn; simp,fun n hn=>by simp[Go.Proofs.YteoamaffclmdbaaGreatDoor.wK] at hn; subst hn; simp⟩
end
end Go.Proofs.YteoamaffclmdbaaGreatDoor
namespace Go.Abs
open Go
def AY{C:eP}{fn:List sN}{bR:Nat}{k:List K}{live:List Nat}{body:cz}{α σ ρ:Type}{xs:List α}(hn:xs.length<=1000000)(go:List α->σ->ρ)(E:σ->Int->Env)(M:σ->aC)(R:ρ->Option (ag×aC))
  (hend:∀s,eX C fn bR (.loop live (M s).length body::k) body (jo (E s xs.length) live) (M s)=R (go [] s))
  (hstep:∀(pre:List α)(x:α)(post:List α)(s:σ),xs=pre++x::post->xs[pre.length]?=some x->((pre.length:Int)<xs.length)=True->IntKind.i64.wrap ((pre.length:Int)+1)=(pre.length:Int)+1->((pre.length:Int)<0)=False->x∈xs ->
   (∀s',eX C fn bR k (.loop live body) (E s' ((pre.length:Int)+1)) (M s')=R (go post s'))->eX C fn bR (.loop live (M s).length body::k) body (jo (E s pre.length) live) (M s)=R (go (x::post) s)) :
  ∀s,eX C fn bR k (.loop live body) (E s 0) (M s)=R (go xs s):=by
 have key:∀(l pre:List α)(s:σ),xs=pre++l->eX C fn bR k (.loop live body) (E s pre.length) (M s)=R (go l s):=by
  intro l;induction l with
  |nil =>
   intro pre s h;rw[bG,show pre.length=xs.length by rw[h]; simp]
   exact hend s
  |cons x r ih =>
   intro pre s h;rw[bG];have hl:pre.length+1<=1000000:=by rw[h] at hn; simp at hn; omega
   refine hstep pre x r s h (by rw[h]; simp) (by rw[h]; simp; omega) (gv aH aH) dy (by rw[h]; simp) fun s'=>?_
   have:=ih (pre++[x]) s' (by rw[h]; simp)
   simpa using this
 intro s;exact key xs [] s rfl
def jc{C:eP}{fn:List sN}{bR:Nat}{k:List K}{live:List Nat}{body:cz}{α σ:Type}{xs:List α}(hn:xs.length<=1000000)(I:Nat->σ->Prop)(E:σ->Int->Env)(M:σ->aC)(Q:ag×aC->Prop)
  (hend:∀s,I xs.length s->∃r,Q r/\eX C fn bR (.loop live (M s).length body::k) body (jo (E s xs.length) live) (M s)=some r)
  (hstep:∀(pre:List α)(x:α)(post:List α)(s:σ),xs=pre++x::post->xs[pre.length]?=some x->((pre.length:Int)<xs.length)=True->IntKind.i64.wrap ((pre.length:Int)+1)=(pre.length:Int)+1->((pre.length:Int)<0)=False->x∈xs->I pre.length s ->
   (∀s',I (pre.length+1) s'->∃r,Q r/\eX C fn bR k (.loop live body) (E s' ((pre.length:Int)+1)) (M s')=some r)->∃r,Q r/\eX C fn bR (.loop live (M s).length body::k) body (jo (E s pre.length) live) (M s)=some r) :
  ∀s,I 0 s->∃r,Q r/\eX C fn bR k (.loop live body) (E s 0) (M s)=some r:=by
 have key:∀(l pre:List α)(s:σ),xs=pre++l->I pre.length s->∃r,Q r/\eX C fn bR k (.loop live body) (E s pre.length) (M s)=some r:=by
  intro l;induction l with
  |nil =>
   intro pre s h hI;have e:pre.length=xs.length:=by rw[h]; simp
   rw[bG,e];exact hend s (by rw[<-e]; exact hI)
  |cons x r ih =>
   intro pre s h hI;rw[bG];have hl:pre.length+1<=1000000:=by rw[h] at hn; simp at hn; omega
   refine hstep pre x r s h (by rw[h]; simp) (by rw[h]; simp; omega) (gv aH aH) dy (by rw[h]; simp) hI fun s' hI'=>?_
   have:=ih (pre++[x]) s' (by rw[h]; simp) (by simpa using hI')
   simpa using this
 intro s hI;exact key xs [] s rfl hI
def yi{α:Type}{a b:List α}{m:Nat}(h:a.take m=b.take m){x:α}(hx:a[m]?=some x)(hy:b[m]?=some x):a.take (m+1)=b.take (m+1):=by
 rw[cB,cB,h,hx,hy]
def Ar{α:Type}{a b:List α}(hl:a.length=b.length)(h:a.take a.length=b.take a.length):a=b:=by
 rw[bE,hl,bE] at h; exact h
def GB(ds:List Bool)(b:Nat)(d:Bool):iP (ds.map ag.bool) b (putCells (.bool d) 0 [.bool true])=(ds.set b true).map ag.bool:=by
 have:putCells (.bool d) 0 [.bool true] = .bool true:=rfl;rw[this,fi,gF]
def abl(ds:List UInt8)(b:Nat)(d x:UInt8):iP (ds.map pt) b (putCells (pt d) 0 [pt x])=(ds.set b x).map pt:=by
 have:putCells (pt d) 0 [pt x]=pt x:=rfl;rw[this,fi,gF]
def qJ{C:eP}{fn:List sN}{bR:Nat}{k:List K}{live:List Nat}{body:cz}{α σ ρ:Type}{xs:List α}(hn:xs.length<=1000000)(I:Nat->σ->Prop)(go:List α->σ->ρ)(E:σ->Int->Env)(M:σ->aC)(R:ρ->Option (ag×aC))
  (hend:∀s,I xs.length s->eX C fn bR (.loop live (M s).length body::k) body (jo (E s xs.length) live) (M s)=R (go [] s))
  (hstep:∀(pre:List α)(x:α)(post:List α)(s:σ),xs=pre++x::post->xs[pre.length]?=some x->((pre.length:Int)<xs.length)=True->IntKind.i64.wrap ((pre.length:Int)+1)=(pre.length:Int)+1->((pre.length:Int)<0)=False->x∈xs->I pre.length s ->
   (∀s',I (pre.length+1) s'->eX C fn bR k (.loop live body) (E s' ((pre.length:Int)+1)) (M s')=R (go post s'))->eX C fn bR (.loop live (M s).length body::k) body (jo (E s pre.length) live) (M s)=R (go (x::post) s)) :
  ∀s,I 0 s->eX C fn bR k (.loop live body) (E s 0) (M s)=R (go xs s):=by
 have key:∀(l pre:List α)(s:σ),xs=pre++l->I pre.length s->eX C fn bR k (.loop live body) (E s pre.length) (M s)=R (go l s):=by
  intro l;induction l with
  |nil =>
   intro pre s h hI;have e:pre.length=xs.length:=by rw[h]; simp
   rw[bG,e];exact hend s (by rw[<-e]; exact hI)
  |cons x r ih =>
   intro pre s h hI;rw[bG];have hl:pre.length+1<=1000000:=by rw[h] at hn; simp at hn; omega
   refine hstep pre x r s h (by rw[h]; simp) (by rw[h]; simp; omega) (gv aH aH) dy (by rw[h]; simp) hI fun s' hI'=>?_
   have:=ih (pre++[x]) s' (by rw[h]; simp) (by simpa using hI')
   simpa using this
 intro s hI;exact key xs [] s rfl hI
def qA{α:Type}(p:α->Bool):List α->Nat->Int
 | [],_ => -1
 |x::r,i=>if p x then (i:Int) else qA p r (i+1)
structure XO{α:Type}(lt:α->Bool)(l:List α)(b:Nat):Prop where
 le:b<=l.length
 lt:∀h n,l[h]?=some n->(lt n=true↔h<b)
def pg{α:Type}(eq:α->Bool)(l:List α)(b:Nat):Bool:=match l[b]? with
 |some n=>eq n
 |none=>false
def Wc(i j:Nat)(hj:j<=100000)(hi:i<=j):IntKind.i64.wrap ((i:Int)+(j:Int))=((i+j:Nat):Int)/\IntKind.u64.wrap ((i+j:Nat):Int)=((i+j:Nat):Int) /\
  (((i+j:Nat):Int)).fdiv (2 ^ min 1 IntKind.u64.bits)=(((i+j) / 2:Nat):Int)/\IntKind.i64.wrap (((i+j) / 2:Nat):Int)=(((i+j) / 2:Nat):Int)/\IntKind.i64.wrap ((((i+j) / 2:Nat):Int)+1)=(((i+j) / 2+1:Nat):Int):=by
 refine⟨?_,?_,?_,?_,?_⟩
 ·rw[gv aH aH]; rfl
 ·have:IntKind.u64.wrap ((i+j:Nat):Int)=((i+j:Nat):Int) % 18446744073709551616:=by simp[IntKind.wrap,IntKind.bits,IntKind.signed]
  rw[this]; omega
 ·have:(2:Int) ^ min 1 IntKind.u64.bits=2:=mi;rw[this,Int.fdiv_eq_ediv_of_nonneg _ aH]; omega
 ·exact gv aH aH
 ·rw[gv aH aH]; rfl
def aiH(C:eP)(fv:ag)(M:aC)(vs:List ag)(r:ag):Prop:=(∃g caps,fv = .func g caps/\aU C g (vs++caps) M=some (r,M))\/∃g fs,fv = .qX g fs/\aU C g (fs++vs) M=some (r,M)
def uR{M:aC}{p:Nat}{b:cI}(h:nth M p=some b):iP M p b=M:=by
 rw[fc] at h; rw[fi];apply cA;intro i
 by_cases e:p=i
 ·subst e; rw[ec (aN h),h]
 ·rw[cJ e]
def cM{C:eP}{f p:Nat}{vs:List ag}{r:ag}{M:aC}{cs:List ag}(hM:nth M p=some (.cells cs))(h:C f (.ptr 0 0::vs) [.cells cs]=some (r,[.cells cs]))(h1:vs.all ag.flat=true:=by exact rfl)(h2:vs.flatMap ag.ids=[]:=by exact rfl)(h3:r.wA=true:=by exact rfl)(h4:vs.map (ag.pj (iv [p]))=vs:=by exact rfl)(h5:r.Ap (wv [p])=r:=by exact rfl)(h6:cs.all ag.vw=true:=by exact rfl)(h7:cs.flatMap ag.nD=[]:=by exact rfl)(h8:cs.map (ag.sf (iv [p]))=cs:=by exact rfl)(h10:cs.map (ag.sf (wv [p]))=cs:=by exact rfl):aU C f (.ptr p 0::vs) M=some (r,M):=by
 have:=ti hM h h1 h2 h3 h4 h5 h6 h7 h8 h6 h10;rwa[uR hM] at this
def lk{C:eP}{f:Nat}{args args':List ag}{M B:aC}{ids:List Nat}{r r':ag}{B' M':aC}(h1:args.all ag.flat=true)(h2:reach M (args.flatMap ag.ids)=ids)(h3:j4 M (iv ids) ids=some B)(h4:kC M ids=ids)
  (h5:args.map (ag.pj (iv ids))=args') (h:C f args' B=some (r,B')) (h6:B'.length=B.length) (h7:r.wA=true) (h8:B'.all cI.flat=true) (h9:r.Ap (wv ids)=r') (h10:mb ids M ids B'=M'):aU C f args M=some (r',M'):=by
 unfold aU;rw[aZ h1,h2,h3];simp only[bN];rw[aZ h4,h5,h];simp only[bN];rw[aZ ⟨h6,h7,h8⟩,h9,h10]
theorem FU{α:Type}(p:α->Bool):∀(l:List α)(i:Nat),decide (0<=qA p l i)=l.any p
 | [],_=>rfl
 |x::r,i=>by
  rw[qA,jR]
  by_cases h:p x=true
  ·grind
  ·simp[h];exact FU p r _
def xd{α:Type}(p:α->Bool)(l:List α):decide (0<=qA p l 0)=l.any p:=FU p l 0
def uG{C:eP}{f p:Nat}{vs:List ag}{r:ag}{M:aC}{cs:List ag}(hM:nth M p=some (.cells cs))(h:C f (vs++[ct 0]) [.cells cs]=some (r,[.cells cs]))(h1:vs.all ag.flat=true)(h2:vs.flatMap ag.ids=[])(h3:r.wA=true)
  (h4:vs.map (ag.pj (iv [p]))=vs) (h5:r.Ap (wv [p])=r) (h6:cs.all ag.vw=true) (h7:cs.flatMap ag.nD=[]) (h8:cs.map (ag.sf (iv [p]))=cs) (h10:cs.map (ag.sf (wv [p]))=cs) :
  aU C f (vs++[ct p]) M=some (r,M):=by
 have hids:(vs++[ag.ptr p 0]).flatMap ag.ids=[p]:=by simp[ag.ids,ag.nD,ag.iG,h2]
 have hi:qq M [p]=[]:=by simp_all [qq,cI.ids]
 have e0:kC M [p]=[p]:=by simp[kC,hi,kb]
 have e1:reach M [p]=[p]:=by
  have ea:kb [] [p]=[p]:=rfl;simp only[reach,ea,e0]
 have hfl:(vs++[ag.ptr p 0]).all ag.flat=true:=by rw[oz,h1]; rfl
 simp_all [aU,j4,iv,cI.flat,cI.pj,bN,ag.pj,aW,ag.sf,ag.um,mb,uR]
def SK(sz:Nat):cz := .seq (.region [ob 9 (.bin .lss (.tmp 8) (.tmp 7))] false [0,1,7,8,9]) (.seq (.cond (.tmp 9) .skip (.exit 0)) (.seq (.block 1 (.seq (.region [ob 10 (.mv (.tmp 8)),ob 5 (.mv (.tmp 10))] false [0,1,5,7,8])
 (.seq (.region [ob 11 (.mv (.tmp 1)),ob 12 (.mv (.tmp 0)),ob 13 (.mv (.tmp 5)),ob 14 (.ub sz (.tmp 12) (.tmp 13)),ob 15 (.mN sz (.tmp 14)),ob 16 (.sw (.tmp 11) [.tmp 15])] false [0,1,5,7,8,16]) (.cond (.tmp 16) (.seq (.region [ob 17 (.mv (.tmp 5)),ob 4 (.mv (.tmp 17))] false [4]) .ret) .skip))))
 (.region [ob 18 (.bin .add (.tmp 8) (.sY (.int .i64 1))),ob 8 (.mv (.tmp 18))] false [0,1,7,8])))
def SL(sz:Nat):eH:=⟨2,[.tmp 4],.seq (.region [ob 4 (.mv (.sY (.int .i64 0)))] false [0,1]) (.seq (.seq (.region [ob 6 (.mv (.tmp 0)),ob 7 (.zZ (.tmp 6)),ob 8 (.mv (.sY (.int .i64 0)))] false [0,1,7,8]) (.block 0 (.loop [0,1,7,8] (SK sz))))
 (.seq (.region [ob 4 (.mv (.sY (.int .i64 (-1))))] false [4]) .ret))⟩
section
variable {T:zt} {f sz:Nat} {α:Type} {e:α->List ag} {xs:List α} {fv:ag} {M:aC}
attribute [local irreducible] eX fM lu gK dX kr aq aU cr bJ
def DJ{p:α->Bool}{N:Nat}(hc:T.code f=some (SL sz))(hp:T.oS f=none)(hn:xs.length<=N)(hz:∀x,(e x).length=sz)(hs:∀x,(e x).map ag.shut=e x)(hf:fv.mH M.length M=fv)(hM:M.map (cI.back M.length M)=M)
  (hk:∀x,x∈xs->aiH (aq T) fv M [.agg (e x)] (.bool (p x))) (hN:N<=900000:=by omega):aq T f [gS (xs.map fun x => .agg (e x)),fv] M=some (aF (qA p xs 0),M):=by
 refine aB ?_ hp hc rfl;have ht:∀x,(e x).take sz=e x:=fun x=>bC (by rw[hz]; exact au _)
 simp only[SL,EV,seval];refine qJ (xs:=xs) aH (fun m s=>s=m) (fun l (s:Nat)=>qA p l s) (fun _ i=>[(0,gS (xs.map fun x => .agg (e x))),(1,fv),(7,aF xs.length),(8,aF i)]) (fun _=>M) (fun r=>some (aF r,M)) (fun s hs'=>?_) (fun pre x post s h hx cG hw h0 hm hI hi=>?_) 0 rfl
 ·simp only[nq (SK.eq_1 sz),qA,br,hM,bE,EV,seval]
 ·have i1:=hi (pre.length+1) rfl;rw[hI,qA];rcases hk x hm with ⟨g,caps,rfl,hq⟩|⟨g,caps,rfl,hq⟩
  all_goals
   simp only[aI,aP,ag.mH,ag.jX,ag.jW] at hq hf;simp only[nq (SK.eq_1 sz),cG,hx,hw,h0,hz,ht,hs,hq,EV,seval];refine bB (fun hb=>?_) (fun hb=>?_)
   ·simp only[hb,hM,bE,EV,seval]
   ·simp only[hb,hw,hf,hM,bE,af,EV,seval];exact i1
def bsB(sz:Nat):cz := .seq (.seq (.region [ob 15 (.mv (.tmp 9)),ob 16 (.mv (.tmp 10)),ob 17 (.bin .lss (.tmp 15) (.tmp 16))] false [0,1,2,8,9,10,17]) (.cond (.tmp 17) .skip (.exit 0)))
 (.block 1 (.seq (.region [ob 18 (.mv (.tmp 9)),ob 19 (.mv (.tmp 10)),ob 20 (.bin .add (.tmp 18) (.tmp 19)),ob 21 (.conv .u64 (.tmp 20)),ob 22 (.bin .shr (.tmp 21) (.sY (.int .u64 1))),ob 23 (.conv .i64 (.tmp 22)),ob 11 (.mv (.tmp 23))] false [0,1,2,8,9,10,11])
  (.seq (.region [ob 24 (.mv (.tmp 2)),ob 25 (.mv (.tmp 0)),ob 26 (.mv (.tmp 11)),ob 27 (.ub sz (.tmp 25) (.tmp 26)),ob 28 (.mN sz (.tmp 27)),ob 29 (.mv (.tmp 1)),ob 30 (.sw (.tmp 24) [.tmp 28,.tmp 29]),ob 31 (.bin .lss (.tmp 30) (.sY (.int .i64 0)))] false [0,1,2,8,9,10,11,31])
   (.cond (.tmp 31) (.region [ob 32 (.mv (.tmp 11)),ob 33 (.bin .add (.tmp 32) (.sY (.int .i64 1))),ob 9 (.mv (.tmp 33))] false [0,1,2,8,9,10]) (.region [ob 34 (.mv (.tmp 11)),ob 10 (.mv (.tmp 34))] false [0,1,2,8,9,10])))))
def bsE(sz:Nat):cz := .seq (.region [ob 35 (.mv (.tmp 9)),ob 36 (.mv (.tmp 9)),ob 37 (.mv (.tmp 8)),ob 38 (.bin .lss (.tmp 36) (.tmp 37)),ob 39 (.mv (.tmp 38)),og 40 39 true (.mv (.tmp 2)),og 41 39 true (.mv (.tmp 0)),og 42 39 true (.mv (.tmp 9)),og 43 39 true (.ub sz (.tmp 41) (.tmp 42)),
 og 44 39 true (.mN sz (.tmp 43)),og 45 39 true (.mv (.tmp 1)),og 46 39 true (.sw (.tmp 40) [.tmp 44,.tmp 45]),og 47 39 true (.bin .eql (.tmp 46) (.sY (.int .i64 0))),ob 48 (.pick (.tmp 39) (.tmp 47) (.sY (.bool false))),ob 6 (.mv (.tmp 35)),ob 7 (.mv (.tmp 48))] false [6,7]) .ret
def bsF(sz:Nat):eH:=⟨3,[.tmp 6,.tmp 7],.seq (.region [ob 6 (.mv (.sY (.int .i64 0))),ob 7 (.mv (.sY (.bool false)))] false [0,1,2]) (.seq (.region [ob 12 (.mv (.tmp 0)),ob 13 (.zZ (.tmp 12)),ob 8 (.mv (.tmp 13))] false [0,1,2,8])
 (.seq (.region [ob 14 (.mv (.tmp 8)),ob 9 (.mv (.sY (.int .i64 0))),ob 10 (.mv (.tmp 14))] false [0,1,2,8,9,10]) (.seq (.block 0 (.loop [0,1,2,8,9,10] (bsB sz))) (bsE sz))))⟩
def Y6{c:α->Int}{key:ag}{b:Nat}(hc:T.code f=some (bsF sz))(hp:T.oS f=none)(hb:XO (fun x=>decide (c x<0)) xs b)(hn:xs.length<=100000)(hz:∀x,(e x).length=sz)(hs:∀x,(e x).map ag.shut=e x)(hf0:(∃g caps,fv = .func g caps)\/∃g fs,fv = .qX g fs)(hf:fv.mH M.length M=fv)
  (hM:M.map (cI.back M.length M)=M) (hk1:key.fR=key) (hk2:key.mH M.length M=key) (hk3:key.jn=false) (hk:∀x,x∈xs->aiH (aq T) fv M [.agg (e x),key] (aF (c x))) :
  aq T f [gS (xs.map fun x => .agg (e x)),key,fv] M=some (.tuple [aF b,.bool (pg (fun x=>c x==0) xs b)],M):=by
 refine aB ?_ hp hc rfl;have ht:∀x,(e x).take sz=e x:=fun x=>bC (by rw[hz]; exact au _)
 have hfp:fv.jn=false:=by rcases hf0 with ⟨g,caps,rfl⟩|⟨g,caps,rfl⟩<;>rfl
 simp only[bsF,hk3,hfp,EV,seval]
 have key:∀(n i j:Nat),j-i<=n->i<=b->b<=j->j<=xs.length->eX (aq T) [.tmp 6,.tmp 7] M.length [.block 0,.seq (bsE sz)] (.loop [0,1,2,8,9,10] (bsB sz)) [(0,gS (xs.map fun x => .agg (e x))),(1,key),(2,fv),(8,aF xs.length),(9,aF i),(10,aF j)] M =
   some (.tuple [aF b,.bool (pg (fun x=>c x==0) xs b)],M):=by
  have fin:∀j:Nat,j<=b->eX (aq T) [.tmp 6,.tmp 7] M.length [.block 0,.seq (bsE sz)] (.loop [0,1,2,8,9,10] (bsB sz)) [(0,gS (xs.map fun x => .agg (e x))),(1,key),(2,fv),(8,aF xs.length),(9,aF b),(10,aF j)] M =
    some (.tuple [aF b,.bool (pg (fun x=>c x==0) xs b)],M):=by
   intro j hj;rw[bG];have cG:((b:Int)<(j:Int))=False:=gh;simp only[nq (bsB.eq_1 sz),bsE,cG,hk3,hfp,EV,seval];unfold pg
   by_cases cG:b<xs.length
   ·have hx:=ai cG;have h1:((b:Int)<(xs.length:Int))=True:=gh;rcases hk _ (aK hx) with ⟨g,caps,rfl,hq⟩|⟨g,caps,rfl,hq⟩
    all_goals
     try simp only[aI,aP] at hq
     simp only[hx,h1,hz,ht,hs,hk1,hk3,hq,hM,bE,EV,seval]
   ·have hx:xs[b]?=none:=fX aH;have h1:((b:Int)<(xs.length:Int))=False:=gh;simp only[hx,h1,hM,bE,EV,seval]
  intro n;induction n with
  |zero =>
   intro i j h1 h2 h3 h4;obtain rfl:i=b:=aH;exact fin j aH
  |succ n ih =>
   intro i j h1 h2 h3 h4
   by_cases hij:i<j
   case neg =>
    obtain rfl:i=b:=aH;exact fin j aH
   rw[bG]
   ·have cG:((i:Int)<(j:Int))=True:=gh;obtain⟨m1,m2,m3,m4,m5⟩:=Wc i j aH aH;have hmid:(i+j) / 2<xs.length:=aH;have hx:=ai hmid;have hl:=hb.lt _ _ hx;rcases hk _ (aK hx) with ⟨g,caps,rfl,hq⟩|⟨g,caps,rfl,hq⟩
    all_goals
     simp only[aI,aP,ag.mH,ag.jX,ag.jW] at hq hf;simp only[nq (bsB.eq_1 sz),cG,m1,m2,m3,m4,hx,hz,ht,hs,hk1,hk2,hk3,hf,hq,EV,seval];refine bB (fun hq=>?_) (fun hq=>?_)
     ·simp only[m5,hk1,hk2,hk3,hf,hM,bE,EV,seval];exact ih ((i+j) / 2+1) j aH (hl.1 (by simpa using hq)) h3 h4
     ·simp only[hk1,hk2,hk3,hf,hM,bE,EV,seval];exact ih i ((i+j) / 2) aH h2 (Nat.not_lt.1 fun h=>by have:=hl.2 h; simp_all) aH
 exact key xs.length 0 xs.length aH aH hb.le aH
def afd(sz:Nat)(ld:fV->kD)(ne:fV->fV->kD):cz := .seq (.region [ob 14 (.bin .lss (.tmp 13) (.tmp 12))] false [0,1,12,13,14]) (.seq (.cond (.tmp 14) .skip (.exit 0)) (.seq (.block 1 (.seq (.region [ob 15 (.mv (.tmp 13)),ob 5 (.mv (.tmp 15))] false [0,1,5,12,13])
 (.seq (.region [ob 16 (.mv (.tmp 0)),ob 17 (.mv (.tmp 5)),ob 18 (.ub sz (.tmp 16) (.tmp 17)),ob 19 (ld (.tmp 18)),ob 20 (.mv (.tmp 1)),ob 21 (.mv (.tmp 5)),ob 22 (.ub sz (.tmp 20) (.tmp 21)),ob 23 (ld (.tmp 22)),ob 24 (ne (.tmp 19) (.tmp 23))] true [0,1,12,13,24])
  (.cond (.tmp 24) (.seq (.region [ob 4 (.mv (.sY (.bool false)))] false [4]) .ret) .skip))))
 (.region [ob 25 (.bin .add (.tmp 13) (.sY (.int .i64 1))),ob 13 (.mv (.tmp 25))] false [0,1,12,13])))
def ak9(sz:Nat)(ld:fV->kD)(ne:fV->fV->kD):eH:=⟨2,[.tmp 4],.seq (.region [ob 4 (.mv (.sY (.bool false)))] false [0,1])
 (.seq (.seq (.region [ob 6 (.mv (.tmp 0)),ob 7 (.zZ (.tmp 6)),ob 8 (.mv (.tmp 1)),ob 9 (.zZ (.tmp 8)),ob 10 (.bin .neq (.tmp 7) (.tmp 9))] false [0,1,10]) (.cond (.tmp 10) (.seq (.region [ob 4 (.mv (.sY (.bool false)))] false [4]) .ret) .skip))
 (.seq (.seq (.region [ob 11 (.mv (.tmp 0)),ob 12 (.zZ (.tmp 11)),ob 13 (.mv (.sY (.int .i64 0)))] false [0,1,12,13]) (.block 0 (.loop [0,1,12,13] (afd sz ld ne)))) (.seq (.region [ob 4 (.mv (.sY (.bool true)))] false [4]) .ret)))⟩
def DI[DecidableEq α]{e:α->ag}{ld:fV->kD}{ne:fV->fV->kD}{a b:List α}(hc:T.code f=some (ak9 sz ld ne))(hp:T.oS f=none)(ha:a.length<=100000)(hz:∀x,(e x).cells.length=sz)(hpn:∀x,(e x).jn=false)
  (hb:∀x,(e x).mH 0 []=e x)
  (hl:∀(bp:Env)(M:aC)(t:Nat)(x:α),hV bp t = .jE (e x).cells->ef (aq T) bp M (ld (.tmp t))=some (e x,M))
  (hn:∀(bp:Env)(M:aC)(t u:Nat)(x y:α),hV bp t=e x->hV bp u=e y->ef (aq T) bp M (ne (.tmp t) (.tmp u))=some (.bool (!decide (x=y)),M)) :
  aq T f [gS (a.map e),gS (b.map e)] []=some (.bool (decide (a=b)),[]):=by
 refine aB ?_ hp hc rfl;simp only[ak9,EV,seval];refine bB (fun hq=>?_) (fun hq=>?_)
 ·have:decide (a=b)=false:=by
   simp at hq ⊢;rintro rfl; exact hq rfl
  simp only[this,EV,seval]
 have dJ:a.length=b.length:=by simp at hq; omega
 simp only[EV,seval];refine qJ (xs:=a) aH (fun m (_:Unit)=>a.take m=b.take m) (fun _ _=>()) (fun _ i=>[(0,gS (a.map e)),(1,gS (b.map e)),(12,aF a.length),(13,aF i)]) (fun _=>[]) (fun _=>some (.bool (decide (a=b)),[])) (fun _ hI=>?_) (fun pre x post s h hx cG hw h0 hm hI hi=>?_) () rfl
 ·have:a=b:=Ar dJ hI;simp only[nq (afd.eq_1 sz ld ne),kf this,br,EV,seval]
 ·have hlt2:pre.length<b.length:=by rw[<-dJ,h]; simp
  obtain⟨y,hy⟩:∃y,b[pre.length]?=some y:=⟨_,ai hlt2⟩;simp only[nq (afd.eq_1 sz ld ne),cG,hx,hy,h0,hz,EV,seval];rw[hl _ _ _ x rfl];simp only[hpn,hy,h0,hz,EV,seval];rw[hl _ _ _ y rfl];simp only[hpn,EV,seval];rw[hn _ _ _ _ x y rfl rfl];simp only[EV,seval];refine bB (fun hq=>?_) (fun hq=>?_)
  ·have:decide (a=b)=false:=iY fun hab=>by
    rw[hab,hy] at hx; injection hx with hx; simp[hx] at hq
   simp only[this,EV,seval]
  ·have hxy:x=y:=by simpa using hq
   subst hxy;simp only[hw,EV,seval];exact hi () (yi hI hx hy)
def afc(sz:Nat)(z:List ag):cz := .seq (.region [ob 18 (.bin .lss (.tmp 17) (.tmp 16))] false [1,2,15,16,17,18]) (.seq (.cond (.tmp 18) .skip (.exit 0)) (.seq (.block 1 (.seq
 (.region [ob 19 (.mv (.tmp 17)),ob 20 (.ub sz (.tmp 15) (.tmp 17)),ob 21 (.mN sz (.tmp 20)),ob 8 (.yO z),ob 7 (.mv (.tmp 19)),ox (.store sz (.tmp 8) (.tmp 21))] false [1,2,7,8,15,16,17])
 (.seq (.region [ob 22 (.mv (.tmp 1)),ob 23 (.mv (.tmp 7)),ob 24 (.ub sz (.tmp 22) (.tmp 23)),ob 25 (.mN sz (.tmp 24)),ob 9 (.yO z),ox (.store sz (.tmp 9) (.tmp 25))] false [1,2,8,9,15,16,17])
  (.seq (.region [ob 26 (.mv (.tmp 2)),ob 27 (.mN sz (.tmp 8)),ob 28 (.mN sz (.tmp 9)),ob 29 (.sw (.tmp 26) [.tmp 27,.tmp 28]),ob 30 (.not (.tmp 29))] false [1,2,15,16,17,30]) (.cond (.tmp 30) (.seq (.region [ob 6 (.mv (.sY (.bool false)))] false [6]) .ret) .skip)))))
 (.region [ob 31 (.bin .add (.tmp 17) (.sY (.int .i64 1))),ob 17 (.mv (.tmp 31))] false [1,2,15,16,17])))
def ak8(sz:Nat)(z:List ag):eH:=⟨3,[.tmp 6],.seq (.region [ob 6 (.mv (.sY (.bool false)))] false [0,1,2])
 (.seq (.seq (.region [ob 10 (.mv (.tmp 0)),ob 11 (.zZ (.tmp 10)),ob 12 (.mv (.tmp 1)),ob 13 (.zZ (.tmp 12)),ob 14 (.bin .neq (.tmp 11) (.tmp 13))] false [0,1,2,14]) (.cond (.tmp 14) (.seq (.region [ob 6 (.mv (.sY (.bool false)))] false [6]) .ret) .skip))
 (.seq (.seq (.region [ob 15 (.mv (.tmp 0)),ob 16 (.zZ (.tmp 15)),ob 17 (.mv (.sY (.int .i64 0)))] false [1,2,15,16,17]) (.block 0 (.loop [1,2,15,16,17] (afc sz z)))) (.seq (.region [ob 6 (.mv (.sY (.bool true)))] false [6]) .ret)))⟩
def adF[DecidableEq α]{z:List ag}{g:Nat}{a b:List α}(hc:T.code f=some (ak8 sz z))(hp:T.oS f=none)(ha:a.length<=100000)(hz:∀x,(e x).length=sz)(hz0:z.length=sz)(hs:∀x,(e x).map ag.shut=e x)
  (hcl:∀x,(e x).all ag.je=true) (hk:∀x y M,x∈a->aU (aq T) g [.agg (e x),.agg (e y)] M=some (.bool (decide (x=y)),M)) :
  aq T f [gS (a.map fun x => .agg (e x)),gS (b.map fun x => .agg (e x)),.func g []] []=some (.bool (decide (a=b)),[]):=by
 refine aB ?_ hp hc rfl;have ht:∀x,(e x).take sz=e x:=fun x=>bC (by rw[hz]; exact au _)
 have hzd:z.drop sz=[]:=iq aH;simp only[ak8,EV,seval];refine bB (fun hq=>?_) (fun hq=>?_)
 ·have:decide (a=b)=false:=by
   simp at hq ⊢;rintro rfl; exact hq rfl
  simp only[this,EV,seval]
 have dJ:a.length=b.length:=by simp at hq; omega
 simp only[EV,seval];refine qJ (xs:=a) aH (fun m (_:Unit)=>a.take m=b.take m) (fun _ _=>()) (fun _ i=>[(1,gS (b.map fun x => .agg (e x))),(2,.func g []),(15,gS (a.map fun x => .agg (e x))),(16,aF a.length),(17,aF i)]) (fun _=>[]) (fun _=>some (.bool (decide (a=b)),[])) (fun _ hI=>?_) (fun pre x post s h hx cG hw h0 hm hI hi=>?_) () rfl
 ·have:a=b:=Ar dJ hI;simp only[nq (afc.eq_1 sz z),kf this,br,EV,seval]
 ·have hlt2:pre.length<b.length:=by rw[<-dJ,h]; simp
  obtain⟨y,hy⟩:∃y,b[pre.length]?=some y:=⟨_,ai hlt2⟩;simp only[nq (afc.eq_1 sz z),cG,hx,hy,h0,hz,ht,hs,hcl,hz0,hzd,hk x y _ hm,EV,seval];refine bB (fun hq=>?_) (fun hq=>?_)
  ·have:decide (a=b)=false:=iY fun hab=>by
    rw[hab,hy] at hx; injection hx with hx; simp[hx] at hq
   simp only[this,EV,seval]
  ·have hxy:x=y:=by simpa using hq
   subst hxy;simp only[hw,EV,seval];exact hi () (yi hI hx hy)
structure Stl(b:cI):Prop where
 back:∀B M,b.back B M=b
 flat:b.flat=true
 pj:∀ρ,b.pj ρ=b
 ids:b.ids=[]
def FV{p:α->Bool}:∀ {l:List α} {i:Nat},qA p l i = -1->l.filter (fun x => !p x)=l
 | [],_,_=>rfl
 |x::l,i,h=>by
  rw[qA] at h;split at h
  ·omega
  ·rename_i hx;rw[mC (by simpa using hx),FV h]
def FW{p:α->Bool}:∀ {l:List α} {i:Nat},qA p l i ≠ -1->∃A x U,l=A++x::U/\qA p l i=((i+A.length:Nat):Int)/\l.filter (fun x => !p x)=A++U.filter fun x => !p x
 | [],_,h=>absurd rfl h
 |x::l,i,h=>by
  rw[qA] at h ⊢;split
  ·rename_i hx; exact⟨[],x,l,rfl,rfl,by rw[List.filter_cons_of_neg (by simpa using hx)]; rfl⟩
  ·rename_i hx;rw[aR hx] at h;obtain⟨A,y,U,h1,h2,h3⟩:=FW h;exact⟨x::A,y,U,by rw[h1]; rfl,by rw[h2]; simp; omega,by rw[mC (by simpa using hx),h3]; rfl⟩
def dlB(sz:Nat)(z:List ag):cz := .seq (.seq (.region [ob 16 (.mv (.tmp 6)),ob 17 (.mv (.tmp 0)),ob 18 (.zZ (.tmp 17)),ob 19 (.bin .lss (.tmp 16) (.tmp 18))] false [0,1,5,6,19]) (.cond (.tmp 19) .skip (.exit 0)))
 (.seq (.block 1 (.seq (.region [ob 22 (.mv (.tmp 0)),ob 23 (.mv (.tmp 6)),ob 24 (.ub sz (.tmp 22) (.tmp 23)),ob 25 (.mN sz (.tmp 24)),ob 7 (.yO z),ox (.store sz (.tmp 7) (.tmp 25))] false [0,1,5,6,7])
  (.seq (.region [ob 26 (.mv (.tmp 1)),ob 27 (.mN sz (.tmp 7)),ob 28 (.sw (.tmp 26) [.tmp 27]),ob 29 (.not (.tmp 28))] false [0,1,5,6,7,29])
   (.cond (.tmp 29) (.seq (.region [ob 30 (.mv (.tmp 0)),ob 31 (.mv (.tmp 5)),ob 32 (.mN sz (.tmp 7)),ob 33 (.ub sz (.tmp 30) (.tmp 31)),ox (.store sz (.tmp 33) (.tmp 32))] false [0,1,5,6]) (.region [ob 34 (.mv (.tmp 5)),ob 35 (.bin .add (.tmp 34) (.sY (.int .i64 1))),ob 5 (.mv (.tmp 35))] false [0,1,5,6])) .skip))))
 (.region [ob 20 (.mv (.tmp 6)),ob 21 (.bin .add (.tmp 20) (.sY (.int .i64 1))),ob 6 (.mv (.tmp 21))] false [0,1,5,6]))
def dlF(sz:Nat)(z zc:List ag)(gi:Nat):eH:=⟨2,[.tmp 4],.seq (.region [ob 4 (.mv (.sY (.slice .c0 [])))] false [0,1])
 (.seq (.region [ob 8 (.mv (.tmp 0)),ob 9 (.mv (.tmp 1)),ob 10 (.call gi [.tmp 8,.tmp 9]),ob 5 (.mv (.tmp 10))] false [0,1,5])
 (.seq (.seq (.region [ob 11 (.mv (.tmp 5)),ob 12 (.bin .eql (.tmp 11) (.sY (.int .i64 (-1))))] false [0,1,5,12]) (.cond (.tmp 12) (.seq (.region [ob 13 (.mv (.tmp 0)),ob 4 (.mv (.tmp 13))] false [4]) .ret) .skip))
 (.seq (.seq (.region [ob 14 (.mv (.tmp 5)),ob 15 (.bin .add (.tmp 14) (.sY (.int .i64 1))),ob 6 (.mv (.tmp 15))] false [0,1,5,6]) (.block 0 (.loop [0,1,5,6] (dlB sz z))))
 (.seq (.region [ob 36 (.mv (.tmp 0)),ob 37 (.mv (.tmp 5)),ob 38 (.uq sz (.tmp 36) (some (.tmp 37)) none none),ox (.w6 sz zc (.tmp 38))] false [0,5])
 (.seq (.region [ob 39 (.mv (.tmp 0)),ob 40 (.mv (.tmp 5)),ob 41 (.uq sz (.tmp 39) none (some (.tmp 40)) none),ob 4 (.mv (.tmp 41))] false [4]) .ret)))))⟩
def afq{p:α->Bool}{X:cI}{g:Nat}(hc:T.code f=some (SL sz))(hp:T.oS f=none)(hn:xs.length<=100000)(hz:∀x,(e x).length=sz)(hs:∀x,(e x).map ag.shut=e x)(hX:Stl X)
  (hk:∀x b M,aU (aq T) g [.agg (e x),ct 1] (b::X::M)=some (.bool (p x),b::X::M)) :
  aq T f [.cv 0 0 sz 0 xs.length,.func g [ct 1]] [.arr sz 0 (xs.map fun x => .agg (e x)),X]=some (aF (qA p xs 0),[.arr sz 0 (xs.map fun x => .agg (e x)),X]):=by
 refine aB ?_ hp hc rfl;have ht:∀x,(e x).take sz=e x:=fun x=>bC (by rw[hz]; exact au _)
 simp only[SL,bO,EV,seval];refine qJ (xs:=xs) aH (fun m s=>s=m) (fun l (s:Nat)=>qA p l s) (fun _ i=>[(0,.cv 0 0 sz 0 xs.length),(1,.func g [ct 1]),(7,aF xs.length),(8,aF i)]) (fun _=>[.arr sz 0 (xs.map fun x => .agg (e x)),X]) (fun r=>some (aF r,[.arr sz 0 (xs.map fun x => .agg (e x)),X])) (fun s hs'=>?_) (fun pre x post s h hx cG hw h0 hm hI hi=>?_) 0 rfl
 ·simp only[nq (SK.eq_1 sz),qA,br,hX.back,EV,seval]
 ·have i1:=hi (pre.length+1) rfl;rw[hI,qA];have hl2:((pre.length:Int)<((xs.length-0:Nat):Int))=True:=cG;simp only[nq (SK.eq_1 sz),cG,hl2,hx,hw,h0,hz,ht,hs,hk,hX.back,EV,seval];refine bB (fun hb=>?_) (fun hb=>?_)
  ·simp only[hb,hX.back,EV,seval]
  ·simp only[hb,hw,hX.back,af,EV,seval];exact i1
def aeU{C:eP}{X:cI}(hX:Stl X){g n:Nat}{row:List ag}{r:Int}(h:C f [.cv 0 0 sz 0 n,.func g [ct 1]] [.arr sz 0 row,X]=some (aF r,[.arr sz 0 row,X])) :
  aU C f [.cv 0 0 sz 0 n,.func g [ct 1]] [.arr sz 0 row,X]=some (aF r,[.arr sz 0 row,X]):=by
 have a1:(cI.arr sz 0 row).ids=[]:=rfl;have a2:(cI.arr sz 0 row).flat=true:=rfl;have a3:∀ρ,(cI.arr sz 0 row).pj ρ = .arr sz 0 row:=fun _=>rfl
 have e1:qq [.arr sz 0 row,X] [0,1]=[]:=by simp[qq,nth,a1,hX.ids]
 have e2:kC [.arr sz 0 row,X] [0,1]=[0,1]:=by simp[kC,e1,kb]
 have e3:reach [.arr sz 0 row,X] [0,1]=[0,1]:=by
  have ea:kb [] [0,1]=[0,1]:=rfl;simp only[reach,ea,e2]
 have e4:[ag.cv 0 0 sz 0 n,.func g [ct 1]].flatMap ag.ids=[0,1]:=rfl;have e5:j4 [.arr sz 0 row,X] (iv [0,1]) [0,1]=some [.arr sz 0 row,X]:=by simp[j4,nth,hX.flat,hX.pj,a2,a3]
 have e6:[ag.cv 0 0 sz 0 n,.func g [ct 1]].map (ag.pj (iv [0,1]))=[.cv 0 0 sz 0 n,.func g [ct 1]]:=rfl;unfold aU;rw[aZ (show[ag.cv 0 0 sz 0 n,.func g [ct 1]].all ag.flat=true from rfl),e4,e3,e5,bN,aZ e2,e6,h,bN,aZ ⟨rfl,rfl,by simp[a2,hX.flat]⟩]
 simp[mb,iP,hX.pj,a3,ag.Ap,ag.pj,ag.sf,ag.um]
def ae7{p:α->Bool}{X:cI}{g N:Nat}{z:List ag}{k:List K}{R:List α->List α->Option (ag×aC)}(hN:N<=100000)(hz:∀x,(e x).length=sz)(hz0:z.length=sz)(hs:∀x,(e x).map ag.shut=e x)(hpl:∀x,(e x).all ag.plainCell=true)(hcl:∀x,(e x).all ag.je=true)(hX:Stl X)
  (hk:∀x b M,aU (aq T) g [.agg (e x),ct 1] (b::X::M)=some (.bool (p x),b::X::M))
  (hx:∀(A G:List α) v q,A.length+G.length=N->G≠[]->kr (aq T) [.tmp 4] 2 k ⟨.exit 0,[(0,.cv 0 0 sz 0 N),(1,.func g [ct 1]),(5,aF A.length),(6,v),(19,q)],[.arr sz 0 ((A++G).map fun x => .agg (e x)),X]⟩=R A G) :
  ∀(U A G:List α),A.length+G.length+U.length=N->G≠[]->∃G',A.length+(U.filter fun x => !p x).length+G'.length=N/\eX (aq T) [.tmp 4] 2 k (.loop [0,1,5,6] (dlB sz z)) [(0,.cv 0 0 sz 0 N),(1,.func g [ct 1]),(5,aF A.length),(6,aF ((A.length+G.length:Nat):Int))] [.arr sz 0 ((A++G++U).map fun x => .agg (e x)),X] =
   R (A++U.filter fun x => !p x) G':=by
 have ht:∀x,(e x).take sz=e x:=fun x=>bC (by rw[hz]; exact au _)
 have hzd:z.drop sz=[]:=iq aH;intro U;induction U with
 |nil =>
  intro A G hl hg;have cG:(((A.length+G.length:Nat):Int)<((N-0:Nat):Int))=False:=by simp only[fH,iff_false]; simp at hl ⊢; omega
  refine⟨G,by simpa using hl,?_⟩
  rw[bG];simp only[nq (dlB.eq_1 sz z),cG,cX,kM,EV,seval];exact hx A G _ _ (by simpa using hl) hg
 |cons x U ih =>
  intro A G hl hg;simp only[aw] at hl;have cG:(((A.length+G.length:Nat):Int)<((N-0:Nat):Int))=True:=sM;have hnn:((0:Int)<=((A.length+G.length:Nat):Int))=True:=sM
  have hat:(A++G++x::U)[A.length+G.length]?=some x:=by
   rw[bj dy]; simp
  have hw:IntKind.i64.wrap (((A.length+G.length:Nat):Int)+1)=((A.length+G.length+1:Nat):Int):=by rw[gv aH aH]; omega
  have hw1:IntKind.i64.wrap ((A.length:Int)+1)=((A.length+1:Nat):Int):=by rw[gv aH aH]; omega
  obtain⟨g0,G0,hG⟩:=fj hg;have hga:(A++G++x::U)[A.length]?=some g0:=by rw[hG]; simp
  have hset:(A++G++x::U).set A.length x=(A++[x])++(G0++[x])++U:=by rw[hG]; simp
  have hlt2:((A.length:Int)<((N-0:Nat):Int))=True:=sM
  have hput:iP ((A++G++x::U).map fun x=>ag.agg (e x)) A.length (putCells (.agg (e g0)) 0 (e x))=((A++[x])++(G0++[x])++U).map fun x=>ag.agg (e x):=by
   have:putCells (.agg (e g0)) 0 (e x) = .agg (e x):=by simp[putCells,mS,hz,iq]
   rw[this,fi,<-hset,gF]
  rw[bG];cases hb:p x
  ·obtain⟨G',h0,h1⟩:=ih (A++[x]) (G0++[x]) (by rw[hG] at hl; simp at hl ⊢; omega) dy
   have hl1:(((A++[x]).length+(G0++[x]).length:Nat):Int)=((A.length+G.length+1:Nat):Int):=by rw[hG]; simp; omega
   have hl3:((A++[x]).length:Int)=((A.length+1:Nat):Int):=dy;have hf:(x::U).filter (fun x => !p x)=x::U.filter fun x => !p x:=mC (by simpa using hb)
   rw[hl1,hl3] at h1;refine⟨G',by rw[hf]; simp at h0 ⊢; omega,?_⟩
   rw[hf,show A++x::U.filter (fun x => !p x)=A++[x]++U.filter fun x => !p x by simp,<-h1]
   simp only[nq (dlB.eq_1 sz z),cG,hnn,hat,hz,hz0,hzd,ht,hs,hcl,hk,hb,hlt2,hga,hput,hpl,hw,hw1,hX.back,EV,seval]
   done
  ·obtain⟨G',h0,h1⟩:=ih A (G++[x]) gh dy;have hl2:((A.length+(G++[x]).length:Nat):Int)=((A.length+G.length+1:Nat):Int):=gh;have hf:(x::U).filter (fun x => !p x)=U.filter fun x => !p x:=List.filter_cons_of_neg (by simpa using hb)
   rw[hl2,show A++(G++[x])++U=A++G++x::U by simp] at h1
   refine⟨G',by rw[hf]; exact h0,?_⟩
   rw[hf,<-h1];simp only[nq (dlB.eq_1 sz z),cG,hnn,hat,hz,hz0,hzd,ht,hs,hcl,hk,hb,hw,hX.back,EV,seval]
   done
def Ds(sz m:Nat):ag:=if m=0 then .slice .sh [] else .cv 0 0 sz 0 m
def adE{p:α->Bool}{X:cI}{g gi:Nat}{z zc:List ag}{zx:α}(hc:T.code f=some (dlF sz z zc gi))(hp:T.oS f=none)(hci:T.code gi=some (SL sz))(hpi:T.oS gi=none)(hzx:e zx=zc)(hn:xs.length<=100000)(hz:∀x,(e x).length=sz)(hz0:z.length=sz)(h1:1<sz)(hs:∀x,(e x).map ag.shut=e x)
  (hpl:∀x,(e x).all ag.plainCell=true) (hcl:∀x,(e x).all ag.je=true) (hX:Stl X) (hk:∀x b M,aU (aq T) g [.agg (e x),ct 1] (b::X::M)=some (.bool (p x),b::X::M)) (h0:xs≠[]) :
  aq T f [.cv 0 0 sz 0 xs.length,.func g [ct 1]] [.arr sz 0 (xs.map fun x => .agg (e x)),X] =
   some (Ds sz (xs.filter fun x => !p x).length,[.arr sz 0 (((xs.filter fun x => !p x)++List.replicate (xs.length-(xs.filter fun x => !p x).length) zx).map fun x => .agg (e x)),X]):=by
 have qi:=aeU hX (afq hci hpi hn hz hs hX hk);refine aB ?_ hp hc rfl
 by_cases hi:qA p xs 0 = -1
 ·have hl:xs.length≠0:=fun hh=>h0 (dM.1 hh)
  have hb:(qA p xs 0 == -1)=true:=by simpa using hi
  rw[FV hi];simp only[dlF,qi,hb,hX.back,EV,seval];simp[Ds,hl]
 ·obtain⟨A,x,U,q1,q2,q3⟩:=FW hi;have hb:(qA p xs 0 == -1)=false:=by simpa using hi
  simp only[aG] at q2;have dJ:xs.length=A.length+(U.length+1):=by rw[q1]; simp
  have hw:IntKind.i64.wrap ((A.length:Int)+1)=((A.length+[x].length:Nat):Int):=by rw[gv aH aH]; simp
  have e1:A++[x]++U=xs:=by rw[q1]; simp
  rw[q2] at hb qi;rw[q3];simp only[dlF,qi,hb,hw,hX.back,EV,seval]
  have hx:∀(A' G:List α) v q,A'.length+G.length=xs.length->G≠[]->kr (aq T) [.tmp 4] 2 [.block 0,.seq (.seq (.region [ob 36 (.mv (.tmp 0)),ob 37 (.mv (.tmp 5)),ob 38 (.uq sz (.tmp 36) (some (.tmp 37)) none none),ox (.w6 sz zc (.tmp 38))] false [0,5]) (.seq (.region [ob 39 (.mv (.tmp 0)),ob 40 (.mv (.tmp 5)),ob 41 (.uq sz (.tmp 39) none (some (.tmp 40)) none),ob 4 (.mv (.tmp 41))] false [4]) .ret))] ⟨.exit 0,[(0,.cv 0 0 sz 0 xs.length),(1,.func g [ct 1]),(5,aF A'.length),(6,v),(19,q)],[.arr sz 0 ((A'++G).map fun x => .agg (e x)),X]⟩ =
    some (Ds sz A'.length,[.arr sz 0 ((A'++List.replicate (xs.length-A'.length) zx).map fun x => .agg (e x)),X]):=by
   intro A' G v q hl hg;have hgl:G.length≠0:=fun hh=>hg (dM.1 hh)
   have b1:(((A'.length:Nat):Int)<=(xs.length:Int))=True:=sM;have b2:(((A'.length:Nat):Int)==(xs.length:Int))=false:=gh;have hN:(A'++G).length=xs.length:=gh;have hd:xs.length-A'.length=G.length:=aH;have hz0:Int.toNat ((0:Nat):Int)=0:=rfl;have hb0:((0:Int)<=((A'.length:Nat):Int))=True:=dy;have hzl:zc.length=sz:=by rw[<-hzx]; exact hz zx
   have hzp:zc.all ag.plainCell=true:=by rw[<-hzx]; exact hpl zx
   have hcl2:((A'++G).map fun x=>ag.agg (e x)).take A'.length++(List.replicate G.length (ag.agg zc)++((A'++G).map fun x=>ag.agg (e x)).drop xs.length)=(A'++List.replicate G.length zx).map fun x=>ag.agg (e x):=by
    rw[<-hN,iq dy];simp[eM,gW,hzx]
   by_cases hA:A'.length=0
   ·have b3:((0:Int)==((A'.length:Nat):Int))=true:=by simp[hA]
    simp only[gw,bO,dL,b1,b2,hd,hcl2,b3,hz0,hb0,hzl,hzp,hX.back,EV,seval];simp[Ds,hA]
   ·have b3:((0:Int)==((A'.length:Nat):Int))=false:=gh;simp only[gw,bO,dL,b1,b2,hd,hcl2,b3,hz0,hb0,hzl,hzp,hX.back,EV,seval];simp[Ds,hA]
  obtain⟨G',g1,g2⟩:=ae7 (R:=fun A' G=>some (Ds sz A'.length,[.arr sz 0 ((A'++List.replicate (xs.length-A'.length) zx).map fun x => .agg (e x)),X])) hn hz hz0 hs hpl hcl hX hk hx U A [x] gh dy
  rw[e1] at g2;simp only[ob,ox,aA,aw,az,aG] at g2;exact g2
end
end Go.Abs
namespace Go.Proofs.YteoamaffclmdbaaGreatDoor
section
open Go Go.Abs
attribute [local irreducible] eX fM lu gK dX kr aq aU cr bJ
def tkN(n:Node):List.take 6 (aL n)=aL n:=rfl
def shN(n:Node):List.map ag.shut (aL n)=aL n:=rfl
def tkE(n:gI):List.take 3 (gd n)=gd n:=rfl
def shE(n:gI):List.map ag.shut (gd n)=gd n:=rfl
def arF(a:Int):aq bW 257 [aF a] []=some (.bool false,[]):=by
 refine aB ?_;simp only[ads,ao6,av,EN,seval]
def as5 a:=cP (arF a)
def qO(a b:Int):Int:=if decide (a<b) then -1 else if decide (b<a) then 1 else 0
def aq4(a b:Int):aq bW 209 [aF a,aF b] []=some (aF (qO a b),[]):=by
 refine aB ?_;simp only[ac0,aiy,as5,EN,seval]
 repeat' ((first|apply bB|apply bU|apply dI)<;>intro hb<;>simp only[hb,EN,aiy,seval])
 all_goals (simp_all only[qO,qv,↓reduceIte,reduceCtorEq,av]; done)
def Zf a b:=cP (aq4 a b)
def xX(a b:Int):(qO a b<0)=(a<b):=by
 unfold qO
 by_cases h1:a<b
 ·simp[h1]
 ·by_cases h2:b<a<;>simp[h1,h2]
theorem G4(a b:Int):(qO a b==0)=(a==b):=by
 unfold qO
 by_cases h1:a<b
 ·have:¬a=b:=aH;simp[h1,this]
 ·by_cases h2:b<a
  ·have:¬a=b:=aH;simp[h1,h2,this]
  ·have:a=b:=aH;simp[this]
def arQ(n:Node)(ar:Int):aq bW 278 [.agg (aL n),aF ar] []=some (aF (qO n.ar ar),[]):=by
 refine aB ?_;simp only[adz,ape,bK,aL,Zf,EN,seval]
def atb n ar:=cP (arQ n ar)
structure Yf(ae:List Node)(ar:Int)(b:Nat):Prop where
 le:b<=ae.length
 lt:∀h n,ae[h]?=some n->(n.ar<ar↔h<b)
def Jj(ae:List Node)(ar:Int)(b:Nat):Bool:=match ae[b]? with
 |some n=>n.ar==ar
 |none=>false
def arJ(ae:List Node)(ar:Int)(b:Nat)(hb:Yf ae ar b)(hn:ae.length<=100000):aq bW 263 [ba ae,aF ar,.func 278 []] []=some (.tuple [aF b,.bool (Jj ae ar b)],[]):=by
 have h:=Y6 (f:=263) (sz:=6) (T:=bW) (c:=fun n:Node=>qO n.ar ar) (e:=aL) (fv := .func 278 []) (key := aF ar) (M:=[]) fz rfl ⟨hb.le,fun h n hn=>by simp only[xX,bh]; exact hb.lt h n hn⟩ hn (fun _=>rfl) (fun _=>rfl) (.inl ⟨_,_,rfl⟩) rfl rfl rfl rfl rfl fun _ _ => .inl ⟨_,_,rfl,atb _ _ _⟩
 simp only[G4] at h;rw[show Jj ae ar b=pg (fun x=>x.ar==ar) ae b by unfold Jj pg; cases ae[b]?<;>rfl]
 exact h
def as7 ae ar b hb hn:=cP (arJ ae ar b hb hn)
def oU(ae:List Node):Prop:=ae.Pairwise fun a b=>a.ar<b.ar
def mh(ae:List Node)(ar:Int):Nat:=(ae.takeWhile fun n=>decide (n.ar<ar)).length
def uO{ae:List Node}(h:oU ae)(ar:Int):Yf ae ar (mh ae ar):=by
 unfold mh;induction ae with
 |nil=>exact⟨dy,fun h n hn=>by simp at hn⟩
 |cons a r ih =>
  obtain⟨h1,h2⟩:=df.1 h;obtain⟨i1,i2⟩:=ih h2
  by_cases ha:a.ar<ar
  ·rw[gN,aZ (by simpa using ha)]
   refine⟨by simpa using i1,fun k n hn=>?_⟩
   cases k with
   |zero=>simp at hn; subst hn; simp[ha]
   |succ k=>rw[i2 k n (by simpa using hn)]; simp
  ·rw[gN,aR (by simpa using ha)]
   refine⟨dy,fun k n hn=>?_⟩
   simp only[az,jJ,iff_false];cases k with
   |zero=>simp at hn; subst hn; exact ha
   |succ k =>
    have:=h1 n (aK (by simpa using hn))
    omega
def th{ae:List Node}(h:oU ae)(ar:Int):(Jj ae ar (mh ae ar)=true/\∃n,ae[mh ae ar]?=some n/\find ae ar=some n/\n.ar=ar)\/(Jj ae ar (mh ae ar)=false/\find ae ar=none):=by
 obtain⟨l1,l2⟩:=uO h ar;cases hf:find ae ar with
 |some n =>
  left;obtain⟨hm,he⟩:=cD hf;obtain⟨k,hk⟩:=bV hm;have hkb:¬k<mh ae ar:=fun hc=>by have:=(l2 k n hk).2 hc; omega
  have hb:mh ae ar<ae.length:=by have:=(aj.1 hk).1; omega
  have hx:=ai hb;have hnl:¬ae[mh ae ar].ar<ar:=fun hc=>ia _ ((l2 _ _ hx).1 hc)
  have hke:k=mh ae ar:=by
   rcases bz (mh ae ar) k with cG|hge
   ·have hkl:=(aj.1 hk).1;have h3:=cd.1 h _ _ hb hkl cG;have h4:ae[k]=n:=by rw[ai hkl] at hk; injection hk
    rw[h4] at h3;omega
   ·omega
  subst hke;exact⟨by unfold Jj; rw[hk]; simp[he],n,hk,rfl,he⟩
 |none =>
  right;refine⟨?_,rfl⟩;unfold Jj;split
  ·rename_i n hn;have:=fx.1 hf n (aK hn);simpa using this
  ·rfl
def arv(ae:List Node)(next ak ar:Int)(h:oU ae)(hn:ae.length<=100000):aq bW 240 [ct 0,aF ar] [cu [ba ae,aF next,aF ak]] =
  some (.tuple [aF (mh ae ar),.bool (Jj ae ar (mh ae ar))],[cu [ba ae,aF next,aF ak]]):=by
 refine aB ?_;have hk:=as7 ae ar _ (uO h ar) hn;simp only[adj,ao0,hk,EN,seval]
def afK ae next ak ar h hn p M hM:=cM (p:=p) (M:=M) hM (arv ae next ak ar h hn)
def c194(ae:List Node)(next ak ar:Int)(h:oU ae)(hn:ae.length<=100000):aq bW 194 [ct 0,aF ar] [cu [ba ae,aF next,aF ak]] =
  some (.tuple [bK (bl ae ar),.bool (find ae ar).isSome],[cu [ba ae,aF next,aF ak]]):=by
 refine aB ?_;have hk:=fun M=>afK ae next ak ar h hn 0 (cu [ba ae,aF next,aF ak]::M) rfl
 simp only[acR,aei,hk,EN,seval];rcases th h ar with ⟨h1,n,h2,h3,h4⟩|⟨h1,h2⟩
 ·simp only[aei,h1,h2,h3,bl,aL,EN,seval];rfl
 ·simp only[aei,h1,h2,bl,EN,seval];rfl
def Fe ae next ak ar h hn p M hM:=cM (p:=p) (M:=M) hM (c194 ae next ak ar h hn)
def aqX(ae:List Node)(next ak ar:Int)(h:oU ae)(hn:ae.length<=100000):aq bW 197 [ct 0,aF ar] [cu [ba ae,aF next,aF ak]] =
  some (.tuple [bK (gV ae ar).1,aF (gV ae ar).2],[cu [ba ae,aF next,aF ak]]):=by
 refine aB ?_;have hk:=fun M=>Fe ae next ak ar h hn 0 (cu [ba ae,aF next,aF ak]::M) rfl
 simp only[acT,X8,hk,bK,aL,EN,seval];unfold gV;cases hf:find ae ar with
 |none=>simp only[X8,bl,hf,Option.isSome,EN,seval]; first|done|rfl
 |some n =>
  simp only[X8,bl,hf,Option.isSome,bA,EN,seval]
  repeat' ((first|apply bB|apply bU|apply dI)<;>intro hb<;>simp only[hb,EN,X8,seval])
  all_goals (clear hk; simp_all [Node.zero])
def Ze ae next ak ar h hn p M hM:=cM (p:=p) (M:=M) hM (aqX ae next ak ar h hn)
end
section
open Go
set_option maxRecDepth 100000 in
def MN{s pre r:List UInt8}{n:UInt8}(h:s=pre++n::r) :
  (n.toNat<128/\Utf8.decode ⟨s.toArray⟩ pre.length=(n.toNat,1)) \/
  ∃c m r',n::r=m++r'/\m≠[]/\(∀b,b∈m->128<=b.toNat)/\128<=c/\c<2147483648/\Utf8.decode ⟨s.toArray⟩ pre.length=(c,m.length):=by
 have hg:∀k,(⟨s.toArray⟩:ByteArray).get! (pre.length+k)=(n::r).getD k 0:=fun k=>by
  subst h
  show((pre++n::r).toArray)[pre.length+k]! = _
  simp only[List.getElem!_toArray,List.getElem!_eq_getElem?_getD,lg];rw[bj aH,iV];rfl
 have hsz:(⟨s.toArray⟩:ByteArray).size=pre.length+(n::r).length:=by
  show s.toArray.size=_
  subst h; simp
 by_cases hn:n.toNat<128
 ·refine .inl ⟨hn,?_⟩;have h0:=hg 0;simp only[c8,List.getD_cons_zero] at h0;simp[Utf8.decode,h0,hn]
 ·refine .inr ?_;have hn':128<=n.toNat:=aH;have h0:=hg 0;have h1:=hg 1;have h2:=hg 2;have h3:=hg 3;simp only[c8,List.getD_cons_zero,List.getD_cons_succ] at h0 h1 h2 h3
  have one:∀c,128<=c->c<2147483648->Utf8.decode ⟨s.toArray⟩ pre.length=(c,1)->∃c m r',n::r=m++r'/\m≠[]/\(∀b,b∈m->128<=b.toNat)/\128<=c/\c<2147483648/\Utf8.decode ⟨s.toArray⟩ pre.length=(c,m.length) :=
   fun c hc hc2 hd=>⟨c,[n],r,rfl,dy,by simpa using hn',hc,hc2,hd⟩
  have big:∀k,k<r.length->128<=(r.getD k 0).toNat->∃b,r[k]?=some b/\128<=b.toNat:=fun k hk hb=>by
   refine⟨r[k],ai hk,?_⟩;simpa[lg,ai hk] using hb
  have cG:¬n.toNat<0x80:=aH;have hN:n.toNat<256:=n.toNat_lt;unfold Utf8.decode at one ⊢;simp only[c8,h0,h1,h2,h3,hsz,aw,cG,aD] at one ⊢
  by_cases hA:(n.toNat / 32==6&&(decide (pre.length+1<pre.length+(r.length+1))&&(r.getD 0 0).toNat / 64==2))=true
  ·simp only[hA,aJ] at one ⊢;simp only[bw,eG,bh] at hA;obtain⟨hA1,hA2,hA3⟩:=hA
   by_cases hc:n.toNat % 32*64+(r.getD 0 0).toNat % 64>=0x80
   ·simp only[hc,aJ] at one ⊢;obtain⟨b0,g0,g1⟩:=big 0 aH aH
    match r,g0 with
    |_::r',g0 =>
     cases g0;exact⟨_,[n,_],r',rfl,dy,by simp[hn',g1],hc,aH,rfl⟩
   ·simp only[hc,aD] at one ⊢;exact one _ mi mi rfl
  ·simp only[hA,aD] at one ⊢
   by_cases hB:(n.toNat / 16==14&&(decide (pre.length+1<pre.length+(r.length+1))&&(r.getD 0 0).toNat / 64==2)&&(decide (pre.length+2<pre.length+(r.length+1))&&(r.getD 1 0).toNat / 64==2))=true
   ·simp only[hB,aJ] at one ⊢;simp only[bw,eG,bh] at hB;obtain⟨⟨hB1,hB2,hB3⟩,hB4,hB5⟩:=hB
    by_cases hc:((n.toNat % 16*4096+(r.getD 0 0).toNat % 64*64+(r.getD 1 0).toNat % 64>=0x800:Bool)&&Utf8.valid ((n.toNat % 16*4096+(r.getD 0 0).toNat % 64*64+(r.getD 1 0).toNat % 64:Nat):Int))=true
    ·simp only[hc,aJ] at one ⊢;simp only[bw,bh] at hc;obtain⟨b0,g0,g1⟩:=big 0 aH aH;obtain⟨b1,k0,k1⟩:=big 1 aH aH
     match r,g0,k0 with
     |_::_::r',g0,k0 =>
      cases g0;cases k0;exact⟨_,[n,_,_],r',rfl,dy,by simp[hn',g1,k1],aH,aH,rfl⟩
    ·simp only[hc,aD] at one ⊢;exact one _ mi mi rfl
   ·simp only[hB,aD] at one ⊢
    by_cases hC:(n.toNat / 8==30&&(decide (pre.length+1<pre.length+(r.length+1))&&(r.getD 0 0).toNat / 64==2)&&(decide (pre.length+2<pre.length+(r.length+1))&&(r.getD 1 0).toNat / 64==2)&&(decide (pre.length+3<pre.length+(r.length+1))&&(r.getD 2 0).toNat / 64==2))=true
    ·simp only[hC,aJ] at one ⊢;simp only[bw,eG,bh] at hC;obtain⟨⟨⟨hB1,hB2,hB3⟩,hB4,hB5⟩,hB6,hB7⟩:=hC
     by_cases hc:((n.toNat % 8*262144+(r.getD 0 0).toNat % 64*4096+(r.getD 1 0).toNat % 64*64+(r.getD 2 0).toNat % 64>=0x10000:Bool)&&Utf8.valid ((n.toNat % 8*262144+(r.getD 0 0).toNat % 64*4096+(r.getD 1 0).toNat % 64*64+(r.getD 2 0).toNat % 64:Nat):Int))=true
     ·simp only[hc,aJ] at one ⊢;simp only[bw,bh] at hc;obtain⟨b0,g0,g1⟩:=big 0 aH aH;obtain⟨b1,k0,k1⟩:=big 1 aH aH;obtain⟨b2,l0,l1⟩:=big 2 aH aH
      match r,g0,k0,l0 with
      |_::_::_::r',g0,k0,l0 =>
       cases g0;cases k0;cases l0;exact⟨_,[n,_,_,_],r',rfl,dy,by simp[hn',g1,k1,l1],aH,aH,rfl⟩
     ·simp only[hc,aD] at one ⊢;exact one _ mi mi rfl
    ·simp only[hC,aD] at one ⊢;exact one _ mi mi rfl
end
section
open Go Go.Abs
section
attribute [local irreducible] eX fM lu gK dX kr aq aU cr bJ
def pd(_:Bytes):Prop:=True
def all_true{m:Bytes}(h:∀b,b∈m->128<=b.toNat):m.all sS=true:=by
 rw[bM];intro b hb;have:=h b hb;have h1:¬((b.toNat:Int)<32):=aH;have h2:¬((b.toNat:Int)=47):=aH;simp[sS,h1,h2]
def aap{s:Bytes}(hs:s.length<=100000)(ha:pd s){k:List K}{R:Bool->Option (ag×aC)}
  (hx:∀e p,kr (aq bW) [.tmp 2] 0 k ⟨.exit 0,e,[.nS s p]⟩=R true) (hr:∀p,kr (aq bW) [.tmp 2] 0 k ⟨.ret,[(2,.bool false)],[.nS s p]⟩=R false) :
  ∀(q:Nat)(l pre:Bytes),l.length<=q->s=pre++l->eX (aq bW) [.tmp 2] 0 k (.loop [21] Ns) [(21,.j7 0)] [.nS s pre.length]=R (l.all sS):=by
 intro q;induction q with
 |zero =>
  intro l pre hq h;have h0:l=[]:=dB aH;subst h0;rw[bG];have cG:(pre.length<s.length)=False:=by rw[h]; simp
  simp only[wF,cG,EN,seval];exact hx _ _
 |succ q ih =>
  intro l pre hq h;cases l with
  |nil =>
   rw[bG];have cG:(pre.length<s.length)=False:=by rw[h]; simp
   simp only[wF,cG,EN,seval];exact hx _ _
  |cons n r =>
   rw[bG];have cG:(pre.length<s.length)=True:=by rw[h]; simp
   rcases MN h with ⟨hn,hd⟩|⟨c,m,r',hm,hne,hb,hc,hc2,hd⟩
   ·have hi:=ih r (pre++[n]) (by simp at hq; omega) (by rw[h]; simp)
    simp only[aA,aw,az,aG] at hi;simp only[wF,cG,hd,EN,seval]
    repeat' ((first|apply bB|apply bU|apply dI)<;>intro hb<;>simp only[hb,wF,hd,EV,seval])
    all_goals first
     |(refine(hr _).trans ?_; congr 1; symm; clear hi ih hx hr hd h; simp_all [sS]; done)
     |(refine hi.trans ?_; congr 1; symm; clear hi ih hx hr hd h; simp_all [sS]; done)
   ·have hml:0<m.length:=gM.2 hne;have hl2:(n::r).length=m.length+r'.length:=by rw[hm]; simp
    have hi:=ih r' (pre++m) (by simp at hq hl2; omega) (by rw[h,hm]; simp)
    simp only[aA] at hi;have h32:decide ((c:Int)<32)=false:=gh;have h47:((c:Int)==47)=false:=by rw[ke]; omega
    rw[hm,oz,all_true hb,dZ];simp only[wF,cG,hd,h32,h47,EN,seval];exact hi
def c198(s:Bytes)(hs:s.length<=100000)(ha:pd s):aq bW 198 [.str s] []=some (.bool (fU s),[]):=by
 refine aB ?_;simp only[I4,wF,EN,seval];have hl:=fun k hx hr=>aap (k:=k) (R:=fun b=>some (ag.bool b,[])) hs ha hx hr s.length s [] (au _) rfl
 have he:(s==[])=decide ((s.length:Int)<1):=by cases s<;>simp; omega
 rw[he]
 repeat' ((first|apply bB|apply bU|apply dI)<;>intro hb<;>simp only[hb,EN,wF,seval])
 all_goals first
  |(clear hl he; simp_all [fU]; done)
  |(refine(hl _ (fun e p=>by simp only[wF,EN,seval]) (fun p=>by simp only[wF,EN,seval])).trans ?_; clear hl he; simp_all [fU]; done)
def afH s hs ha:=cP (c198 s hs ha)
def atc(a b:Bytes)(M:aC):aU (aq bW) 286 [.str a,.str b] M=some (aF (Lib.compareBytes a b),M) :=
 cO (fe (g:=Ae) rfl rfl) M
def arB(a b:Bytes):aq bW 251 [.str a,.str b] []=some (aF (Lib.compareBytes a b),[]):=by
 refine aB ?_;simp only[ado,ao4,atc,EN,seval]
def as1 a b:=cP (arB a b)
def MJ:∀(a b:Bytes),(Lib.compareBytes a b<0)=(strLt a b=true)
 | [],[]=>by simp[Lib.compareBytes,strLt]
 | [],_::_=>by simp[Lib.compareBytes,strLt]
 |_::_,[]=>by simp[Lib.compareBytes,strLt]
 |a::x,b::y=>by
  rw[Lib.compareBytes,strLt]
  by_cases h1:a<b
  ·simp[h1]
  ·by_cases h2:b<a
   ·have h3:¬a=b:=by rintro rfl; exact oM _ h2
    simp[h1,h2,h3]
   ·have h3:a=b:=by rw[<-kN]; simp only[kY] at h1 h2; omega
    subst h3;simp[h1,MJ x y]
def MI:∀(a b:Bytes),(Lib.compareBytes a b==0)=(a==b)
 | [],[]=>by simp[Lib.compareBytes]
 | [],_::_=>by simp[Lib.compareBytes]
 |_::_,[]=>by simp[Lib.compareBytes]
 |a::x,b::y=>by
  rw[Lib.compareBytes]
  by_cases h1:a<b
  ·have h3:¬a=b:=by rintro rfl; exact oM _ h1
   simp[h1,h3]
  ·by_cases h2:b<a
   ·have h3:¬a=b:=by rintro rfl; exact oM _ h2
    simp[h1,h2,h3]
   ·have h3:a=b:=by rw[<-kN]; simp only[kY] at h1 h2; omega
    subst h3;simp only[h1,aD,MI x y];simp
def arA(e:gI)(s:Bytes):aq bW 250 [.agg (gd e),.str s] []=some (aF (Lib.compareBytes e.name s),[]):=by
 refine aB ?_;simp only[adn,ao3,iE,gd,as1,EN,seval]
def as0 e s:=cP (arA e s)
structure Ov(bc:List gI)(s:Bytes)(b:Nat):Prop where
 le:b<=bc.length
 lt:∀h n,bc[h]?=some n->(strLt n.name s=true↔h<b)
def zX(bc:List gI)(s:Bytes)(b:Nat):Bool:=match bc[b]? with
 |some n=>n.name==s
 |none=>false
def arz(bc:List gI)(s:Bytes)(b:Nat)(hb:Ov bc s b)(hn:bc.length<=100000):aq bW 249 [ja bc,.str s,.func 250 []] []=some (.tuple [aF b,.bool (zX bc s b)],[]):=by
 have h:=Y6 (f:=249) (sz:=3) (T:=bW) (c:=fun n:gI=>Lib.compareBytes n.name s) (e:=gd) (fv := .func 250 []) (key := .str s) (M:=[]) fz rfl ⟨hb.le,fun h n hn=>by simp only[MJ,bh]; exact hb.lt h n hn⟩ hn (fun _=>rfl) (fun _=>rfl) (.inl ⟨_,_,rfl⟩) rfl rfl rfl rfl rfl fun _ _ => .inl ⟨_,_,rfl,as0 _ _ _⟩
 simp only[MI] at h;rw[show zX bc s b=pg (fun x=>x.name==s) bc b by unfold zX pg; cases bc[b]?<;>rfl]
 exact h
def asZ bc s b hb hn:=cP (arz bc s b hb hn)
def re(l:List gI):Prop:=l.Pairwise fun a b=>strLt a.name b.name=true
def mr(l:List gI)(s:Bytes):Nat:=(l.takeWhile fun n=>strLt n.name s).length
def aqY(n:Node)(s:Bytes)(b:Nat)(hb:Ov n.bc s b)(hn:n.bc.length<=100000):aq bW 199 [bK n,.str s] []=some (.tuple [aF b,.bool (zX n.bc s b)],[]):=by
 refine aB ?_;have hk:=asZ n.bc s b hb hn;simp only[acU,aoM,bK,aL,hk,EN,seval]
def S3(a b c:Int)(d:Bytes)(e:List gI)(u:Int)(s:Bytes)(i:Nat)(hb:Ov e s i)(hn:e.length<=100000)(M:aC):aU (aq bW) 199 [.agg [aF a,aF b,aF c,cR d,ja e,aF u],.str s] M=some (.tuple [aF i,.bool (zX e s i)],M) :=
 cO (aqY ⟨a,b,c,d,e,u⟩ s i hb hn) M
end
section
open Go.RowKit Go.Shelf
def Fm{α:Type}(b0:Nat)(F:Fence)(n:Nat)(P:Program)(g:Nat)(lb:Array Value)(encs:α->Array Value)(Kp:World->World->Prop)(S Sp:List α->Prop)(N:Nat)(w:World):Prop :=
 ∀(l:Nat)(J Jx:List α->World->Prop)(W:World),Below w.heap.size w W->AbidesFrom W.heap.size J->AbidesFrom W.heap.size Jx->(∀s A v,J s A->J s (A.setCell ⟨b0,0,none⟩ v)) ->
  (∀pre x W1,J pre W1->pre.length<N->YieldAt F (n-1) P l (encs x) W1 fun e W' =>
   (e = .returned (.bool true)/\J (pre++[x]) W'/\Kp W1 W')\/(e = .returned (.bool false)/\Jx (pre++[x]) W')) ->
  J [] W ->
  CallsIn F n P g (#[.func (.yield l) #[] #[]]++lb) W fun e W'=>(∃v,e = .returned v)/\((∃xs,S xs/\J xs W')\/(∃pre,Sp pre/\Jx pre W'))
def yp{F:Fence}{n:Nat}{P:Program}{b0:Nat}{α:Type}{g:Operand}{ps:Array Tmp}{assign body:Code}{Q:Exit->Act->World->Prop}{a:Act}{w:World}(hb0w:b0<w.heap.size)
  (hro:F.round=none) (h1:1<=n) {gf:Nat} {lb:Array Value} (hg:a.eval g = .func (.func gf) #[] lb) (hFg:F.fn gf) (eg:∀args w,(callFunc gf args).run P w = .ok (.enter gf args) w)
  {encs:α->Array Value} {Kp:World->World->Prop} {S Sp:List α->Prop} {N:Nat} {w0:World} (hseq:Fm b0 F (n-1) P gf lb encs Kp S Sp N w0)
  (hKt:∀ {A B C:World},Kp A B->Kp B C->Kp A C) (hKb:∀(W:World)(l:Nat)(o o':Obj),w.heap.size<=l->W.heap[l]?=some o->o.isCells=false->o.isWalk=false->Kp W (W.putObj l o')) (hb0:Below w0.heap.size w0 w) (hps:∀x,(encs x).size=ps.size)
  (I:List α->World->Prop) (Ix:Code->List α->World->Prop) (hI:OwnFrom w.heap.size I) (hIx:∀c,OwnFrom w.heap.size (Ix c)) (hIc:∀s A v,I s A->I s (A.setCell ⟨b0,0,none⟩ v)) (h0:I [] w) (a₁:α->Act)
  (hassign:∀(l:Nat)(x:α)(W:World)(K:Act->World->Prop),K (a₁ x) W ->
   assign.wpIn (F.inRound l) (n-1-1) P (Exit.then K (fun _ _ _=>False)) { tmps:=(ps.zip (encs x)).foldl (fun t (p,v)=>t.setIfInBounds p v) a.tmps,defers:=[] } W)
  (hbody:∀(l:Nat)(pre:List α)(x:α)(W:World),I pre W->pre.length<N->body.wpIn (F.inRound l) (n-1-1) P (ownPostK Kp I Ix (pre++[x]) W) (a₁ x) W)
  (hdone:∀(D:Nat)(xs:List α)(W:World),w.heap.size<=D->S xs->I xs W->W.heap[D]?=some (.deferred (some []))->Q .normal { a with defers:={ target := .collected D,args := #[] }::a.defers } W)
  (hstop:∀(D:Nat)(c:Code)(pre:List α)(W:World),w.heap.size<=D->Sp pre->Ix c pre W->W.heap[D]?=some (.deferred (some []))->c.wpIn F n P Q { a with defers:={ target := .collected D,args := #[] }::a.defers } W) :
  (Code.rangeFunc g ps assign body).wpIn F n P Q a w:=by
 refine wpIn_rangeFunc ?_;intro fn hfn;rw[hro];obtain⟨rec,hrec⟩:∃rec:LoopState->Option Code->Loop,rec=fun st pe=>{ state:=st,pending:=pe,fn,tmps:=a.tmps,params:=ps,assign,body,defers:=w.heap.size }:=⟨_,rfl⟩
 obtain⟨W1,hW1⟩:∃W1,(w.alloc (.deferred (some []))).alloc (.loop (rec .ready none))=W1:=⟨_,rfl⟩
 have hL1:W1.heap[w.heap.size+1]?=some (.loop (rec .ready none)):=by
  rw[<-hW1]; have:=World.alloc_heap_new (w.alloc (.deferred (some []))) (.loop (rec .ready none)); rwa[World.size_alloc] at this
 have hK1:W1.heap[w.heap.size]?=some (.deferred (some [])):=by
  rw[<-hW1]; exact(Below.heap_alloc _ _ _ dy).trans (World.alloc_heap_new w _)
 have hI1:I [] W1:=by rw[<-hW1]; exact hI.alloc _ (hI.alloc _ h0)
 have hb1:Below w0.heap.size w0 W1:=by
  rw[<-hW1]; exact hb0.trans ((((Below.refl _ w).alloc (au _) _).alloc dy _).mono hb0.size)
 refine⟨w.heap.size+1,[{ target := .collected w.heap.size,args := #[] }],W1,{ target := .fn (.func gf) lb,args := #[.func (.yield (w.heap.size+1)) #[] #[]] },W1,gf,
  #[.func (.yield (w.heap.size+1)) #[] #[]]++lb,W1,?_,?_,?_,?_,fun _=>h1,?_⟩
 ·rw[<-hW1,hrec]; exact run_enterLoop_outer _ _ _ _ _
 ·simp only[resolve,hg];simp[go_sem]
 ·intro f' hf'; simp[Target.leads] at hf'; subst hf'; exact hFg
 ·simp[invoke,go_sem,eg]
 ·have hnw:∀ {A B:World} {row:Option Nat},(∀r,row=some r->W1.heap.size<=r/\∃o:Obj,A.heap[r]?=some o/\o.isWalk=true)->(∀r,row=some r->w.heap.size<=r/\∃o:Obj,A.heap[r]?=some o/\o.isCells=false) :=
   fun hr r e=>by obtain⟨hB,o,ho,hw⟩:=hr r e; exact⟨by rw[<-hW1] at hB; simp at hB; omega,o,ho,Obj.not_cells_of_walk hw⟩
  refine(hseq (w.heap.size+1)
   (fun pre W=>I pre W/\W.heap[w.heap.size+1]?=some (.loop (rec .ready none))/\W.heap[w.heap.size]?=some (.deferred (some [])))
   (fun pre W=>∃c,Ix c pre W/\W.heap[w.heap.size+1]?=some (.loop (rec .done (some c)))/\W.heap[w.heap.size]?=some (.deferred (some [])))
   W1 hb1
   (fun s A B row hs hg' hr=>⟨hI s A B row hs.1 hg' (hnw (B:=B) hr),(grownBy_keeps hg' (fun r e=>(hr r e).2) hs.2.1 rfl).trans hs.2.1,(grownBy_keeps hg' (fun r e=>(hr r e).2) hs.2.2 rfl).trans hs.2.2⟩)
   (fun s A B row hs hg' hr=>by
    obtain⟨c,hc,hl,hk⟩:=hs;exact⟨c,hIx c s A B row hc hg' (hnw (B:=B) hr),(grownBy_keeps hg' (fun r e=>(hr r e).2) hl rfl).trans hl,(grownBy_keeps hg' (fun r e=>(hr r e).2) hk rfl).trans hk⟩)
   (fun s A v hs=>⟨hIc s A v hs.1,(Below.heap_setCell _ _ _ _ (by show _≠b0; omega)).trans hs.2.1,(Below.heap_setCell _ _ _ _ (by show _≠b0; omega)).trans hs.2.2⟩)
   ?_ ⟨hI1,hL1,hK1⟩).mono ?_
  ·rintro pre x W ⟨hi,hl,hk⟩ dJ;have cG:w.heap.size+1<W.heap.size:=(fJ.1 hl).1;have hy:=run_yield (P:=P) (args:=encs x) hl (by rw[hrec]; exact hps x)
   rw[hrec] at hy;refine⟨fn,_,assign,body,hy,roundIn_of_wpIn hfn (hassign _ x W _ ⟨_,run_beginRound hl (by rw[hrec]),?_⟩)⟩
   have hl2:(W.putObj (w.heap.size+1) (.loop { rec .ready none with state := .busy })).heap[w.heap.size+1]?=some (.loop { rec .ready none with state := .busy }):=World.putObj_heap_same cG
   have hk2:(W.putObj (w.heap.size+1) (.loop { rec .ready none with state := .busy })).heap[w.heap.size]?=some (.deferred (some [])):=(World.putObj_heap_other aH).trans hk
   have hw2:Kp W (W.putObj (w.heap.size+1) (.loop { rec .ready none with state := .busy })):=hKb _ _ _ _ aH hl rfl rfl
   refine wpIn_mono (hbody _ pre x _ (hI.putObj _ hi aH hl rfl) dJ) ?_
   have fin:∀(jump:Option Code)(W3:World),KeepsOthers (W.putObj (w.heap.size+1) (.loop { rec .ready none with state := .busy })) W3 ->
     (Instr.endRound (w.heap.size+1) jump).run P W3 = .ok (.bool jump.isNone) (W3.putObj (w.heap.size+1) (.loop (rec (if jump.isNone then .ready else .done) jump))) /\
     W3.heap[w.heap.size+1]?=some (.loop { rec .ready none with state := .busy }) /\
     (W3.putObj (w.heap.size+1) (.loop (rec (if jump.isNone then .ready else .done) jump))).heap[w.heap.size+1]?=some (.loop (rec (if jump.isNone then .ready else .done) jump)) /\
     (W3.putObj (w.heap.size+1) (.loop (rec (if jump.isNone then .ready else .done) jump))).heap[w.heap.size]?=some (.deferred (some [])):=fun jump W3 hk3=>by
    have hl3:=hk3.same _ _ hl2 rfl;have:=run_endRound (P:=P) jump hl3;rw[hrec] at this ⊢;exact⟨this,by rw[hrec] at hl3; exact hl3,World.putObj_heap_same (fJ.1 hl3).1,(World.putObj_heap_other aH).trans (hk3.same _ _ hk2 rfl)⟩
   rintro e a3 W3 hp;cases e with
   |normal =>
    obtain⟨hk3,hkp3,hi3⟩:=hp;obtain⟨hr,hl3,hl4,hk4⟩:=fin none W3 hk3;exact⟨_,_,hr,.inl ⟨rfl,⟨hI.putObj _ hi3 aH hl3 rfl,hl4,hk4⟩,hKt (hKt hw2 hkp3) (hKb _ _ _ _ aH hl3 rfl rfl)⟩⟩
   |ret =>
    obtain⟨hk3,hi3⟩:=hp;obtain⟨hr,hl3,hl4,hk4⟩:=fin (some .ret) W3 hk3;exact⟨_,_,hr,.inr ⟨rfl,.ret,(hIx _).putObj _ hi3 aH hl3 rfl,hl4,hk4⟩⟩
   |exit id =>
    obtain⟨hk3,hi3⟩:=hp;obtain⟨hr,hl3,hl4,hk4⟩:=fin (some (.exit id)) W3 hk3;exact⟨_,_,hr,.inr ⟨rfl,.exit id,(hIx _).putObj _ hi3 aH hl3 rfl,hl4,hk4⟩⟩
   |goto t =>
    obtain⟨hk3,hi3⟩:=hp;obtain⟨hr,hl3,hl4,hk4⟩:=fin (some (.goto t)) W3 hk3;exact⟨_,_,hr,.inr ⟨rfl,.goto t,(hIx _).putObj _ hi3 aH hl3 rfl,hl4,hk4⟩⟩
   |panic ch=>exact hp.elim
   |outgrown=>exact hp.elim
  ·rintro e W2 ⟨⟨v,rfl⟩,(⟨xs,hS,hi,hl,hk⟩|⟨pre,hSp,c,hi,hl,hk⟩)⟩
   ·exact⟨none,_,by have:=run_endLoop (P:=P) hl (by rw[hrec]; simp); rw[hrec] at this; exact this,hdone _ xs _ (au _) hS (hI.putObj _ hi aH hl rfl) ((World.putObj_heap_other aH).trans hk)⟩
   ·exact⟨some c,_,by have:=run_endLoop (P:=P) hl (by rw[hrec]; simp); rw[hrec] at this; exact this,hstop _ c pre _ (au _) hSp ((hIx c).putObj _ hi aH hl rfl) ((World.putObj_heap_other aH).trans hk)⟩
def Nl:J:=⟨fun _=>none,fun _ _=>False⟩
def WY(w:World):Rel Nl [] w where
 inj:=fun _ _ _ h=>by cases h
 lt:=fun _ _ h=>by cases h
 fix:=fun _ _ h=>by cases h
 tick:=fun _ _ _ _ h=>by cases h
 arr:=fun _ _ _ _ h=>by cases h
 vf:=fun _ _ h=>by cases h
 AB:=fun _ _ h=>h.elim
@[reducible] def G0:kG:={ g:=fun _=>none }
def ahm:@pa G0 Tryz.prog (Fo [] f198) f198=some I4:=fz
def ahn:@pa G0 Tryz.prog (Fo [] f275) f275=some Nb:=fz
def aho:@pa G0 Tryz.prog (Fo [] f302) f302=some Nc:=fz
def ahp:@pa G0 Tryz.prog (Fo [] f325) f325=some I5:=fz
def Hv{α:Type}{x:α}{P:Prop}(h:(none:Option α)=some x):P:=by cases h
def al6(w:World):@sO G0 Nl [] w:=@sO.mk G0 _ _ _ (fun b vs k v h=>Hv (show(none:Option (List Value))=some vs from h)) (fun b vs h=>Hv (show(none:Option (List Value))=some vs from h)) (fun b p h=>Hv (show(none:Option (Value->Prop))=some p from h))
def abT:Nat->Option eH
 |198=>some I4
 |275=>some Nb
 |302=>some Nc
 |325=>some I5
 |_=>none
noncomputable def EK:zt:=⟨abT,fun _=>none⟩
def abo:@vk G0 Tryz.prog EK:=by
 refine @vk.mk G0 _ _ (fun f fn h=>?_) (fun f g h=>by cases h)
 simp only[EK] at h;unfold abT at h;split at h
 ·cases h; exact⟨_,_,func198,ahm⟩
 ·cases h; exact⟨_,_,func275,ahn⟩
 ·cases h; exact⟨_,_,func302,aho⟩
 ·cases h; exact⟨_,_,func325,ahp⟩
 ·cases h
def ahT:@nJ G0 Tryz.prog (aq EK):=@qS G0 _ fz _ abo
section
attribute [local irreducible] eX fM lu gK dX kr aq aU cr bJ
def VZ{s:Bytes}(hs:s.length<=100000)(ha:pd s){k:List K}{R:Bool->Option (ag×aC)}
  (hx:∀e p,kr (aq EK) [.tmp 2] 0 k ⟨.exit 0,e,[.nS s p]⟩=R true) (hr:∀p,kr (aq EK) [.tmp 2] 0 k ⟨.ret,[(2,.bool false)],[.nS s p]⟩=R false) :
  ∀(q:Nat)(l pre:Bytes),l.length<=q->s=pre++l->eX (aq EK) [.tmp 2] 0 k (.loop [21] Ns) [(21,.j7 0)] [.nS s pre.length]=R (l.all sS):=by
 intro q;induction q with
 |zero =>
  intro l pre hq h;have h0:l=[]:=dB aH;subst h0;rw[bG];have cG:(pre.length<s.length)=False:=by rw[h]; simp
  simp only[wF,cG,EN,seval];exact hx _ _
 |succ q ih =>
  intro l pre hq h;cases l with
  |nil =>
   rw[bG];have cG:(pre.length<s.length)=False:=by rw[h]; simp
   simp only[wF,cG,EN,seval];exact hx _ _
  |cons n r =>
   rw[bG];have cG:(pre.length<s.length)=True:=by rw[h]; simp
   rcases MN h with ⟨hn,hd⟩|⟨c,m,r',hm,hne,hb,hc,hc2,hd⟩
   ·have hi:=ih r (pre++[n]) (by simp at hq; omega) (by rw[h]; simp)
    simp only[aA,aw,az,aG] at hi;simp only[wF,cG,hd,EN,seval]
    repeat' ((first|apply bB|apply bU|apply dI)<;>intro hb<;>simp only[hb,wF,hd,EV,seval])
    all_goals first
     |(refine(hr _).trans ?_; congr 1; symm; clear hi ih hx hr hd h; simp_all [sS]; done)
     |(refine hi.trans ?_; congr 1; symm; clear hi ih hx hr hd h; simp_all [sS]; done)
   ·have hml:0<m.length:=gM.2 hne;have hl2:(n::r).length=m.length+r'.length:=by rw[hm]; simp
    have hi:=ih r' (pre++m) (by simp at hq hl2; omega) (by rw[h,hm]; simp)
    simp only[aA] at hi;have h32:decide ((c:Int)<32)=false:=gh;have h47:((c:Int)==47)=false:=by rw[ke]; omega
    rw[hm,oz,all_true hb,dZ];simp only[wF,cG,hd,h32,h47,EN,seval];exact hi
def akS(s:Bytes)(hs:s.length<=100000)(ha:pd s):aq EK 198 [.str s] []=some (.bool (fU s),[]):=by
 refine aB ?_;simp only[I4,wF,EN,seval];have hl:=fun k hx hr=>VZ (k:=k) (R:=fun b=>some (ag.bool b,[])) hs ha hx hr s.length s [] (au _) rfl
 have he:(s==[])=decide ((s.length:Int)<1):=by cases s<;>simp; omega
 rw[he]
 repeat' ((first|apply bB|apply bU|apply dI)<;>intro hb<;>simp only[hb,EN,wF,seval])
 all_goals first
  |(clear hl he; simp_all [fU]; done)
  |(refine(hl _ (fun e p=>by simp only[wF,EN,seval]) (fun p=>by simp only[wF,EN,seval])).trans ?_; clear hl he; simp_all [fU]; done)
end
def Es{f:Nat}{args:List ag}{r:ag}(h:aq EK f args []=some (r,[]))(hp:r.jn=false)(w:World)(vs:Array Value)(hl:args.length=vs.size)(hv:∀(i:Nat)(c:ag)(v:Value),args[i]?=some c->vs[i]?=some v->gj Nl [] w c v) :
  Calls Tryz.prog f vs w fun e w'=>∃v j',e = .returned v/\w.grownBy w' none/\gj j' [] w' r v:=by
 refine((ahT f args [] _ h).2 Nl w vs (WY w) (al6 w) hl hv).mono ?_;intro e w' hce;obtain⟨v,rfl,j',_,hx,hr⟩:=hce.ret hp;exact⟨v,j',rfl,⟨hx.os,hx.tape,hx.output,hx.size,fun k hk _=>(hx.ui k hk fun i hi=>by cases hi).1⟩,hr⟩
def Xb(s:Bytes)(hs:s.length<=100000)(ha:pd s)(w:World):Calls Tryz.prog 198 #[.string (bs s)] w fun e w'=>e = .returned (.bool (fU s))/\w.grownBy w' none:=by
 refine(Es (akS s hs ha) rfl w #[.string (bs s)] rfl ?_).mono ?_
 ·intro i c v h1 h2
  match i with
  |0=>cases h1; cases h2; exact .plain (.str _)
  |i+1=>cases h1
 ·rintro e w' ⟨v,j',rfl,hg,hr⟩;rw[hr.jD];exact⟨rfl,hg⟩
set_option maxHeartbeats 1000000 in
set_option maxRecDepth 100000 in
def SP(a:ByteArray)(c:Int)(w:World) :
  Calls Tryz.prog 303 #[.string a,.int .u8 c] w fun e w'=>e = .returned (.int .i64 (Lib.indexByte a.data.toList c.toNat.toUInt8))/\w'=w:=by
 go_enter func303,ntmps303
 go_wp2
 rw[run_callFunc_extern func326 fz fz fz (e:=Extern.BytealgIndexByte.indexByte) fz,Lib.run_indexByteString];simp only[Result.andThen];rw[Oper.upon_value]
 go_wp2
 go_ret
 exact⟨rfl,rfl⟩
set_option maxHeartbeats 1000000 in
set_option maxRecDepth 100000 in
def SO(a:ByteArray)(c:Int)(w:World) :
  Calls Tryz.prog 276 #[.string a,.int .u8 c] w fun e w'=>e = .returned (.int .i64 (Lib.indexByte a.data.toList c.toNat.toUInt8))/\w'=w:=by
 go_enter func276,ntmps276
 go_wp2_with (go_at_call 303; refine(SP _ _ _).mono ?_; rintro e w' ⟨rfl,rfl⟩)
 go_ret
 exact⟨rfl,rfl⟩
section ev
attribute [local irreducible] eX fM lu gK dX kr aq aU cr bJ
def tU:Bytes->Bytes×Bool
 |b::r=>if b=47 then (r,true) else (b::r,false)
 | []=>([],false)
def Pr:Bytes->Bool
 |b::_=>b==47
 | []=>false
def arV(s:Bytes):aq EK 325 [.str s,.str [47]] []=some (.bool (Pr s),[]):=by
 refine aB ?_;cases s with
 |nil =>
  have h0:decide (((1:Nat):Int)<=((0:Nat):Int))=false:=mi;simp only[I5,Yd,h0,EN,seval];simp only[Pr,Yd,h0,EN,seval]
 |cons b r =>
  have h1:(1:Int)<=(r.length:Int)+1:=aH;simp only[I5,Yd,EN,seval];simp[Pr,h1,gw,Yd,EN,seval]
  try (cases hb:(b==47)<;>simp_all)
def amM s:=cP (arV s)
def arU(s:Bytes):aq EK 302 [.str s,.str [47]] []=some (.tuple [.str (tU s).1,.bool (tU s).2],[]):=by
 refine aB ?_;simp only[Nc,Yc,amM,EN,seval];cases s with
 |nil=>simp only[Pr,Yc,amM,EN,seval]; rfl
 |cons b r =>
  by_cases hb:b=47
  ·have h1:(1:Int)<=(r.length:Int)+1:=aH;have h2:(0:Int)<=(r.length:Int)+1:=aH;simp[Pr,hb,Yc,tU,gw,h1,h2,EN,seval]
  ·have hb':(b==47)=false:=by simpa using hb
   simp only[Pr,hb',Yc,EN,seval];simp[tU,hb]
def atf s:=cP (arU s)
def arP(s:Bytes):aq EK 275 [.str s,.str [47]] []=some (.tuple [.str (tU s).1,.bool (tU s).2],[]):=by
 refine aB ?_;simp only[Nb,apd,atf,EN,seval]
end ev
def ae5(s:Bytes)(w:World):Calls Tryz.prog 275 #[.string (bs s),.string ⟨#[47]⟩] w fun e w'=>e = .returned (.tuple #[.string (bs (tU s).1),.bool (tU s).2])/\w.grownBy w' none:=by
 refine(Es (arP s) rfl w #[.string (bs s),.string ⟨#[47]⟩] rfl ?_).mono ?_
 ·intro i c v h1 h2
  match i with
  |0=>cases h1; cases h2; exact .plain (.str _)
  |1=>cases h1; cases h2; exact .plain (.str [47])
  |i+2=>cases h1
 ·rintro e w' ⟨v,j',rfl,hg,hr⟩;obtain⟨vs,rfl,hl,hv⟩:=hr.tK;obtain⟨l⟩:=vs
  match l,hl with
  | [u1,u2],_ =>
   rw[(hv 0 _ u1 rfl rfl).kE,(hv 1 _ u2 rfl rfl).jD];exact⟨rfl,hg⟩
def II(s:Bytes):Nat:=if Lib.indexByte s 47<0 then s.length else (Lib.indexByte s 47).toNat
def uk(s:Bytes):Bytes×Bool:=((tU s).1.take (II (tU s).1),(tU s).2)
def sJ(s:Bytes):Bytes:=(tU s).1.drop (II (tU s).1)
def wh:Nat->Bytes->List (Bytes×Bool)
 |0,_=>[]
 |n+1,s=>match s with
  | []=>[]
  |b::r=>uk (b::r)::wh n (sJ (b::r))
def index_le(l:Bytes)(c:UInt8):Lib.indexByte l c<=l.length:=by
 induction l with
 |nil=>simp[Lib.indexByte]
 |cons b r ih =>
  simp only[Lib.indexByte];split
  ·simp; omega
  ·split
   ·simp; omega
   ·simp; omega
def RB(s:Bytes):(tU s).1.length<=s.length:=by
 cases s with
 |nil=>simp[tU]
 |cons b r=>simp only[tU]; split<;>simp
def Ex{s:Bytes}(h:s≠[]):(sJ s).length<s.length:=by
 cases s with
 |nil=>exact absurd rfl h
 |cons b r =>
  unfold sJ;rw[gZ]
  by_cases hb:b=47
  ·have:tU (b::r)=(r,true):=by simp[tU,hb]
   rw[this]; simp; omega
  ·have e:tU (b::r)=(b::r,false):=by simp[tU,hb]
   rw[e]
   have:0<II (b::r):=by
    unfold II;have hb':(b==47)=false:=by simpa using hb
    have hg:=Lib.indexByte_ge r 47;split
    ·simp
    ·rename_i hn;simp only[Lib.indexByte,hb',af,aD] at hn ⊢;split
     ·rename_i he; simp[he] at hn
     ·rename_i he;have:Lib.indexByte r 47 ≠ -1:=by simpa using he
      omega
   simp only[aw];omega
def Hx:∀(n m:Nat)(s:Bytes),s.length<=n->s.length<=m->wh n s=wh m s:=by
 intro n;induction n with
 |zero =>
  intro m s h _;have:s=[]:=by cases s with|nil=>rfl|cons b r=>simp at h
  subst this;cases m<;>rfl
 |succ n ih =>
  intro m s h h';cases s with
  |nil=>cases m<;>rfl
  |cons b r =>
   cases m with
   |zero=>simp at h'
   |succ m =>
    have:=Ex (s:=b::r) dy;simp only[wh];rw[ih m _ aH aH]
def nu(s:Bytes):List (Bytes×Bool):=wh s.length s
def Af{s:Bytes}(h:s≠[]):nu s=uk s::nu (sJ s):=by
 cases s with
 |nil=>exact absurd rfl h
 |cons b r =>
  have:=Ex (s:=b::r) dy;unfold nu;rw[show(b::r).length=r.length+1 from rfl,wh]
  rw[Hx r.length (sJ (b::r)).length _ (by simp at this; omega) aH]
def BS{s:Bytes}(h:pd s):pd (uk s).1:=trivial
def Dc{s:Bytes}(h:pd s):pd (sJ s):=trivial
def Qd(s:Bytes):(uk s).1.length<=s.length:=by
 have:=RB s;unfold uk;rw[cq];omega
abbrev PA:={ x:Bytes×Bool // pd x.1/\x.1.length<=100000 }
abbrev YK(x:PA):Array Value := #[.string (bs x.1.1),.bool x.1.2]
def G2(b0:Nat)(w:World):Nat:=match w.cell? ⟨b0,0,none⟩ with
 |some (.string s)=>s.size
 |_=>0
section
attribute [local go_sem] Oper.semAt_some
set_option maxHeartbeats 1000000 in
def Qe(n:Nat)(s:Bytes)(w:World) :
  CallsIn Fence.wide n Tryz.prog 231 #[.string (bs s)] w fun e w'=>e = .returned (.func (.func 274) #[] #[.pointer (some ⟨w.heap.size,0,none⟩)])/\w'=w.alloc (.cells #[.string (bs s)] 9):=by
 refine callsIn_of_wp func231 rfl trivial ?_ rfl;simp only[ntmps231,cU,aw,az,Nat.reduceAdd,Nat.reduceSub,jM,jN,lj,kc,aP,aI]
 gi_wp2
 go_ret
 exact⟨rfl,rfl⟩
def MC(c:Bytes)(n:Nat):bs (c.drop n)=(bs c).extract n (bs c).size:=by
 rw[yP,show(bs c).size=c.length from rfl,bE]
def vW{b0:Nat}{w:World}{s:Bytes}(h:Boxed w b0 9 (.string (bs s))):G2 b0 w=s.length:=by
 unfold G2;rw[h.cell];rfl
set_option maxRecDepth 100000 in
set_option maxHeartbeats 1000000 in
def Y9(n:Nat)(hn:3<=n)(l b0 N:Nat)(s0:Bytes)(ha:pd s0)(hs:s0.length<=100000)(hN:(nu s0).length<=N)(J Jx:List PA->World->Prop)(W:World)(hJ:AbidesFrom W.heap.size J)(hJc:∀s A v,J s A->J s (A.setCell ⟨b0,0,none⟩ v))
  (hY:∀pre x W1,J pre W1->pre.length<N->YieldAt Fence.wide (n-1) Tryz.prog l (YK x) W1 fun e W' =>
   (e = .returned (.bool true)/\J (pre++[x]) W'/\W'.heap[b0]?=W1.heap[b0]?)\/(e = .returned (.bool false)/\Jx (pre++[x]) W'))
  (hB:Boxed W b0 9 (.string (bs s0))) (h0:J [] W) :
  CallsIn Fence.wide n Tryz.prog 274 #[.func (.yield l) #[] #[],.pointer (some ⟨b0,0,none⟩)] W fun e W'=>(∃v,e = .returned v) /\
   ((∃xs:List PA,xs.map (·.1)=nu s0/\J xs W')\/(∃pre:List PA,pre.map (·.1) <+: nu s0/\Jx pre W')):=by
 refine callsIn_of_wp func274 rfl trivial ?_ rfl;simp only[ntmps274,cU,aw,az,Nat.reduceAdd,Nat.reduceSub,jM,jN,lj,kc,aP,aI]
 gi_wp2
 gi_loopw [3] (fun _ wr=>∃(pre:List PA) (rest:Bytes),Boxed wr b0 9 (.string (bs rest))/\pd rest/\rest.length<=100000/\nu s0=pre.map (·.1)++nu rest/\J pre wr)
  (fun _ wr=>G2 b0 wr)
 case atStart =>
  exact⟨[],s0,hB,ha,hs,rfl,h0⟩
 case round =>
  obtain⟨pre,rest,hb,hra,hrl,hp,hJs⟩:=hrel;have hf:=hb.frozen;cases rest with
  |nil =>
   have hc:wr.cell? ⟨b0,0,none⟩=some (.string ⟨#[]⟩):=hb.cell
   gi_wp2
   go_end0
   exact⟨⟨_,rfl⟩,.inl ⟨pre,by rw[hp]; simp[nu,wh],hJs⟩⟩
  |cons x rest =>
   have hc:=hb.cell;have hne:(!(bs (x::rest)).toList.isEmpty)=true:=by simp[bs]
   gi_wp2
   refine⟨trivial,fun h=>(by cases h),(callsIn_wide.2 (ae5 _ _)).mono ?_⟩
   rintro e w1 ⟨rfl,hg⟩;have hb1:Boxed w1 b0 9 (.string (bs (x::rest))):=hb.kept hg dy;have hJ1:J pre w1:=hJ pre wr w1 none hJs hg (fun r e=>by cases e)
   have hbr:=hb;clear hb hc hf hJs;have hc1:=hb1.cell;have hf1:=hb1.frozen
   gi_wp2
   refine⟨trivial,fun h=>(by cases h),(callsIn_wide.2 (SO _ _ _)).mono ?_⟩
   rintro e w2 ⟨rfl,rfl⟩
   have dJ:pre.length<N:=by
    have:=congrArg List.length hp;rw[Af (s:=x::rest) dy] at this;simp at this;omega
   have hpl:=Qd (x::rest);have hrest:=Ex (s:=x::rest) dy;obtain⟨fn,tmps,assign,body,hy,hR⟩:=hY pre ⟨uk (x::rest),BS hra,aH⟩ w2 hJ1 dJ
   have hpn:nu s0=(pre++[⟨uk (x::rest),BS hra,aH⟩]:List PA).map (·.1)++nu (sJ (x::rest)):=by
    rw[hp,Af dy]; simp
   obtain⟨c,hc⟩:∃c,(tU (x::rest)).1=c:=⟨_,rfl⟩;have hix:=index_le c 47
   by_cases hi:Lib.indexByte c 47<0
   ·have he:uk (x::rest)=(c,(tU (x::rest)).2):=by simp[uk,hc,II,hi]
    have hre:sJ (x::rest)=[]:=by simp[sJ,hc,II,hi]
    simp only[YK,he] at hy;rw[hc];have hi':Lib.indexByte (bs c).data.toList 47<0:=hi
    gi_wp2
    refine⟨fun h=>(by cases h),hR.mono ?_⟩
    rintro e W3 (⟨rfl,hJ3,hk3⟩|⟨rfl,hJx3⟩)
    ·have hb3:Boxed W3 b0 9 (.string (bs (x::rest))):=hk3.trans hb1;have hc3:=hb3.cell;have hf3:=hb3.frozen
     gi_wp2
     go_roundw
     case rel =>
      exact⟨_,sJ (x::rest),(by rw[hre]; exact(hb3.set _)),Dc hra,aH,hpn,hJc _ _ _ hJ3⟩
     case measure =>
      rw[vW (s:=sJ (x::rest)) (by rw[hre]; exact(hb3.set _)),vW hbr]
      exact hrest
    ·gi_wp2
     refine bodyPost_ret (results_none rfl _ _ _) rfl ?_;exact⟨⟨_,rfl⟩,.inr ⟨_,⟨nu (sJ (x::rest)),hpn.symm⟩,hJx3⟩⟩
   ·have hi0:0<=Lib.indexByte c 47:=aH;have he:uk (x::rest)=(c.take (Lib.indexByte c 47).toNat,(tU (x::rest)).2):=by simp[uk,hc,II,hi]
    have hre:sJ (x::rest)=c.drop (Lib.indexByte c 47).toNat:=by simp[sJ,hc,II,hi]
    simp only[YK,he] at hy;rw[show bs (c.take (Lib.indexByte c 47).toNat)=(bs c).extract 0 (Lib.indexByte (bs c).data.toList 47).toNat by rw[yP]; rfl] at hy
    rw[hc];have hi':¬Lib.indexByte (bs c).data.toList 47<0:=hi;have hi2:Lib.indexByte (bs c).data.toList 47<=(bs c).size:=hix
    gi_wp2
    refine⟨fun h=>(by cases h),hR.mono ?_⟩
    rintro e W3 (⟨rfl,hJ3,hk3⟩|⟨rfl,hJx3⟩)
    ·have hb3:Boxed W3 b0 9 (.string (bs (x::rest))):=hk3.trans hb1;have hc3:=hb3.cell;have hf3:=hb3.frozen
     gi_wp2
     go_roundw
     case rel =>
      exact⟨_,sJ (x::rest),(by rw[hre,MC]; exact(hb3.set _)),Dc hra,aH,hpn,hJc _ _ _ hJ3⟩
     case measure =>
      rw[vW (s:=sJ (x::rest)) (by rw[hre,MC]; exact(hb3.set _)),vW hbr]
      exact hrest
    ·gi_wp2
     refine bodyPost_ret (results_none rfl _ _ _) rfl ?_;exact⟨⟨_,rfl⟩,.inr ⟨_,⟨nu (sJ (x::rest)),hpn.symm⟩,hJx3⟩⟩
def E2(x:Bytes×Bool)(n:Nat):Bool := !x.2 || !fU x.1||n==12
def qI:List (Bytes×Bool)->Nat->Option (List Bytes)
 | [],_=>some []
 |x::r,n=>if E2 x n then none else (qI r (n+1)).map (x.1 :: ·)
def BE:∀(a b:List (Bytes×Bool)) (n:Nat),qI (a++b) n=(qI a n).bind fun l=>(qI b (n+a.length)).map (l ++ ·):=by
 intro a;induction a with
 |nil=>intro b n; simp[qI]
 |cons x r ih =>
  intro b n;simp only[aI,qI];split
  ·rfl
  ·rw[ih,show n+1+r.length=n+(x::r).length by simp; omega]
   cases qI r (n+1) with
   |none=>rfl
   |some l=>simp; rfl
def gy(s:Bytes):List Bytes×Int:=if s=[47] then ([],0) else match qI (nu s) 0 with
 |none=>([],60)
 |some []=>([],60)
 |some l=>(l,0)
def Nf(pre:List PA):Prop:=qI (pre.map (·.1)) 0=some (pre.map (·.1.1))/\pre.length<=12
def LA{pre:List PA}{x:PA}(h:Nf pre)(hb:E2 x.1 pre.length=false):Nf (pre++[x]):=by
 refine⟨?_,?_⟩
 ·rw[aW,BE,h.1];simp[qI,hb]
 ·have:pre.length≠12:=by intro e; rw[e] at hb; simp[E2] at hb
  have:=h.2;simp; omega
def AJ{pre:List PA}{x:PA}(h:Nf pre)(hb:E2 x.1 pre.length=true):qI ((pre++[x]).map (·.1)) 0=none:=by
 rw[aW,BE,h.1];simp[qI,hb]
def Qm{a l:List (Bytes×Bool)}(h:a <+: l)(hn:qI a 0=none):qI l 0=none:=by
 obtain⟨b,rfl⟩:=h;rw[BE,hn]; rfl
def ame:(Tryz.prog.info? 9).map (fun i=>(i.zero,i.size,i.bytes))=some (some (.string ⟨#[]⟩),1,16):=fz
abbrev Hb(b:Bytes):Value := .string (bs b)
def appended{W w1:World}{n₀ B:Nat}{v v':Value}{k m:Nat}{xs ys:List Value}{tmp:Obj}
  (hv:Boxed W B 44 v) (hrow:W.ownsRow n₀ 9 1 v k xs) (hown':w1.ownsRow n₀ 9 1 v' m ys) (hgrow:(W.alloc tmp).grownBy w1 v.ownBlock) :
  Boxed w1 B 44 v/\Boxed (w1.setCell ⟨B,0,none⟩ v') B 44 v'/\(w1.setCell ⟨B,0,none⟩ v').ownsRow n₀ 9 1 v' m ys/\KeepsOthers W (w1.setCell ⟨B,0,none⟩ v') /\
  (w1.setCell ⟨B,0,none⟩ v').os=W.os/\(w1.setCell ⟨B,0,none⟩ v').tape=W.tape/\(w1.setCell ⟨B,0,none⟩ v').output=W.output/\W.heap.size<=(w1.setCell ⟨B,0,none⟩ v').heap.size /\
  ∀q,q<n₀->q<W.heap.size->q≠B->(w1.setCell ⟨B,0,none⟩ v').heap[q]?=W.heap[q]?:=by
 have hv1:Boxed w1 B 44 v:=(hv.alloc tmp).kept hgrow (hv.not_row mi hrow);have hs:=grownBy_setCell' w1 B v';refine⟨hv1,hv1.set v',hown'.kept hs (.inr (hv1.not_row mi hown').symm),?_,?_,?_,?_,?_,?_⟩
 ·refine((KeepsOthers.alloc W tmp).trans (KeepsOthers.of_grownBy hgrow fun j o ej hj=>?_)).trans (KeepsOthers.setCell _ _ _)
  rcases(hrow.alloc tmp).2 with ⟨rfl,_⟩|⟨g,cap,cur,rfl,_,hgb,_⟩
  ·simp[Value.ownBlock] at ej
  ·obtain rfl:g=j:=by simpa[Value.ownBlock] using ej
   rw[hgb] at hj; cases hj; rfl
 ·exact hs.os.trans hgrow.os
 ·exact hs.tape.trans hgrow.tape
 ·exact hs.output.trans hgrow.output
 ·have h1:=hgrow.size;have h2:=hs.size;simp at h1;omega
 ·intro q hq hqw hqB;have cG:q<(W.alloc tmp).heap.size:=gh;rw[hs.block q (bu cG hgrow.size) (fun e=>hqB (by cases e; rfl)),hgrow.block q cG ?_]
  ·exact Below.heap_alloc _ _ _ hqw
  ·intro e;rcases hrow.2 with ⟨rfl,_⟩|⟨g,cap,cur,rfl,hb,_,_⟩
   ·simp[Value.ownBlock] at e
   ·obtain rfl:q=g:=by simpa[Value.ownBlock] using e
    omega
structure E0(w:World)(pre:List PA)(W:World):Prop where
 Hh:Nf pre
 r0:Boxed W w.heap.size 44 (.slice none 0 0)
 r1:Boxed W (w.heap.size+1) 43 (.int .i64 0)
 row:∃v,Boxed W (w.heap.size+2) 44 v/\W.ownsRow (w.heap.size+4) 9 1 v pre.length (pre.map fun x=>Hb x.1.1)
 below:Below w.heap.size w W
 sz:w.heap.size+4<=W.heap.size
structure GW(w:World)(c:Code)(pre:List PA)(W:World):Prop where
 ret:c = .ret
 bad:qI (pre.map (·.1)) 0=none
 r0:Boxed W w.heap.size 44 (.slice none 0 0)
 r1:Boxed W (w.heap.size+1) 43 (.int .i64 60)
 below:Below w.heap.size w W
def tP{W W':World}{row:Option Nat}{B k:Nat}{t:TypeId}{v:Value}(h:Boxed W B t v)(hg:W.grownBy W' row)(hr:∀r,row=some r->k<=r/\∃o:Obj,W.heap[r]?=some o/\o.isCells=false):Boxed W' B t v :=
 h.kept hg fun e=>by obtain⟨_,o,ho,hc⟩:=hr B e.symm; rw[show W.heap[B]?=_ from h] at ho; cases ho; cases hc
def E0.own{w:World}:OwnFrom (w.heap.size+4) (E0 w):=fun s A B row hs hg hr=>by
 obtain⟨v,hv,hrow⟩:=hs.row;exact⟨hs.Hh,tP hs.r0 hg hr,tP hs.r1 hg hr,⟨v,tP hv hg hr,((holdsRow_own (β:=Unit) (w.heap.size+4) (w.heap.size+2) 44 9 1 (fun _=>s.length) (fun _=>s.map fun x=>Hb x.1.1) (fun _ u=>u=v)) () A B row ⟨v,hv,hrow,rfl⟩ hg (fun r e=>(hr r e).2)).elim fun u hu=>hu.2.2▸hu.2.1⟩,ownFrom_below (β:=Unit) (au _) aH () A B row hs.below hg hr,aY hs.sz hg.size⟩
def GW.own{w:World}(c:Code):OwnFrom (w.heap.size+4) (GW w c):=fun s A B row hs hg hr =>
 ⟨hs.ret,hs.bad,tP hs.r0 hg hr,tP hs.r1 hg hr,ownFrom_below (β:=Unit) (au _) aH () A B row hs.below hg hr⟩
def E0.cell{w:World}(s:List PA)(A:World)(u:Value)(hs:E0 w s A):E0 w s (A.setCell ⟨w.heap.size+3,0,none⟩ u):=by
 obtain⟨v,hv,hrow⟩:=hs.row;have hg:=grownBy_setCell' A (w.heap.size+3) u;refine⟨hs.Hh,hs.r0.other aH _,hs.r1.other aH _,⟨v,hv.other aH _,hrow.kept hg ?_⟩,hs.below.setCell (p:=⟨w.heap.size+3,0,none⟩) dy _,aY hs.sz hg.size⟩;rcases hrow.2 with ⟨rfl,_⟩|⟨g,cap,cur,rfl,hb,_,_⟩
 ·exact .inl rfl
 ·refine .inr fun e=>?_
  have:g=w.heap.size+3:=by simpa[Value.ownBlock] using e
  omega
def GW.made{w W:World}{pre:List PA}(h0:Boxed W w.heap.size 44 (.slice none 0 0))(h1:Boxed W (w.heap.size+1) 43 (.int .i64 0))(hb:Below w.heap.size w W)(hbad:qI (pre.map (·.1)) 0=none) :
  KeepsOthers W ((W.setCell ⟨w.heap.size,0,none⟩ (.slice none 0 0)).setCell ⟨w.heap.size+1,0,none⟩ (.int .i64 60))/\GW w .ret pre ((W.setCell ⟨w.heap.size,0,none⟩ (.slice none 0 0)).setCell ⟨w.heap.size+1,0,none⟩ (.int .i64 60)):=by
 refine⟨(KeepsOthers.setCell _ _ _).trans (KeepsOthers.setCell _ _ _),rfl,hbad,(h0.set _).other aH _,?_,(hb.setCell (p:=⟨w.heap.size,0,none⟩) (au _) _).setCell (p:=⟨w.heap.size+1,0,none⟩) dy _⟩;exact(h1.other aH _).set _
def BB{W:World}{n₀ k:Nat}{v:Value}{xs:List Value}(h:W.ownsRow n₀ 9 1 v k xs):∃p cap,v = .slice p k cap:=by
 rcases h.2 with ⟨rfl,rfl⟩|⟨g,cap,cur,rfl,_⟩
 ·exact⟨_,_,rfl⟩
 ·exact⟨_,_,rfl⟩
def abi{W:World}{n₀ n₁ k D:Nat}{v:Value}{xs:List Value}{x:Option (List Deferred)}{o:Obj}(h:W.ownsRow n₀ 9 1 v k xs)(hn:n₁<=n₀)(hD:W.heap[D]?=some (.deferred x)):(W.putObj D o).ownsRow n₁ 9 1 v k xs:=by
 refine⟨h.1,?_⟩;rcases h.2 with h0|⟨g,cap,cur,e,hb,hg,hr⟩
 ·exact .inl h0
 ·refine .inr ⟨g,cap,cur,e,aH,?_,hr⟩;exact(World.putObj_heap_other (fun e=>by subst e; rw[hD] at hg; cases hg)).trans hg
def JX{W:World}{n₀ k B:Nat}{v:Value}{xs:List Value}(h:W.ownsRow n₀ 9 1 v k xs)(hB:B<n₀)(u:Value):(W.setCell ⟨B,0,none⟩ u).ownsRow n₀ 9 1 v k xs:=by
 refine⟨h.1,?_⟩;rcases h.2 with h0|⟨g,cap,cur,e,hb,hg,hr⟩
 ·exact .inl h0
 ·exact .inr ⟨g,cap,cur,e,hb,(Below.heap_setCell _ _ _ _ (by show _≠B; omega)).trans hg,hr⟩
def tx{W:World}{B D:Nat}{t:TypeId}{v:Value}{x:Option (List Deferred)}{o:Obj}(h:Boxed W B t v)(hD:W.heap[D]?=some (.deferred x)):Boxed (W.putObj D o) B t v :=
 (World.putObj_heap_other (fun e=>by subst e; rw[show W.heap[B]?=_ from h] at hD; cases hD)).trans h
def AL{w W:World}{D:Nat}{o:Obj}(h:Below w.heap.size w W)(hD:w.heap.size<=D):Below w.heap.size w (W.putObj D o) :=
 ⟨h.os,h.tape,h.output,by simpa[World.putObj] using h.size,fun k hk=>(World.putObj_heap_other aH).trans (h.block k hk)⟩
def yb{W:World}{B D:Nat}{o:Obj}{u:Value}(h:W.heap[D]?=some o)(hB:D≠B):(W.setCell ⟨B,0,none⟩ u).heap[D]?=some o:=(Below.heap_setCell _ _ _ _ (by show _≠B; omega)).trans h
def results165{W:World}{b:Nat}{v u:Value}{tmps:Array Value}(h2:tmps[2]?=some (.pointer (some ⟨b,0,none⟩)))(h3:tmps[3]?=some (.pointer (some ⟨b+1,0,none⟩)))(hv:Boxed W b 44 v)(hu:Boxed W (b+1) 43 u):(results f165 tmps).run Tryz.prog W = .ok (.tuple #[v,u]) W:=by
 have c0:=hv.cell;have c1:=hu.cell;simp[results,f165,go_sem,c0,c1,h2,h3]
def xf{F:Fence}{n:Nat}{P:Program}{fn:Func}{tmps:Array Value}{R:Ending->World->Prop}{D:Nat}{W W':World}{v:Value}(hD:(Instr.takeDeferred D).run P W = .ok [] W')(hv:(results fn tmps).run P W' = .ok v W')(hR:R (.returned v) W') :
  LeavesInM F n P fn tmps R [{ target := .collected D,args := #[] }] .returning W :=
 ⟨dy,.inl ⟨D,W',rfl,hD,⟨v,hv,hR⟩⟩⟩
set_option maxRecDepth 100000 in
set_option maxHeartbeats 2000000 in
def Xt(n:Nat)(hn:6<=n)(s:Bytes)(ha:pd s)(hs:s.length<=100000)(w:World) :
  CallsIn Fence.wide n Tryz.prog 165 #[.string (bs s)] w fun e W'=>∃v,e = .returned (.tuple #[v,.int .i64 (gy s).2])/\W'.ownsRow w.heap.size 9 1 v (gy s).1.length ((gy s).1.map Hb)/\Below w.heap.size w W':=by
 have h1:1<=n:=aH;obtain⟨i0,hi,hz0,hz1,hz2⟩:=info_parts ame;refine callsIn_of_wp_marks func165 rfl trivial ?_ rfl;simp only[ntmps165,cU,aw,az,Nat.reduceAdd,Nat.reduceSub,jM,jN,lj,kc,aP,aI];have b0:=Boxed.new w 44 (.slice none 0 0);have b1:=Boxed.new (w.alloc (.cells #[.slice none 0 0] 44)) 43 (.int .i64 0);have b2:=Boxed.new ((w.alloc (.cells #[.slice none 0 0] 44)).alloc (.cells #[.int .i64 0] 43)) 44 (.slice none 0 0);have b3:=Boxed.new (((w.alloc (.cells #[.slice none 0 0] 44)).alloc (.cells #[.int .i64 0] 43)).alloc (.cells #[.slice none 0 0] 44)) 9 (.string (bs s));simp only[World.size_alloc] at b1 b2 b3;have hB2:Below w.heap.size w ((w.alloc (.cells #[.slice none 0 0] 44)).alloc (.cells #[.int .i64 0] 43)):=((Below.refl _ w).alloc (au _) _).alloc dy _;have hB4:=(hB2.alloc gh (.cells #[.slice none 0 0] 44)).alloc gh (.cells #[.string (bs s)] 9)
 by_cases hs47:s=[47]
 ·subst hs47;have ht:((bs [47]).toList==[47])=true:=by rw[vn]; rfl
  gi_wp2
  have c0:=(b0.alloc (.cells #[.int .i64 0] 43)).cell;have c1:=b1.cell;refine⟨.tuple #[.slice none 0 0,.int .i64 0],?_,_,rfl,World.ownsRow_nil _ _ _ _,hB2⟩;simp[results,f165,go_sem,c0,c1]
 have ht:((bs s).toList==[47])=false:=by rw[vn]; simpa using hs47
 gi_wp2
 refine⟨trivial,(Qe _ s _).mono ?_⟩;rintro e w' ⟨rfl,rfl⟩
 gi_wp2
 obtain⟨W4,hW4⟩:∃W4,(((w.alloc (.cells #[.slice none 0 0] 44)).alloc (.cells #[.int .i64 0] 43)).alloc (.cells #[.slice none 0 0] 44)).alloc (.cells #[.string (bs s)] 9)=W4:=⟨_,rfl⟩;have hsz:W4.heap.size=w.heap.size+4:=by rw[<-hW4]; simp
 have e0:Boxed W4 w.heap.size 44 (.slice none 0 0):=by rw[<-hW4]; exact((b0.alloc _).alloc _).alloc _
 have e1:Boxed W4 (w.heap.size+1) 43 (.int .i64 0):=by rw[<-hW4]; exact(b1.alloc _).alloc _
 have e2:Boxed W4 (w.heap.size+2) 44 (.slice none 0 0):=by rw[<-hW4]; exact b2.alloc _
 rw[hW4] at b3 hB4 ⊢
 have hseq:Fm (w.heap.size+3) Fence.wide (n-1) Tryz.prog 274 #[.pointer (some ⟨w.heap.size+3,0,none⟩)] YK (fun A B=>B.heap[w.heap.size+3]?=A.heap[w.heap.size+3]?) (fun xs=>xs.map (·.1)=nu s) (fun pre=>pre.map (·.1) <+: nu s) (nu s).length W4 :=
  fun l J Jx W hW hJ hJx hJc hY h0=>Y9 (n-1) aH l _ _ s ha hs (au _) J Jx W hJ hJc hY ((hW.block _ aH).trans b3) h0
 refine yp (b0:=w.heap.size+3) aH rfl h1 (gf:=274) (lb := #[.pointer (some ⟨w.heap.size+3,0,none⟩)]) rfl trivial (enters_of func274 fz rfl) hseq
  (fun h k=>k.trans h) (fun W l o o' hl _ _ _=>World.putObj_heap_other aH) (Below.refl _ _) (fun _=>rfl)
  (E0 w) (GW w) (by rw[hsz]; exact E0.own) (fun c=>by rw[hsz]; exact GW.own c) E0.cell
  ⟨⟨rfl,dy⟩,e0,e1,⟨_,e2,World.ownsRow_nil _ _ _ _⟩,hB4,aH⟩
  (fun x=>{ tmps := #[.string (bs s),undef,.pointer (some ⟨w.heap.size,0,none⟩),.pointer (some ⟨w.heap.size+1,0,none⟩),.pointer (some ⟨w.heap.size+1+1,0,none⟩),.string (bs x.1.1),.bool x.1.2,.string (bs s),.bool false,.string (bs s),.func (.func 274) #[] #[.pointer (some ⟨w.heap.size+1+1+1,0,none⟩)],.string (bs x.1.1),.bool x.1.2,
   undef,undef,undef,undef,undef,undef,undef,undef,undef,undef,undef,undef,undef,undef,undef,undef,undef,undef,undef,undef],defers:=[] }) ?assign ?body ?done ?stop
 case assign =>
  intro l x W K hK
  gi_wp2
  exact hK
 case body =>
  rintro l pre ⟨⟨nm,ok⟩,hxa,hxl⟩ W hInv cG;obtain⟨v,hv,hrow⟩:=hInv.row;have hc0:=hInv.r0.cell;have hf0:=hInv.r0.frozen;have hc1:=hInv.r1.cell;have hf1:=hInv.r1.frozen;cases ok with
  |false =>
   gi_wp2
   refine⟨trivial,?_⟩
   gi_wp2
   exact GW.made hInv.r0 hInv.r1 hInv.below (AJ hInv.Hh (by simp[E2]))
  |true =>
   gi_wp2
   refine⟨trivial,fun h=>(by cases h),(CallsIn.inRound l (callsIn_wide.2 (Xb nm hxl hxa W))).mono ?_⟩
   rintro e W5 ⟨rfl,hg5⟩;have hInv5:E0 w pre W5:=E0.own pre W W5 none hInv hg5 (fun r e=>by cases e)
   have hK5:KeepsOthers W W5:=KeepsOthers.of_grownBy hg5 (fun j o e=>by cases e)
   clear hc0 hf0 hc1 hf1 hrow hv v;obtain⟨v,hv,hrow⟩:=hInv5.row;have hc0:=hInv5.r0.cell;have hf0:=hInv5.r0.frozen;have hc1:=hInv5.r1.cell;have hf1:=hInv5.r1.frozen;have hc2:W5.cell? ⟨w.heap.size+1+1,0,none⟩=some v:=hv.cell;have hf2:W5.frozen? ⟨w.heap.size+1+1,0,none⟩=false:=hv.frozen;cases hnm:fU nm with
   |false =>
    gi_wp2
    have:=GW.made hInv5.r0 hInv5.r1 hInv5.below (AJ (x:=⟨(nm,true),hxa,hxl⟩) hInv5.Hh (by simp[E2,hnm]))
    exact⟨hK5.trans this.1,this.2⟩
   |true =>
    obtain⟨p,cap,rfl⟩:=BB hrow
    by_cases hl:pre.length=12
    ·have hl':((pre.length:Int)==12)=true:=by simp[hl]
     gi_wp2
     have:=GW.made hInv5.r0 hInv5.r1 hInv5.below (AJ (x:=⟨(nm,true),hxa,hxl⟩) hInv5.Hh (by simp[E2,hnm,hl]))
     exact⟨hK5.trans this.1,this.2⟩
    ·have hl':((pre.length:Int)==12)=false:=gh
     gi_wp2_with (gi_at_builtin; generalize hX:wpListIn _ _ _ _ _ _ _ _=X)
     subst hX;refine wpListIn_append_own _ rfl _ _ 44 rfl (w.heap.size+4) 9 i0 (.string ⟨#[]⟩) 1 16 underlying44 hi hz0 hz1 hz2 rfl mi _ _ _ rfl (hrow.alloc _) ⟨W5.heap.size,0,none⟩ 1 1 [Hb nm] rfl rfl (cell_one_new _ _ _) (by simp[Value.oneCell']) (by have:=hInv5.Hh.2; simp[maxLen]; omega) (by have:=hInv5.Hh.2; omega) (by have:=hv.lt; simp; omega) ?_
     intro v' w1 hown' hgrow hiff;obtain⟨q0,q1,q2,q3,q4,q5,q6,q7,q8⟩:=appended hv hrow hown' hgrow;have hc2':w1.cell? ⟨w.heap.size+1+1,0,none⟩=some (.slice p pre.length cap):=q0.cell;have hf2':w1.frozen? ⟨w.heap.size+1+1,0,none⟩=false:=q0.frozen;obtain⟨p',cap',rfl⟩:=BB hown'
     gi_wp2
     refine⟨hK5.trans q3,(q8 _ aH (by have:=hInv5.sz; omega) aH).trans (hg5.block _ (by have:=hInv.sz; omega) dy),?_⟩
     refine⟨LA hInv5.Hh (by simp[E2,hnm,hl]),(q8 _ aH hInv5.r0.lt aH).trans hInv5.r0,(q8 _ aH hInv5.r1.lt aH).trans hInv5.r1,⟨_,q1,by simpa using q2⟩,?_,aY hInv5.sz q7⟩
     exact hInv5.below.trans ⟨q4,q5,q6,q7,fun q hq=>q8 q aH (by have:=hInv5.below.size; omega) aH⟩
 case done =>
  rintro D ys W hD hys hInv hK;obtain⟨v,hv,hrow⟩:=hInv.row;have hc0:=hInv.r0.cell;have hf0:=hInv.r0.frozen;have hc1:=hInv.r1.cell;have hf1:=hInv.r1.frozen;have hc2:W.cell? ⟨w.heap.size+1+1,0,none⟩=some v:=hv.cell;have hf2:W.frozen? ⟨w.heap.size+1+1,0,none⟩=false:=hv.frozen;obtain⟨p,cap,rfl⟩:=BB hrow
  by_cases hl:ys.length=0
  ·have hl':((ys.length:Int)==0)=true:=by simp[hl]
   have hy:ys=[]:=dM.1 hl
   have hsp:gy s=([],60):=by
    rw[hy] at hys;simp[gy,hs47,<-hys,qI]
   gi_wp2
   have hm:=yb (u := .int .i64 60) (yb (u := .slice none 0 0) hK (B:=w.heap.size) aH) (B:=w.heap.size+1) aH;have k0:Boxed ((W.setCell ⟨w.heap.size,0,none⟩ (.slice none 0 0)).setCell ⟨w.heap.size+1,0,none⟩ (.int .i64 60)) w.heap.size 44 (.slice none 0 0):=(hInv.r0.set _).other aH _;have k1:Boxed ((W.setCell ⟨w.heap.size,0,none⟩ (.slice none 0 0)).setCell ⟨w.heap.size+1,0,none⟩ (.int .i64 60)) (w.heap.size+1) 43 (.int .i64 60):=(hInv.r1.other aH _).set _;refine xf (run_takeDeferred hm) (results165 rfl rfl (tx k0 hm) (tx k1 hm)) ⟨_,rfl,World.ownsRow_nil _ _ _ _,AL ((hInv.below.setCell (p:=⟨w.heap.size,0,none⟩) (au _) _).setCell (p:=⟨w.heap.size+1,0,none⟩) dy _) aH⟩
  ·have hl':((ys.length:Int)==0)=false:=by rw[ke]; omega
   have hsp:gy s=(ys.map (·.1.1),0):=by
    have h0:=hInv.Hh.1;rw[hys] at h0;cases ys with
    |nil=>simp at hl
    |cons y ys=>simp[gy,hs47,h0]
   gi_wp2
   have hm:=yb (u := .int .i64 0) (yb (u := .slice p ys.length cap) hK (B:=w.heap.size) aH) (B:=w.heap.size+1) aH;have k0:Boxed ((W.setCell ⟨w.heap.size,0,none⟩ (.slice p ys.length cap)).setCell ⟨w.heap.size+1,0,none⟩ (.int .i64 0)) w.heap.size 44 (.slice p ys.length cap):=(hInv.r0.set _).other aH _;have k1:Boxed ((W.setCell ⟨w.heap.size,0,none⟩ (.slice p ys.length cap)).setCell ⟨w.heap.size+1,0,none⟩ (.int .i64 0)) (w.heap.size+1) 43 (.int .i64 0):=(hInv.r1.other aH _).set _;refine xf (run_takeDeferred hm) (results165 rfl rfl (tx k0 hm) (tx k1 hm)) ⟨_,rfl,?_,AL ((hInv.below.setCell (p:=⟨w.heap.size,0,none⟩) (au _) _).setCell (p:=⟨w.heap.size+1,0,none⟩) dy _) aH⟩;have:=abi (JX (JX hrow (by omega:w.heap.size<_) (.slice p ys.length cap)) (by omega:w.heap.size+1<_) (.int .i64 0)) (by omega:w.heap.size<=_) hm (o := .deferred none)
   simpa[Function.comp_def] using this
 case stop =>
  rintro D c pre W hD hpre hOut hK;obtain rfl:=hOut.ret;have hsp:gy s=([],60):=by simp[gy,hs47,Qm hpre hOut.bad]
  gi_wp2
  refine xf (run_takeDeferred hK) (results165 rfl rfl (tx hOut.r0 hK) (tx hOut.r1 hK)) ⟨_,rfl,World.ownsRow_nil _ _ _ _,AL hOut.below aH⟩
def Xr(s:Bytes)(ha:pd s)(hs:s.length<=100000)(w:World) :
  Calls Tryz.prog 165 #[.string (bs s)] w fun e W'=>∃v,e = .returned (.tuple #[v,.int .i64 (gy s).2])/\W'.ownsRow w.heap.size 9 1 v (gy s).1.length ((gy s).1.map Hb)/\Below w.heap.size w W' :=
 callsIn_wide.1 (Xt 6 aH s ha hs w)
end
end
instance (s:Bytes):Decidable (pd s):=inferInstanceAs (Decidable True)
def Ek:List ag->aC->Option (ag×aC)
 | [.str s],M=>if pd s/\s.length<=100000 then some (.tuple [.slice .sh ((gy s).1.map .str),.int .i64 (gy s).2],M) else none
 |_,_=>none
def Qn{args:List ag}{M:aC}{x:ag×aC}(h:Ek args M=some x):db Tryz.prog 165 args M x:=by
 unfold Ek at h;split at h
 ·rename_i s;split at h
  ·rename_i hs;cases h;refine nK.call ?_;intro j w vs hr hG hl hv;obtain⟨u,rfl⟩:=CZ hl;have h1:=(hv 0 _ u rfl rfl).kE;subst h1;refine(Xr s hs.1 hs.2 w).mono ?_;rintro e w' ⟨v,rfl,⟨dJ,hown⟩,hb⟩;refine⟨_,j,rfl,hr.grow hb.size hb.os hb.tape hb.output hb.block,Ext.grow hb.size hb.os hb.tape hb.output hb.block,.tuple rfl ?_⟩;intro i c v' hi hv'
   match i with
   |0 =>
    cases hi; cases hv';refine .plain ?_;rcases hown with ⟨rfl,h0⟩|⟨g,cap,cur,rfl,hg,hg',hn1,_,hcs,htk⟩
    ·rw[dM.1 h0];exact fQ.nil _ _ _
    ·refine .slice _ _ _ _ g 0 1 (fun k=>Hb ((gy s).1.getD k [])) dy (by simpa using hn1) (fun _=>rfl) ?_ ?_ ?_
     ·intro x hx;obtain⟨b,_,rfl⟩:=eJ.1 hx;rfl
     ·intro i x k c hx hc;rw[aX] at hx;obtain⟨b,hb',rfl⟩:=aV.1 hx
      match k with
      |0 =>
       have hi:i<(gy s).1.length:=(aj.1 hb').1;refine⟨?_,?_,?_,?_⟩
       ·have h1:cur.toList[i]?=some (Hb b):=by
         have:(cur.toList.take ((gy s).1.length*1))[i]?=some (Hb b):=by rw[htk,aX,hb']; rfl
         rwa[bH aH] at this
        have h2:cur[i]?=some (Hb b):=by simpa using h1
        have h3:(gy s).1.getD i []=b:=by simp[List.getD,hb']
        simp only[pM,c8,aG];rw[h3];simp[World.cell?,hg',h2]
       ·exact lt_of_block hg'
       ·intro id hid hji;have:=hr.lt id g hid hji; omega
       ·intro hx; have:=hr.AB g _ hx; omega
      |k+1=>cases hc
     ·intro i x k c hx hc;rw[aX] at hx;obtain⟨b,hb',rfl⟩:=aV.1 hx
      match k with
      |0 =>
       cases hc;have h3:(gy s).1.getD i []=b:=by simp[List.getD,hb']
       simp only[pM,c8];rw[h3];exact .str _
      |k+1=>cases hc
   |1=>cases hi; cases hv'; exact .plain (.int _ _)
   |i+2=>cases hi
  ·cases h
 ·cases h
section
attribute [local irreducible] eX fM lu gK dX kr aq aU cr bJ
def rL:∀a:Bytes,strLt a a=false
 | []=>rfl
 |a::x=>by simp[strLt,rL x,oM]
def xH:∀ {a b c:Bytes},strLt a b=true->strLt b c=true->strLt a c=true
 | [],b,[],_,h2=>by cases b<;>simp[strLt] at h2
 | [],_,_::_,_,_=>rfl
 |_::_,[],_,h1,_=>by simp[strLt] at h1
 |_::_,_::_,[],_,h2=>by simp[strLt] at h2
 |a::x,b::y,c::z,h1,h2=>by
  simp only[strLt,cW,bw,bh,eG] at h1 h2 ⊢;simp only[kY] at h1 h2 ⊢;rcases h1 with h1|⟨h1,h1'⟩
  ·rcases h2 with h2|⟨h2,_⟩
   ·left; omega
   ·left; rw[<-h2]; exact h1
  ·rcases h2 with h2|⟨h2,h2'⟩
   ·left; rw[h1]; exact h2
   ·right; exact⟨h1.trans h2,xH h1' h2'⟩
def sj{l:List gI}(h:re l)(s:Bytes):Ov l s (mr l s):=by
 unfold mr;induction l with
 |nil=>exact⟨dy,fun h n hn=>by simp at hn⟩
 |cons a r ih =>
  obtain⟨h1,h2⟩:=df.1 h;obtain⟨i1,i2⟩:=ih h2
  by_cases ha:strLt a.name s=true
  ·rw[gN,aZ ha];refine⟨by simpa using i1,fun k n hn=>?_⟩
   cases k with
   |zero=>simp at hn; subst hn; simp[ha]
   |succ k=>rw[i2 k n (by simpa using hn)]; simp
  ·rw[gN,aR ha];refine⟨dy,fun k n hn=>?_⟩
   simp only[az,jJ,iff_false];cases k with
   |zero=>simp at hn; subst hn; exact ha
   |succ k=>exact fun hc=>ha (xH (h1 n (aK (by simpa using hn))) hc)
def jZ{l:List gI}{s:Bytes}{e:gI}(h:gq l s=some e):e∈l/\e.name=s:=by
 unfold gq at h;exact⟨iz h,by simpa using List.find?_some h⟩
def wX{l:List gI}(h:re l)(s:Bytes):(zX l s (mr l s)=true/\∃n,l[mr l s]?=some n/\gq l s=some n/\n.name=s)\/(zX l s (mr l s)=false/\gq l s=none):=by
 obtain⟨l1,l2⟩:=sj h s;cases hf:gq l s with
 |some n =>
  left;obtain⟨hm,he⟩:=jZ hf;obtain⟨k,hk⟩:=bV hm;have hkb:¬k<mr l s:=fun hc=>by have:=(l2 k n hk).2 hc; rw[he,rL] at this; cases this
  have hb:mr l s<l.length:=by have:=(aj.1 hk).1; omega
  have hx:=ai hb;have hnl:¬strLt l[mr l s].name s=true:=fun hc=>ia _ ((l2 _ _ hx).1 hc)
  have hke:k=mr l s:=by
   rcases bz (mr l s) k with cG|hge
   ·have hkl:=(aj.1 hk).1;have h3:=cd.1 h _ _ hb hkl cG;have h4:l[k]=n:=by rw[ai hkl] at hk; injection hk
    rw[h4,he] at h3;exact absurd h3 hnl
   ·omega
  subst hke;exact⟨by unfold zX; rw[hk]; simp[he],n,hk,rfl,he⟩
 |none =>
  right;refine⟨?_,rfl⟩;unfold zX;split
  ·rename_i n hn;have:=fx.1 hf n (aK hn);simpa using this
  ·rfl
structure rS(t:Tree):Prop where
 mo:oU t.ae
 bc:∀n,n∈t.ae->re n.bc
def rS.dir{t:Tree}(h:rS t)(ar:Int):re (gV t.ae ar).1.bc:=by
 unfold gV;split
 ·exact List.Pairwise.nil
 ·rename_i n hn;split
  ·exact h.bc n (cD hn).1
  ·exact List.Pairwise.nil
def aql(t:Tree)(ar:Int)(s:Bytes)(ht:Small t)(hr:rS t)(hs:s.length<=100000)(ha:pd s):aq bW 151 [bq t,aF ar,.str s] []=some (.tuple [aF (fg t.ae ar s).1,aF (fg t.ae ar s).2],[]):=by
 obtain⟨ae,next,ak⟩:=t
 have hn:ae.length<=100000:=ht.ae;have hd:(gV ae ar).1.bc.length<=100000:=tC ht ar;have hE:re (gV ae ar).1.bc:=hr.dir ar;have hk:=fun b M=>Ze ae next ak ar hr.mo hn 1 (b :: cu [ba ae,aF next,aF ak]::M) rfl
 refine aB ?_;simp only[acw,Kt,bq,aM,hk,bK,aL,EN,seval];unfold fg;refine bB (fun hb=>?_) (fun hb=>?_)
 ·simp only[Kt,EN,seval];clear hk;simp_all
 ·simp only[Kt,afH,hs,ha,EN,seval];refine bB (fun hb'=>?_) (fun hb'=>?_)
  ·simp only[Kt,EN,seval];clear hk;simp_all
  ·have hk2:=fun a b c d u M=>S3 a b c d (gV ae ar).1.bc u s _ (sj hE s) hd M
   simp only[Kt,hk2,EN,seval];rcases wX hE s with ⟨h1,e,h2,h3,_⟩|⟨h1,h2⟩
   ·simp only[Kt,h1,h2,gd,EN,seval];clear hk hk2;simp_all
   ·simp only[Kt,h1,EN,seval];clear hk hk2;simp_all
def Zc(ae:List Node)(next ak ar:Int)(s:Bytes)(ht:Small ⟨ae,next,ak⟩)(hr:rS ⟨ae,next,ak⟩)(hs:s.length<=100000)(ha:pd s)(M:aC):aU (aq bW) 151 [.agg [ba ae,aF next,aF ak],aF ar,.str s] M =
  some (.tuple [aF (fg ae ar s).1,aF (fg ae ar s).2],M):=cO (aql ⟨ae,next,ak⟩ ar s ht hr hs ha) M
def aqU(t:Tree)(ar:Int)(ht:Small t)(hr:rS t):aq bW 191 [bq t,aF ar] []=some (.tuple [bK (bl t.ae ar),.bool (find t.ae ar).isSome],[]):=by
 obtain⟨ae,next,ak⟩:=t
 have hn:ae.length<=100000:=ht.ae;have hk:=fun b c M=>Fe ae next ak ar hr.mo hn 2 (b::c :: cu [ba ae,aF next,aF ak]::M) rfl
 refine aB ?_;simp only[acO,aoL,bq,aM,hk,bK,aL,EN,seval]
abbrev mU(n:Int):ag := .int .i64 n
def uz(l:List Int):wid (l.map mU) 1=True:=by
 simp only[fH,iZ];intro x hx;obtain⟨n,_,rfl⟩:=eJ.1 hx;rfl
def uv(ae:List Node):Nat->Int->List Int->List Int
 |0,_,out=>out
 |m+1,ar,out=>if ar != 1 then (if !(find ae ar).isSome||(bl ae ar).kind != 2 then out else uv ae m (bl ae ar).up (out++[(bl ae ar).up])) else out
def uD(ae:List Node)(ar:Int):List Int:=uv ae ae.length ar [ar]
def aaq{ae:List Node}{next ak:Int}(h:oU ae)(hn:ae.length<=100000){k:List K}{R:List Int->Option (ag×aC)}
  (hx:∀(out:List Int) v q,kr (aq bW) [.tmp 4] 1 k ⟨.exit 0,[(0,ct 0),(1,v),(5,.slice (.own 1) (out.map mU)),(22,q)],[cu [ba ae,aF next,aF ak],.tick 1 out.length]⟩=R out)
  (hr:∀(out:List Int) b,kr (aq bW) [.tmp 4] 1 k ⟨.ret,[(4,.slice (.own 1) (out.map mU))],[cu [ba ae,aF next,aF ak],.tick 1 out.length,b]⟩=R out) :
  ∀(m:Nat)(ar:Int)(out:List Int),out.length+m=ae.length+1->eX (aq bW) [.tmp 4] 1 k (.loop [0,1,5] ZZ) [(0,ct 0),(1,aF ar),(5,.slice (.own 1) (out.map mU))] [cu [ba ae,aF next,aF ak],.tick 1 out.length]=R (uv ae m ar out):=by
 intro m;induction m with
 |zero =>
  intro ar out ho;rw[bG];have hd':((out.length:Int)<=(ae.length:Int))=False:=gh;simp only[CB,EN,seval]
  repeat' ((first|apply bB|apply bU|apply dI)<;>intro hb<;>simp only[hb,EN,CB,hd',seval])
  all_goals exact hx _ _ _
 |succ m ih =>
  intro ar out ho;rw[bG];have hd':((out.length:Int)<=(ae.length:Int))=True:=gh;have r1:cp (out.length+1) 8=True:=qH;have hk:=fun M=>Fe ae next ak ar h hn 0 (cu [ba ae,aF next,aF ak]::M) rfl
  have hi:=ih (bl ae ar).up (out++[(bl ae ar).up]) gh;simp only[aW,aE,aQ,aA,aw,az,aG] at hi;rw[uv];simp only[CB,EN,seval];refine bU (fun hb=>?_) (fun hb=>?_)
  ·simp only[CB,hb,hd',hk,bK,aL,EN,seval];refine bU (fun hb1=>?_) (fun hb1=>?_)
   ·simp only[CB,hb1,EN,seval];refine bB (fun hb2=>?_) (fun hb2=>?_)
    ·simp only[CB,hb2,hb1,er,cQ,EN,seval];exact hr _ _
    ·simp only[CB,hb2,hb1,r1,uz,fF,af,EN,seval];exact hi
   ·simp only[CB,hb1,dH,EN,seval];exact hr _ _
  ·simp only[CB,hb,af,EN,seval];exact hx _ _ _
def aqZ(ae:List Node)(next ak ar:Int)(h:oU ae)(hn:ae.length<=100000):aq bW 200 [ct 0,aF ar] [cu [ba ae,aF next,aF ak]] =
  some (gS ((uD ae ar).map mU),[cu [ba ae,aF next,aF ak]]):=by
 refine aB ?_;simp only[Sn,CB,EN,seval];exact aaq (R:=fun out=>some (gS (out.map mU),[cu [ba ae,aF next,aF ak]])) h hn (fun out v q=>by simp only[CB,EN,seval]) (fun out b=>by simp only[CB,EN,seval]) ae.length ar [ar] gh
def afI ae next ak ar h hn p M hM:=cM (p:=p) (M:=M) hM (aqZ ae next ak ar h hn)
def yj(ae:List Node):∀(m:Nat)(ar:Int)(out:List Int),out.length<=(uv ae m ar out).length/\(uv ae m ar out).length<=out.length+m
 |0,_,out=>⟨au _,au _⟩
 |m+1,ar,out=>by
  rw[uv];split
  ·split
   ·exact⟨au _,aH⟩
   ·have:=yj ae m (bl ae ar).up (out++[(bl ae ar).up]);simp at this;omega
  ·exact⟨au _,aH⟩
def uw(ae:List Node)(ar:Int):1<=(uD ae ar).length/\(uD ae ar).length<=ae.length+1:=by
 have:=yj ae ae.length ar [ar];simp at this;unfold uD;omega
def aru(ae:List Node)(next ak ar:Int)(h:oU ae)(hn:ae.length<=100000):aq bW 239 [ct 0,aF ar] [cu [ba ae,aF next,aF ak]] =
  some (aF (((uD ae ar).length-1:Nat):Int),[cu [ba ae,aF next,aF ak]]):=by
 refine aB ?_;have hk:=fun M=>afI ae next ak ar h hn 0 (cu [ba ae,aF next,aF ak]::M) rfl
 have hl:=uw ae ar;have hw:IntKind.i64.wrap (((uD ae ar).length:Int)-1)=(((uD ae ar).length-1:Nat):Int):=by rw[gv aH aH]; omega
 simp only[adi,aoZ,hk,hw,EN,seval]
def amJ ae next ak ar h hn p M hM:=cM (p:=p) (M:=M) hM (aru ae next ak ar h hn)
def BQ(n:Node)(rest:List Node):∀(pre out:List Node),(∀m,m∈pre->m.ar<n.ar)->ot n (pre++rest) out false=ot n rest (out++pre) false
 | [],out,_=>dy
 |m::r,out,h=>by
  have hm:=h m (bD ..);have h1:¬n.ar<=m.ar:=aH;have h2:¬m.ar=n.ar:=aH;rw[aI,ot];simp only[pZ,h1,h2,decide_false,dV,fF,af,aD];rw[BQ n rest r _ fun x hx=>h x (bt _ hx)]
  simp
def zo(n:Node):∀(rest out:List Node),(∀m,m∈rest->n.ar<m.ar)->ot n rest out true=(out++rest,true)
 | [],out,_=>by simp[ot]
 |m::r,out,h=>by
  have hm:=h m (bD ..);have h2:¬m.ar=n.ar:=aH;rw[ot];simp only[dQ,dW,h2,dH,af,aD];rw[zo n r _ fun x hx=>h x (bt _ hx)]
  simp
def vM{ae:List Node}{ar:Int}{b:Nat}(h:Yf ae ar b):∀m,m∈ae.take b->m.ar<ar:=fun m hm=>by
 obtain⟨k,hk⟩:=bV hm;rw[fy] at hk;split at hk
 ·rename_i cG; exact(h.lt k m hk).2 cG
 ·cases hk
def FF{ae:List Node}{ar:Int}{b:Nat}(h:Yf ae ar b):∀m,m∈ae.drop b->ar<=m.ar:=fun m hm=>by
 obtain⟨k,hk⟩:=bV hm;rw[cH] at hk;have:=h.lt _ m hk;have hn:¬b+k<b:=aH;have:=fun hc=>hn (this.1 hc)
 omega
def yk{ae:List Node}(h:oU ae){n:Node}(hf:find ae n.ar=none):eT ae n=ae.take (mh ae n.ar)++n::ae.drop (mh ae n.ar):=by
 have hl:=uO h n.ar
 have hd:∀m,m∈ae.drop (mh ae n.ar)->n.ar<m.ar:=fun m hm=>by
  have h1:=FF hl m hm;have h2:=fx.1 hf m (dr hm);have:¬m.ar=n.ar:=by simpa using h2
  omega
 unfold eT;rw[show ot n ae [] false=ot n (ae.take (mh ae n.ar)++ae.drop (mh ae n.ar)) [] false by rw[cC]]
 rw[BQ n _ _ _ (vM hl)];generalize ae.drop (mh ae n.ar)=rest at hd;cases rest with
 |nil=>simp[ot]
 |cons m r =>
  have hm:=hd m (bD ..);have h1:n.ar<=m.ar:=aH;have h2:¬m.ar=n.ar:=aH;rw[ot];simp only[pZ,h1,h2,decide_true,fO,gA,er,aJ,aD];rw[zo n r _ fun x hx=>hd x (bt _ hx)]
  simp
def tL{ae:List Node}(h:oU ae){n o:Node}(ho:ae[mh ae n.ar]?=some o)(he:o.ar=n.ar):eT ae n=ae.set (mh ae n.ar) n:=by
 have hl:=uO h n.ar;have cG:=(aj.1 ho).1
 have hdr:ae.drop (mh ae n.ar)=o::ae.drop (mh ae n.ar+1):=by
  rw[dp cG];rw[ai cG] at ho; injection ho with ho; rw[ho]
 have hd:∀m,m∈ae.drop (mh ae n.ar+1)->n.ar<m.ar:=fun m hm=>by
  obtain⟨k,hk⟩:=bV hm;rw[cH] at hk;have hkl:=(aj.1 hk).1;have h3:=cd.1 h _ _ cG hkl aH;have h4:ae[mh ae n.ar+1+k]=m:=by rw[ai hkl] at hk; injection hk
  have h5:ae[mh ae n.ar]=o:=by rw[ai cG] at ho; injection ho
  rw[h4,h5] at h3;omega
 unfold eT;rw[show ot n ae [] false=ot n (ae.take (mh ae n.ar)++ae.drop (mh ae n.ar)) [] false by rw[cC]]
 rw[BQ n _ _ _ (vM hl),hdr,ot];simp only[pZ,he,dL,decide_true,fO,gA,er,aJ,cX];rw[zo n _ _ hd,jt,aZ cG];simp
def p85{ae:List Node}(h0:ae≠[])(hn:ae.length<=100000)(M:aC):aq bW 241 [ba ae] M=some (.cv M.length 0 6 0 ae.length,M++[.arr 6 0 (ae.map bK)]):=by
 refine fe (g:=mQ 6 80) rfl ?_;obtain⟨a,r,rfl⟩:=fj h0;have hw:wid ((a::r).map bK) 6:=by have:=GI (a::r); simpa using this
 have hr:cp ((a::r).map bK).length 80:=by have:=sn (a:=(a::r).length) (b:=80) aH aH; simpa using this
 unfold mQ;simp only[aE] at hw hr ⊢;rw[fh ⟨hw,hr⟩];simp
def p86{ae:List Node}{b:Nat}(hb:b<=ae.length)(hn:ae.length<=100000)(n:Node)(c0 c1:cI) :
  aq bW 242 [.cv 2 0 6 0 ae.length,aF b,gS [.agg (aL n)]] [c0,c1,.arr 6 0 (ae.map bK)]=some (.cv 2 1 6 0 (ae.length+1),[c0,c1,.arr 6 1 ((ae.take b++n::ae.drop b).map bK)]):=by
 refine fe (g:=lf 6 80) rfl ?_;have hr:cp ((ae.map bK).length+1) 80:=by have:=sn (a:=ae.length+1) (b:=80) aH aH; simpa using this
 unfold lf;simp only[nth];rw[fh ⟨trivial,trivial,trivial,dy,aH,by simpa using hb,rfl,hr⟩]
 simp[iP,bK]
def Xh(ae:List Node)(b:Nat)(o n:Node)(h:ae[b]?=some o):(iP (ae.map bK) b (putCells (bK o) 0 (aL n)))=(ae.set b n).map bK:=by
 have:putCells (bK o) 0 (aL n)=bK n:=rfl;rw[this,fi,gF]
def aqN(ae:List Node)(next ak:Int)(n:Node)(h:oU ae)(h0:ae≠[])(hn:ae.length<=100000):aq bW 182 [ct 0,bK n] [cu [ba ae,aF next,aF ak]] =
  some (.tuple [],[cu [ba (eT ae n),aF next,aF ak]]):=by
 refine aB ?_;have hk:=fun M=>afK ae next ak n.ar h hn 0 (cu [ba ae,aF next,aF ak]::M) rfl
 have hp:=fun M=>p85 h0 hn M
 have hle:=(uO h n.ar).le;simp only[Sh,aeh,bK,aL,hk,hp,EN,seval];rcases th h n.ar with ⟨h1,o,h2,h3,h4⟩|⟨h1,h2⟩
 ·have cG:((mh ae n.ar:Int)<(ae.length:Int))=True:=by have:=(aj.1 h2).1; simp; omega
  simp only[aeh,h1,h2,cG,bO,gk,cS,EN,seval];have e:=Xh ae _ o n h2;simp only[aL] at e;rw[e,tL h h2 h4,bC dy]
 ·have hi:=fun c0 c1=>p86 hle hn n c0 c1
  simp only[aL] at hi;simp only[aeh,h1,hi,gk,cS,EN,seval];rw[yk h h2,bC gh]
def LI(ae:List Node)(next ak a b c:Int)(d:Bytes)(e:List gI)(u:Int)(h:oU ae)(h0:ae≠[])(hn:ae.length<=100000)(p:Nat)(M:aC)(hM:nth M p=some (cu [ba ae,aF next,aF ak])) :
  aU (aq bW) 182 [ct p,.agg [aF a,aF b,aF c,cR d,ja e,aF u]] M=some (.tuple [],iP M p (cu [ba (eT ae ⟨a,b,c,d,e,u⟩),aF next,aF ak])) :=
 ti hM (aqN ae next ak ⟨a,b,c,d,e,u⟩ h h0 hn) rfl rfl rfl rfl rfl rfl rfl rfl rfl rfl
def FZ:(∀M cs,ag.ry M (.agg cs) = .agg (cs.map (ag.oY M)))/\(∀M i o,ag.ry M (.ptr i o) = .ptr i o)/\(∀M k n,ag.ry M (.int k n) = .int k n)/\(∀M s,ag.ry M (.str s) = .str s) /\
  (∀M k n,ag.oY M (.int k n) = .int k n)/\(∀M s,ag.oY M (.str s) = .str s)/\(∀M tk xs,ag.oY M (.slice tk xs) = .slice tk xs)/\(∀M b,ag.oY M (.bool b) = .bool b) /\
  (∀M id ver sz lo hi,ag.oY M (.cv id ver sz lo hi)=match nth M id with
   |some (.arr _ v xs)=>if v=ver then gS ((xs.take hi).drop lo) else .any
   |_ => .any)/\(∀i a b c d,ag.nD (.cv i a b c d)=[i]):=by
 refine⟨?_,?_,?_,?_,?_,?_,?_,?_,?_,?_⟩<;>intros<;>rfl
def AA{ae:List Node}(h:oU ae){ar:Int}{o:Node}(ho:ae[mh ae ar]?=some o)(he:o.ar=ar):fP ae ar=ae.take (mh ae ar)++ae.drop (mh ae ar+1):=by
 have hl:=uO h ar;have cG:=(aj.1 ho).1
 have hd:∀m,m∈ae.drop (mh ae ar+1)->ar<m.ar:=fun m hm=>by
  obtain⟨k,hk⟩:=bV hm;rw[cH] at hk;have hkl:=(aj.1 hk).1;have h3:=cd.1 h _ _ cG hkl aH;have h4:ae[mh ae ar+1+k]=m:=by rw[ai hkl] at hk; injection hk
  have h5:ae[mh ae ar]=o:=by rw[ai cG] at ho; injection ho
  rw[h4,h5] at h3;omega
 have hdr:ae.drop (mh ae ar)=o::ae.drop (mh ae ar+1):=by
  rw[dp cG];rw[ai cG] at ho; injection ho with ho; rw[ho]
 unfold fP;rw[show ae.filter (fun n=>n.ar != ar)=(ae.take (mh ae ar)++ae.drop (mh ae ar)).filter (fun n=>n.ar != ar) by rw[cC]]
 rw[jx,hdr,fq];simp only[he,av,af,aD];rw[jh.2 fun m hm=>by have:=vM hl m hm; simp; omega,jh.2 fun m hm=>by have:=hd m hm; simp; omega]
def yH{ae:List Node}{ar:Int}(hf:find ae ar=none):fP ae ar=ae :=
 jh.2 fun m hm=>by simpa using fx.1 hf m hm
def at5{ae:List Node}{b:Nat}(hb:b<ae.length)(hn:ae.length<=100000)(c0:cI) :
  aq bW 283 [.cv 1 0 6 0 ae.length,aF b,aF ((b+1:Nat):Int)] [c0,.arr 6 0 (ae.map bK)]=some (.cv 1 1 6 0 (ae.length-1),[c0,.arr 6 1 ((ae.take b++ae.drop (b+1)).map bK)]):=by
 refine fe (g:=lI 6) rfl ?_;unfold lI;simp only[nth];rw[fh ⟨trivial,trivial,trivial,dy,aH,by simpa using hb,aH,gh⟩]
 simp[iP]
def arw(ae:List Node)(next ak ar:Int)(h:oU ae)(hn:ae.length<=100000):aq bW 244 [ct 0,aF ar] [cu [ba ae,aF next,aF ak]] =
  some (.tuple [],[cu [ba (fP ae ar),aF next,aF ak]]):=by
 refine aB ?_;have hk:=fun M=>afK ae next ak ar h hn 0 (cu [ba ae,aF next,aF ak]::M) rfl
 simp only[St,aeo,hk,EN,seval];rcases th h ar with ⟨h1,o,h2,h3,h4⟩|⟨h1,h2⟩
 ·have cG:=(aj.1 h2).1;have h0:ae≠[]:=by rintro rfl; simp at h2
  have hp:=fun M=>p85 h0 hn M
  have hd:=fun c0=>at5 cG hn c0
  have hw:IntKind.i64.wrap ((mh ae ar:Int)+1)=((mh ae ar+1:Nat):Int):=by rw[gv aH aH]; rfl
  simp only[aeo,h1,hp,hd,hw,gk,cS,EN,seval];rw[AA h h2 h4,bC gh]
 ·simp only[aeo,h1,EN,seval];rw[yH h2]
def amK(ae:List Node)(next ak ar:Int)(h:oU ae)(hn:ae.length<=100000)(p:Nat)(M:aC)(hM:nth M p=some (cu [ba ae,aF next,aF ak])) :
  aU (aq bW) 244 [ct p,aF ar] M=some (.tuple [],iP M p (cu [ba (fP ae ar),aF next,aF ak])) :=
 ti hM (arw ae next ak ar h hn) rfl rfl rfl rfl rfl rfl rfl rfl rfl rfl
def Mq{a b:Bytes}(h:strLt a b=true):strLt b a=false:=by
 cases hb:strLt b a with
 |false=>rfl
 |true=>have:=xH h hb; rw[rL] at this; cases this
def xG:∀(a b:Bytes),strLt a b=true\/a=b\/strLt b a=true
 | [],[] => .inr (.inl rfl)
 | [],_::_ => .inl rfl
 |_::_,[] => .inr (.inr rfl)
 |a::x,b::y=>by
  simp only[strLt,cW,bw,bh,eG,mB,kY];rcases xG x y with h|h|h
  ·rcases iX a.toNat b.toNat with h1|h1|h1
   ·exact .inl (.inl h1)
   ·exact .inl (.inr ⟨kN.1 h1,h⟩)
   ·exact .inr (.inr (.inl h1))
  ·rcases iX a.toNat b.toNat with h1|h1|h1
   ·exact .inl (.inl h1)
   ·exact .inr (.inl ⟨kN.1 h1,h⟩)
   ·exact .inr (.inr (.inl h1))
  ·rcases iX a.toNat b.toNat with h1|h1|h1
   ·exact .inl (.inl h1)
   ·exact .inr (.inr (.inr ⟨(kN.1 h1).symm,h⟩))
   ·exact .inr (.inr (.inl h1))
def Po{a b:Bytes}(h:strLt a b=true):gtB a b=false:=by simp[gtB,h]
def Pn{a b:Bytes}(h:strLt b a=true):gtB a b=true:=by
 have h1:=Mq h;have h2:¬a=b:=by rintro rfl; rw[rL] at h; cases h
 simp[gtB,h1,h2]
def Jg(e:gI)(rest:List gI):∀(pre out:List gI),(∀m,m∈pre->strLt m.name e.name=true)->vA e (pre++rest) out false=vA e rest (out++pre) false
 | [],out,_=>dy
 |m::r,out,h=>by
  rw[aI,vA,Po (h m (bD ..))];simp only[dV,fF,af,aD];rw[Jg e rest r _ fun x hx=>h x (bt _ hx)]
  simp
def F3(e:gI):∀(rest out:List gI),vA e rest out true=(out++rest,true)
 | [],out=>by simp[vA]
 |m::r,out=>by
  rw[vA];simp only[dQ,dW,dH,af,aD];rw[F3 e r];simp
def BJ{l:List gI}{s:Bytes}{b:Nat}(h:Ov l s b):∀m,m∈l.take b->strLt m.name s=true:=fun m hm=>by
 obtain⟨k,hk⟩:=bV hm;rw[fy] at hk;split at hk
 ·rename_i cG; exact(h.lt k m hk).2 cG
 ·cases hk
def Dw{l:List gI}{s:Bytes}{b:Nat}(h:Ov l s b):∀m,m∈l.drop b->strLt m.name s=false:=fun m hm=>by
 obtain⟨k,hk⟩:=bV hm;rw[cH] at hk;have:=h.lt _ m hk;have hn:¬b+k<b:=aH;cases hc:strLt m.name s with
 |false=>rfl
 |true=>exact absurd (this.1 hc) hn
def vz{l:List gI}(h:re l){e:gI}(hf:gq l e.name=none):yZ l e=l.take (mr l e.name)++e::l.drop (mr l e.name):=by
 have hl:=sj h e.name
 have hd:∀m,m∈l.drop (mr l e.name)->strLt e.name m.name=true:=fun m hm=>by
  have h1:=Dw hl m hm;have h2:=fx.1 hf m (dr hm);have h3:¬m.name=e.name:=by simpa using h2
  rcases xG m.name e.name with h4|h4|h4
  ·rw[h1] at h4; cases h4
  ·exact absurd h4 h3
  ·exact h4
 unfold yZ;rw[show vA e l [] false=vA e (l.take (mr l e.name)++l.drop (mr l e.name)) [] false by rw[cC]]
 rw[Jg e _ _ _ (BJ hl)];generalize l.drop (mr l e.name)=rest at hd;cases rest with
 |nil=>simp[vA]
 |cons m r =>
  rw[vA,Pn (hd m (bD ..))];simp only[fO,gA,er,aJ];rw[F3];simp
def FE{l:List gI}(h:re l){s:Bytes}{o:gI}(ho:l[mr l s]?=some o)(he:o.name=s):j8 l s=l.take (mr l s)++l.drop (mr l s+1):=by
 have hl:=sj h s;have cG:=(aj.1 ho).1
 have hdr:l.drop (mr l s)=o::l.drop (mr l s+1):=by
  rw[dp cG];rw[ai cG] at ho; injection ho with ho; rw[ho]
 have hd:∀m,m∈l.drop (mr l s+1)->strLt s m.name=true:=fun m hm=>by
  obtain⟨k,hk⟩:=bV hm;rw[cH] at hk;have hkl:=(aj.1 hk).1;have h3:=cd.1 h _ _ cG hkl aH;have h4:l[mr l s+1+k]=m:=by rw[ai hkl] at hk; injection hk
  have h5:l[mr l s]=o:=by rw[ai cG] at ho; injection ho
  rw[h4,h5,he] at h3;exact h3
 have ne:∀ {a b:Bytes},strLt a b=true->¬a=b:=fun {a b} h=>by rintro rfl; rw[rL] at h; cases h
 unfold j8;rw[show l.filter (fun n=>n.name != s)=(l.take (mr l s)++l.drop (mr l s)).filter (fun n=>n.name != s) by rw[cC]]
 rw[jx,hdr,fq];simp only[he,av,af,aD];rw[jh.2 fun m hm=>by simpa using ne (BJ hl m hm),jh.2 fun m hm=>by simpa using fun hc=>ne (hd m hm) hc.symm]
def Lf{l:List gI}{s:Bytes}(hf:gq l s=none):j8 l s=l :=
 jh.2 fun m hm=>by simpa using fx.1 hf m hm
def p58{l:List gI}(h0:l≠[])(hn:l.length<=100000)(M:aC):aq bW 205 [ja l] M=some (.cv M.length 0 3 0 l.length,M++[.arr 3 0 (l.map iE)]):=by
 refine fe (g:=mQ 3 32) rfl ?_;obtain⟨a,r,rfl⟩:=fj h0;have hw:wid ((a::r).map iE) 3:=by have:=Kh (a::r); simpa using this
 have hr:cp ((a::r).map iE).length 32:=by have:=sn (a:=(a::r).length) (b:=32) aH aH; simpa using this
 unfold mQ;simp only[aE] at hw hr ⊢;rw[fh ⟨hw,hr⟩];simp
def anE(M:aC):aq bW 205 [gS []] M=some (.slice .c0 [],M):=fe (g:=mQ 3 32) rfl rfl
def p87{l:List gI}{b:Nat}(hb:b<=l.length)(hn:l.length<=100000)(e:gI)(c0 c1:cI) :
  aq bW 243 [.cv 2 0 3 0 l.length,aF b,gS [.agg (gd e)]] [c0,c1,.arr 3 0 (l.map iE)]=some (.cv 2 1 3 0 (l.length+1),[c0,c1,.arr 3 1 ((l.take b++e::l.drop b).map iE)]):=by
 refine fe (g:=lf 3 32) rfl ?_;have hr:cp ((l.map iE).length+1) 32:=by have:=sn (a:=l.length+1) (b:=32) aH aH; simpa using this
 unfold lf;simp only[nth];rw[fh ⟨trivial,trivial,trivial,dy,aH,by simpa using hb,rfl,hr⟩]
 simp[iP,iE]
def at7(e:gI)(M:aC):aq bW 243 [.slice .c0 [],aF 0,gS [.agg (gd e)]] M=some (.cv M.length 0 3 0 1,M++[.arr 3 0 [.agg (gd e)]]):=by
 refine fe (g:=lf 3 32) rfl ?_
 show cr ((0:Int)=0/\(ag.agg (gd e)).cells.length=3) _=_
 exact fh ⟨rfl,rfl⟩
def p84{l:List gI}{b:Nat}(hb:b<l.length)(hn:l.length<=100000)(c0 c1:cI) :
  aq bW 248 [.cv 2 0 3 0 l.length,aF b,aF ((b+1:Nat):Int)] [c0,c1,.arr 3 0 (l.map iE)]=some (.cv 2 1 3 0 (l.length-1),[c0,c1,.arr 3 1 ((l.take b++l.drop (b+1)).map iE)]):=by
 refine fe (g:=lI 3) rfl ?_;unfold lI;simp only[nth];rw[fh ⟨trivial,trivial,trivial,dy,aH,by simpa using hb,aH,gh⟩]
 simp[iP]
def Mt{ae:List Node}(h:oU ae){n:Node}(hf:find ae n.ar=some n):eT ae n=ae:=by
 rcases th h n.ar with ⟨_,o,h2,h3,h4⟩|⟨_,h2⟩
 ·rw[hf] at h3; cases h3;rw[tL h h2 rfl];apply cA;intro i
  by_cases e:mh ae n.ar=i
  ·subst e; rw[eZ (aj.1 h2).1,h2]
  ·rw[fa e]
 ·rw[hf] at h2; cases h2
def aqO(ae:List Node)(next ak dir:Int)(s:Bytes)(ar:Int)(h:oU ae)(hn:ae.length<=100000){n:Node}(hf:find ae dir=some n)(hE:re n.bc)(hl:n.bc.length<=99999)(hs:gq n.bc s=none) :
  aq bW 183 [ct 0,aF dir,.str s,aF ar] [cu [ba ae,aF next,aF ak]]=some (.tuple [],[cu (aM (il ⟨ae,next,ak⟩ dir s ar))]):=by
 refine aB ?_;have h0:ae≠[]:=by rintro rfl; simp[find] at hf
 have hnn:bl ae dir=n:=by simp[bl,hf]
 have hk:=fun M=>Fe ae next ak dir h hn 0 (cu [ba ae,aF next,aF ak]::M) rfl
 have hk2:=fun a b c d u M=>S3 a b c d n.bc u s _ (sj hE s) aH M
 have hle:=(sj hE s).le
 have hres:il ⟨ae,next,ak⟩ dir s ar=⟨eT ae { n with bc:=n.bc.take (mr n.bc s)++⟨s,ar,ak⟩::n.bc.drop (mr n.bc s) },next,nw (ak+1)⟩:=by
  have:=vz hE (e:=⟨s,ar,ak⟩) hs;simp only[il,hf,bA,this]
 rw[hres,aM];have hp:=fun a b c d e u M=>LI ae next (nw (ak+1)) a b c d e u h h0 hn 0 (cu [ba ae,aF next,aF (nw (ak+1))]::M) rfl
 simp only[Si,QU,hk,hnn,bK,aL,hk2,EN,seval]
 by_cases hne:n.bc=[]
 ·have hlow:mr n.bc s=0:=by rw[hne]; rfl
  have hi:=fun M=>at7 ⟨s,ar,ak⟩ M
  simp only[gd] at hi;have hlow0:mr [] s=0:=rfl;have hc0:((0:Nat):Int)=0:=rfl;simp only[QU,hne,hlow0,hc0,ja,anE,hi,FZ,qz,EN,seval];rw[show gS [ag.agg [.str s,aF ar,aF ak]]=ja [⟨s,ar,ak⟩] from rfl]
  simp only[QU,hp,EN,seval]
 ·have hc:=fun M=>p58 hne (show n.bc.length<=100000 by omega) M
  have hi:=fun c0 c1=>p87 hle (show n.bc.length<=100000 by omega) ⟨s,ar,ak⟩ c0 c1
  simp only[gd] at hi;simp only[QU,hc,hi,FZ,qz,EN,seval];have ht:List.take (n.bc.length+1) (List.map iE (List.take (mr n.bc s) n.bc++⟨s,ar,ak⟩::List.drop (mr n.bc s) n.bc))=List.map iE (List.take (mr n.bc s) n.bc++⟨s,ar,ak⟩::List.drop (mr n.bc s) n.bc):=bC gh;rw[ht];simp only[QU,hp,EN,seval]
def Zd(ae:List Node)(next ak dir:Int)(s:Bytes)(ar:Int)(h:oU ae)(hn:ae.length<=100000){n:Node}(hf:find ae dir=some n)(hE:re n.bc)(hl:n.bc.length<=99999)(hs:gq n.bc s=none)(p:Nat)(M:aC)(hM:nth M p=some (cu [ba ae,aF next,aF ak])) :
  aU (aq bW) 183 [ct p,aF dir,.str s,aF ar] M=some (.tuple [],iP M p (cu (aM (il ⟨ae,next,ak⟩ dir s ar)))) :=
 ti hM (aqO ae next ak dir s ar h hn hf hE hl hs) rfl rfl rfl rfl rfl rfl rfl rfl rfl rfl
def aqW(ae:List Node)(next ak dir:Int)(s:Bytes)(h:oU ae)(hn:ae.length<=100000){n:Node}(hf:find ae dir=some n)(hE:re n.bc)(hl:n.bc.length<=99999) :
  aq bW 195 [ct 0,aF dir,.str s] [cu [ba ae,aF next,aF ak]]=some (.tuple [],[cu [ba (dx ae dir s),aF next,aF ak]]):=by
 refine aB ?_;have h0:ae≠[]:=by rintro rfl; simp[find] at hf
 have hnn:bl ae dir=n:=by simp[bl,hf]
 have hino:n.ar=dir:=(cD hf).2;have hk:=fun M=>Fe ae next ak dir h hn 0 (cu [ba ae,aF next,aF ak]::M) rfl
 have hk2:=fun a b c d u M=>S3 a b c d n.bc u s _ (sj hE s) aH M
 have hp:=fun a b c d e u M=>LI ae next ak a b c d e u h h0 hn 0 (cu [ba ae,aF next,aF ak]::M) rfl
 have hres:dx ae dir s=eT ae { n with bc:=j8 n.bc s }:=by simp only[dx,hf,bA]
 rw[hres];simp only[Sm,X7,hk,hnn,bK,aL,hk2,EN,seval];rcases wX hE s with ⟨h1,o,h2,h3,h4⟩|⟨h1,h2⟩
 ·have cG:=(aj.1 h2).1;have hne:n.bc≠[]:=by intro hc; rw[hc] at h2; simp at h2
  have hc:=fun M=>p58 hne (show n.bc.length<=100000 by omega) M
  have hd:=fun c0 c1=>p84 cG (show n.bc.length<=100000 by omega) c0 c1
  have hw:IntKind.i64.wrap ((mr n.bc s:Int)+1)=((mr n.bc s+1:Nat):Int):=by rw[gv aH aH]; rfl
  simp only[X7,h1,hc,hd,hw,FZ,qz,EN,seval];have ht:List.take (n.bc.length-1) (List.map iE (List.take (mr n.bc s) n.bc++List.drop (mr n.bc s+1) n.bc))=List.map iE (List.take (mr n.bc s) n.bc++List.drop (mr n.bc s+1) n.bc):=bC gh;rw[ht];simp only[X7,hp,EN,seval];rw[FE hE h2 h4]
 ·simp only[X7,h1,EN,seval];rw[Lf h2];have:eT ae n=ae:=Mt h (by rw[hino]; exact hf)
  rw[show({ n with bc:=n.bc }:Node)=n from rfl,this]
def afG(ae:List Node)(next ak dir:Int)(s:Bytes)(h:oU ae)(hn:ae.length<=100000){n:Node}(hf:find ae dir=some n)(hE:re n.bc)(hl:n.bc.length<=99999)(p:Nat)(M:aC)(hM:nth M p=some (cu [ba ae,aF next,aF ak])) :
  aU (aq bW) 195 [ct p,aF dir,.str s] M=some (.tuple [],iP M p (cu [ba (dx ae dir s),aF next,aF ak])) :=
 ti hM (aqW ae next ak dir s h hn hf hE hl) rfl rfl rfl rfl rfl rfl rfl rfl rfl rfl
def kK(ae:List Node)(n:Node):List Node:=if n.kind==2 then fP ae n.ar else eT ae { n with eE:=nw (n.eE-1) }
def c196(ae:List Node)(next ak:Int)(n:Node)(h:oU ae)(h0:ae≠[])(hn:ae.length<=100000) :
  aq bW 196 [ct 0,bK n] [cu [ba ae,aF next,aF ak]]=some (.tuple [],[cu [ba (kK ae n),aF next,aF ak]]):=by
 refine aB ?_;have hp:=fun a b c d e u M=>LI ae next ak a b c d e u h h0 hn 0 (cu [ba ae,aF next,aF ak]::M) rfl
 have hd:=fun M=>amK ae next ak n.ar h hn 0 (cu [ba ae,aF next,aF ak]::M) rfl
 simp only[acS,aej,bK,aL,EN,seval];unfold kK;refine bB (fun hb=>?_) (fun hb=>?_)
 ·simp only[aej,hb,hd,EN,seval]
 ·simp only[aej,hb,hp,af,EN,seval]
def amz(ae:List Node)(next ak a b c:Int)(d:Bytes)(e:List gI)(u:Int)(h:oU ae)(h0:ae≠[])(hn:ae.length<=100000)(p:Nat)(M:aC)(hM:nth M p=some (cu [ba ae,aF next,aF ak])) :
  aU (aq bW) 196 [ct p,.agg [aF a,aF b,aF c,cR d,ja e,aF u]] M=some (.tuple [],iP M p (cu [ba (kK ae ⟨a,b,c,d,e,u⟩),aF next,aF ak])) :=
 ti hM (c196 ae next ak ⟨a,b,c,d,e,u⟩ h h0 hn) rfl rfl rfl rfl rfl rfl rfl rfl rfl rfl
def sq(ae:List Node)(ar:Int):Nat:=(uD ae ar).length-1
def pc(t:Tree)(dir:Int)(s:Bytes):Int :=
 if (gV t.ae dir).2 != 0 then (gV t.ae dir).2 else if !fU s then 60 else if (gq (gV t.ae dir).1.bc s).isSome=true then 71 else
 if decide ((64:Int)<=(gV t.ae dir).1.bc.length)||(decide ((12:Int)<=sq t.ae dir)||decide ((1099511627776:Int)<=t.ak)) then 76 else 0
def aqM(ae:List Node)(next ak dir:Int)(s:Bytes)(ht:Small ⟨ae,next,ak⟩)(hr:rS ⟨ae,next,ak⟩)(hs:s.length<=100000)(ha:pd s) :
  aq bW 181 [ct 0,aF dir,.str s] [cu [ba ae,aF next,aF ak]]=some (aF (pc ⟨ae,next,ak⟩ dir s),[cu [ba ae,aF next,aF ak]]):=by
 have hn:ae.length<=100000:=ht.ae;have hd:(gV ae dir).1.bc.length<=100000:=tC ht dir;have hE:re (gV ae dir).1.bc:=hr.dir dir;have hk:=fun M=>Ze ae next ak dir hr.mo hn 0 (cu [ba ae,aF next,aF ak]::M) rfl
 have hk2:=fun a b c d u M=>S3 a b c d (gV ae dir).1.bc u s _ (sj hE s) hd M
 have hk3:∀M,aU (aq bW) 239 [ct 0,aF dir] (cu [ba ae,aF next,aF ak]::M)=some (aF (sq ae dir),cu [ba ae,aF next,aF ak]::M):=fun M=>amJ ae next ak dir hr.mo hn 0 (cu [ba ae,aF next,aF ak]::M) rfl
 refine aB ?_;simp only[acK,HV,hk,bK,aL,EN,seval];refine bB (fun hb=>?_) (fun hb=>?_)
 ·simp only[HV,hb,EN,seval];clear hk hk2 hk3;simp_all only[pc,qv,↓reduceIte,reduceCtorEq,av]
 simp only[HV,hb,afH,hs,ha,EN,seval];refine bB (fun hb1=>?_) (fun hb1=>?_)
 ·simp only[HV,hb1,EN,seval];clear hk hk2 hk3;simp_all only[pc,qv,↓reduceIte,reduceCtorEq,av]
 simp only[HV,hb1,hk2,EN,seval];rcases wX hE s with ⟨h1,o,h2,h3,h4⟩|⟨h1,h2⟩
 ·simp only[HV,h1,EN,seval];clear hk hk2 hk3;simp_all only[pc,bX,qv,↓reduceIte,reduceCtorEq,av]
 ·simp only[HV,h1,EN,seval]
  repeat' ((first|apply bB|apply bU|apply dI)<;>intro hb<;>simp only[hb,EN,HV,hk3,seval])
  all_goals (clear hk hk2 hk3; simp_all only[pc,dg,qv,↓reduceIte,reduceCtorEq,av]; done)
def amw ae next ak dir s ht hr hs ha p M hM:=cM (p:=p) (M:=M) hM (aqM ae next ak dir s ht hr hs ha)
def Ac(x y:Node):Int:=if x.kind==2&&y.kind != 2 then 73 else if x.kind != 2&&y.kind==2 then 72 else if decide ((0:Int)<y.bc.length) then 74 else 0
def aq1(x y:Node):aq bW 202 [bK x,bK y] []=some (aF (Ac x y),[]):=by
 refine aB ?_;simp only[acW,aix,bK,aL,EN,seval]
 repeat' ((first|apply bB|apply bU|apply dI)<;>intro hb<;>simp only[hb,EN,aix,seval])
 all_goals (simp_all only[Ac,qv,↓reduceIte,reduceCtorEq,av]; done)
def aqR(t:Tree)(ar:Int)(ht:Small t)(hr:rS t):aq bW 187 [bq t,aF ar] []=some (.tuple [bq (kJ t ar).1,aF (kJ t ar).2],[]):=by
 obtain⟨ae,next,ak⟩:=t
 have hn:ae.length<=100000:=ht.ae;refine aB ?_;have hk:=fun b c M=>Fe ae next ak ar hr.mo hn 2 (b::c :: cu [ba ae,aF next,aF ak]::M) rfl
 have hd:=fun b c M=>amK ae next ak ar hr.mo hn 2 (b::c :: cu [ba ae,aF next,aF ak]::M) rfl
 simp only[acM,aiw,bq,aM,hk,bK,aL,EN,seval]
 repeat' ((first|apply bB|apply bU|apply dI)<;>intro hb<;>simp only[hb,EN,aiw,hd,seval])
 all_goals (clear hk hd; simp_all only[kJ,bq,aM,qv,↓reduceIte,reduceCtorEq,av]; done)
def asz(data:Bytes)(hd:data.length<=100000)(M:aC):aU (aq bW) 160 [cR data] M=some (cR data,M):=by
 refine cO (fe (g:=pCC 1 1) rfl ?_) M;have hw:wid (data.map pt) 1:=by have:=sg data; simpa using this
 have hr:cp (data.map pt).length 1:=by have:=sn (a:=data.length) (b:=1) aH aH; simpa using this
 exact fh ⟨hw,hr⟩
def arh(t:Tree)(ar:Int)(data:Bytes)(ht:Small t)(hr:rS t)(hd:data.length<=100000):aq bW 225 [bq t,aF ar,cR data] []=some (.tuple [bq (rP t ar data).1,aF (rP t ar data).2],[]):=by
 obtain⟨ae,next,ak⟩:=t
 have hn:ae.length<=100000:=ht.ae;refine aB ?_;have hk:=fun b c M=>Fe ae next ak ar hr.mo hn 2 (b::c :: cu [ba ae,aF next,aF ak]::M) rfl
 simp only[adb,X9,bq,aM,hk,bK,aL,EN,seval];cases hf:find ae ar with
 |none =>
  simp only[X9,dg,EN,seval];clear hk;simp_all only[rP,bq,aM,dg,qv,↓reduceIte,reduceCtorEq,av]
 |some n =>
  have h0:ae≠[]:=by rintro rfl; simp[find] at hf
  have hp:=fun x y a b c d e u M=>LI ae next ak a b c d e u hr.mo h0 hn 2 (x::y :: cu [ba ae,aF next,aF ak]::M) rfl
  have hc:=fun M=>asz data hd M
  simp only[X9,bX,EN,seval]
  repeat' ((first|apply bB|apply bU|apply dI)<;>intro hb<;>simp only[hb,EN,X9,hp,hc,seval])
  all_goals (clear hk hp hc; simp_all only[rP,bq,aM,bX,qv,↓reduceIte,reduceCtorEq,av]; done)
end
def KG{ae:List Node}(h:oU ae){a b:Node}(ha:a∈ae)(hb:b∈ae)(he:a.ar=b.ar):a=b:=by
 obtain⟨i,hi⟩:=bV ha;obtain⟨k,hk⟩:=bV hb;have hil:=(aj.1 hi).1;have hkl:=(aj.1 hk).1;have e1:ae[i]=a:=by rw[ai hil] at hi; injection hi
 have e2:ae[k]=b:=by rw[ai hkl] at hk; injection hk
 rcases iX i k with cG|heq|hgt
 ·have:=cd.1 h _ _ hil hkl cG;rw[e1,e2] at this; omega
 ·subst heq; rw[<-e1,<-e2]
 ·have:=cd.1 h _ _ hkl hil hgt;rw[e1,e2] at this; omega
def ic{ae:List Node}(h:oU ae){i:Int}{m:Node}:find ae i=some m↔m∈ae/\m.ar=i:=by
 refine⟨cD,fun⟨h1,h2⟩=>?_⟩
 cases hf:find ae i with
 |none =>
  have:=fx.1 hf m h1;simp[h2] at this
 |some k =>
  obtain⟨k1,k2⟩:=cD hf;rw[KG h h1 k1 aH]
def qG{ae:List Node}{i:Int}:find ae i=none↔∀m,m∈ae->m.ar≠i:=by
 unfold find;rw[fx];simp
def yf{ae:List Node}{b:Nat}{o n:Node}(ho:ae[b]?=some o):ae=ae.take b++o::ae.drop (b+1)/\ae.set b n=ae.take b++n::ae.drop (b+1):=by
 have cG:=(aj.1 ho).1;constructor
 ·rw[ai cG] at ho; injection ho with ho
  conv=>lhs; rw[<-cC b ae]
  rw[dp cG,ho]
 ·rw[jt,aZ cG]
def vB{ae:List Node}(h:oU ae){n m:Node}:m∈eT ae n↔m=n\/(m∈ae/\m.ar≠n.ar):=by
 rcases th h n.ar with ⟨_,o,h2,h3,h4⟩|⟨_,h2⟩
 ·rw[tL h h2 h4];obtain⟨s1,s2⟩:=yf (n:=n) h2;have hon:o∈ae:=(cD h3).1;constructor
  ·intro hm;rw[s2] at hm;rcases bm.1 hm with hm|hm
   ·have hmn:=dK hm;have:=vM (uO h n.ar) m hm;exact .inr ⟨hmn,aH⟩
   ·rcases bI.1 hm with rfl|hm
    ·exact .inl rfl
    ·refine .inr ⟨dr hm,fun he=>?_⟩
     have hp:=h;unfold oU at hp;rw[s1,fu] at hp;have:=(df.1 hp.2.1).1 m hm;omega
  ·rintro(rfl|⟨hm,hne⟩)
   ·rw[s2]; simp
   ·rw[s1] at hm;rw[s2];rcases bm.1 hm with hm|hm
    ·exact ft _ hm
    ·rcases bI.1 hm with rfl|hm
     ·exact absurd h4 hne
     ·exact iC _ (bt _ hm)
 ·rw[yk h h2];rw[qG] at h2;constructor
  ·intro hm;rcases bm.1 hm with hm|hm
   ·have:=dK hm;exact .inr ⟨this,h2 m this⟩
   ·rcases bI.1 hm with rfl|hm
    ·exact .inl rfl
    ·have:=dr hm;exact .inr ⟨this,h2 m this⟩
  ·rintro(rfl|⟨hm,_⟩)
   ·simp
   ·rw[<-cC (mh ae n.ar) ae] at hm;rcases bm.1 hm with hm|hm
    ·exact ft _ hm
    ·exact iC _ (bt _ hm)
def lL{ae:List Node}(h:oU ae)(n:Node):oU (eT ae n):=by
 have hl:=uO h n.ar;rcases th h n.ar with ⟨_,o,h2,h3,h4⟩|⟨_,h2⟩
 ·rw[tL h h2 h4];obtain⟨s1,s2⟩:=yf (n:=n) h2;have hp:=h;unfold oU at hp ⊢;rw[s1,fu] at hp;obtain⟨p1,p2,p3⟩:=hp;obtain⟨p4,p5⟩:=df.1 p2;rw[s2,fu];refine⟨p1,df.2 ⟨fun m hm=>by have:=p4 m hm; omega,p5⟩,fun a ha c hc=>?_⟩
  rcases bI.1 hc with rfl|hc
  ·exact vM hl a ha
  ·exact p3 a ha c (bt _ hc)
 ·rw[yk h h2];have hp:=h;unfold oU at hp ⊢;rw[<-cC (mh ae n.ar) ae,fu] at hp;obtain⟨p1,p2,p3⟩:=hp;rw[qG] at h2;rw[fu];refine⟨p1,df.2 ⟨fun m hm=>?_,p2⟩,fun a ha c hc=>?_⟩
  ·have k1:=FF hl m hm;have k2:=h2 m (dr hm);omega
  ·rcases bI.1 hc with rfl|hc
   ·exact vM hl a ha
   ·exact p3 a ha c hc
def gm{ae:List Node}(h:oU ae)(n:Node)(i:Int):find (eT ae n) i=if i=n.ar then some n else find ae i:=by
 split
 ·rename_i he;exact(ic (lL h n)).2 ⟨(vB h).2 (.inl rfl),he.symm⟩
 ·rename_i hne;cases hf:find ae i with
  |none =>
   rw[qG] at hf ⊢;intro m hm;rcases(vB h).1 hm with rfl|⟨hm,_⟩
   ·exact fun he=>hne he.symm
   ·exact hf m hm
  |some m =>
   obtain⟨h1,h2⟩:=cD hf;exact(ic (lL h n)).2 ⟨(vB h).2 (.inr ⟨h1,aH⟩),h2⟩
def rM{ae:List Node}(h:oU ae)(i:Int):oU (fP ae i):=jQ _ h
def mj{ae:List Node}(h:oU ae)(k i:Int):find (fP ae k) i=if i=k then none else find ae i:=by
 split
 ·rename_i he;rw[qG];intro m hm;have:=(ei.1 hm).2;simp at this;omega
 ·rename_i hne;cases hf:find ae i with
  |none =>
   rw[qG] at hf ⊢;exact fun m hm=>hf m (ei.1 hm).1
  |some m =>
   obtain⟨h1,h2⟩:=cD hf;exact(ic (rM h k)).2 ⟨ei.2 ⟨h1,gh⟩,h2⟩
def SQ{l:List gI}(h:re l){e:gI}(hf:gq l e.name=none):re (yZ l e):=by
 rw[vz h hf];have hl:=sj h e.name;have hp:=h;unfold re at hp ⊢;rw[<-cC (mr l e.name) l,fu] at hp;obtain⟨p1,p2,p3⟩:=hp;rw[fu];refine⟨p1,df.2 ⟨fun m hm=>?_,p2⟩,fun a ha c hc=>?_⟩
 ·have k1:=Dw hl m hm;have k2:¬m.name=e.name:=by simpa using fx.1 hf m (dr hm)
  rcases xG m.name e.name with h4|h4|h4
  ·rw[k1] at h4; cases h4
  ·exact absurd h4 k2
  ·exact h4
 ·rcases bI.1 hc with rfl|hc
  ·exact BJ hl a ha
  ·exact p3 a ha c hc
def AQ{l:List gI}(h:re l)(s:Bytes):re (j8 l s):=jQ _ h
def rS.with{t:Tree}(h:rS t){n:Node}(hn:re n.bc)(next ak:Int):rS ⟨eT t.ae n,next,ak⟩ :=
 ⟨lL h.mo n,fun m hm=>by
  rcases(vB h.mo).1 hm with rfl|⟨hm,_⟩
  ·exact hn
  ·exact h.bc m hm⟩
def rS.uU{t:Tree}(h:rS t)(i next ak:Int):rS ⟨fP t.ae i,next,ak⟩ :=
 ⟨rM h.mo i,fun m hm=>h.bc m (ei.1 hm).1⟩
def rS.node{t:Tree}(h:rS t)(i:Int):re (bl t.ae i).bc:=by
 cases hf:find t.ae i with
 |none=>simp[bl,hf,Node.zero]; exact List.Pairwise.nil
 |some n=>simp[bl,hf]; exact h.bc n (cD hf).1
def rS.left{t:Tree}(h:rS t)(i:Int)(s:Bytes)(next ak:Int):rS ⟨dx t.ae i s,next,ak⟩ :=
 h.with (n:={ bl t.ae i with bc:=j8 (bl t.ae i).bc s }) (AQ (h.node i) s) next ak
def rS.nH{t:Tree}(h:rS t)(i:Int)(s:Bytes)(of:Int)(hf:gq (bl t.ae i).bc s=none):rS (il t i s of) :=
 h.with (n:={ bl t.ae i with bc:=yZ (bl t.ae i).bc ⟨s,of,t.ak⟩ }) (SQ (h.node i) hf) t.next (nw (t.ak+1))
section
attribute [local irreducible] eX fM lu gK dX kr aq aU cr bJ
def yV{ae:List Node}{dir:Int}(h:(gV ae dir).2=0):∃d,find ae dir=some d/\d.kind=2/\gV ae dir=(d,0):=by
 unfold gV at h ⊢;split at h
 ·cases h
 ·rename_i d hd;split at h
  ·rename_i hk; exact⟨d,hd,hk,by simp[hd,hk]⟩
  ·cases h
def V8{t:Tree}{dir:Int}{s:Bytes}(h:(pc t dir s != 0)=false):∃d,find t.ae dir=some d/\d.kind=2/\fU s=true/\gq d.bc s=none/\d.bc.length<64/\sq t.ae dir<12/\t.ak<1099511627776:=by
 have h:pc t dir s=0:=by simpa using h
 unfold pc at h;split at h
 ·rename_i hc;rw[h] at hc; cases hc
 ·rename_i hc;obtain⟨d,h1,h2,h3⟩:=yV (by simpa using hc)
  rw[h3] at h;split at h
  ·cases h
  ·rename_i hk;split at h
   ·cases h
   ·rename_i hf;split at h
    ·cases h
    ·rename_i hm;simp at hk hf hm;exact⟨d,h1,h2,hk,hf,aH,aH,aH⟩
def KC(t:Tree)(ar:Int)(s:Bytes)(kind:Int):Tree×Int×Int :=
 if kind != 1&&kind != 2 then (t,0,1) else if pc t ar s != 0 then (t,0,pc t ar s) else
 if decide ((200:Int)<=t.ae.length)||decide ((1099511627776:Int)<=t.next) then (t,0,76) else
 (il ⟨eT t.ae ⟨t.next,kind,1,[],[],if kind==2 then ar else 0⟩,nw (t.next+1),t.ak⟩ ar s t.next,t.next,0)
def aqh(t:Tree)(dir:Int)(s:Bytes)(kind:Int)(hz:Sz 1000 t)(hr:rS t)(hs:s.length<=100000)(ha:pd s)(jv:∀m,m∈t.ae->m.ar<t.next) :
  aq bW 147 [bq t,aF dir,.str s,aF kind] []=some (.tuple [bq (KC t dir s kind).1,aF (KC t dir s kind).2.1,aF (KC t dir s kind).2.2],[]):=by
 obtain⟨ae,next,ak⟩:=t
 have ht:Small ⟨ae,next,ak⟩:=hz.small aH
 have hn:ae.length<=100000:=ht.ae;have hk:=fun b c M=>amw ae next ak dir s ht hr hs ha 2 (b::c :: cu [ba ae,aF next,aF ak]::M) rfl
 have last:(pc ⟨ae,next,ak⟩ dir s != 0)=false->∀u,ae≠[]/\∀b c M,aU (aq bW) 183 [ct 2,aF dir,.str s,aF next] (b::c :: cu [ba (eT ae ⟨next,kind,1,[],[],u⟩),aF (nw (next+1)),aF ak]::M) =
   some (.tuple [],b::c :: cu (aM (il ⟨eT ae ⟨next,kind,1,[],[],u⟩,nw (next+1),ak⟩ dir s next))::M):=fun hm u=>by
  obtain⟨d,d1,d2,d3,d4,d5,d6,d7⟩:=V8 hm;have dm:=cD d1;have cG:=jv d dm.1;simp only at cG;refine⟨by rintro rfl; simp[find] at d1,fun b c M=>?_⟩
  have hz1:Sz 1001 ⟨eT ae ⟨next,kind,1,[],[],u⟩,nw (next+1),ak⟩:=hz.with (n:=⟨next,kind,1,[],[],u⟩) dy dy (nw (next+1)) ak
  have hf:find (eT ae ⟨next,kind,1,[],[],u⟩) dir=some d:=by rw[gm hr.mo,aR gh]; exact d1
  exact Zd (eT ae ⟨next,kind,1,[],[],u⟩) (nw (next+1)) ak dir s next (lL hr.mo _) (hz1.small aH).ae hf (hr.bc d dm.1) aH d4 2 (b::c :: cu [ba (eT ae ⟨next,kind,1,[],[],u⟩),aF (nw (next+1)),aF ak]::M) rfl
 refine aB ?_;simp only[acs,aea,bq,aM,hk,EN,seval]
 repeat' ((first|apply bB|apply bU|apply dI)<;>intro hb<;>simp only[hb,EN,aea,hk,seval])
 all_goals try (clear hk last; simp_all only[KC,bq,aM,qv,↓reduceIte,reduceCtorEq,av]; done)
 all_goals
  have hm:(pc ⟨ae,next,ak⟩ dir s != 0)=false:=by assumption
  have h0:=(last hm 0).1
  have hp:∀u b c M,aU (aq bW) 182 [ct 2,.agg [aF next,aF kind,aF 1,gS [],gS [],aF u]] (b::c :: cu [ba ae,aF (nw (next+1)),aF ak]::M) =
    some (.tuple [],b::c :: cu [ba (eT ae ⟨next,kind,1,[],[],u⟩),aF (nw (next+1)),aF ak]::M):=fun u b c M=>LI ae (nw (next+1)) ak next kind 1 [] [] u hr.mo h0 hn 2 (b::c :: cu [ba ae,aF (nw (next+1)),aF ak]::M) rfl
  have hl:=fun u=>(last hm u).2
  simp only[aea,hp,hl,aM,EN,seval];clear hk last hp hl;simp_all only[KC,bq,aM,qv,↓reduceIte,reduceCtorEq,av]
def lnW(t:Tree)(ar to:Int)(s:Bytes):Tree×Int :=
 if !(find t.ae ar).isSome||((bl t.ae ar).kind==1&&(bl t.ae ar).eE==0) then (t,70) else if (bl t.ae ar).kind==2 then (t,72) else
 if pc t to s != 0 then (t,pc t to s) else
 (il ⟨eT t.ae { bl t.ae ar with eE:=nw ((bl t.ae ar).eE+1) },t.next,t.ak⟩ to s ar,0)
def aqj(t:Tree)(ar dir:Int)(s:Bytes)(hz:Sz 1000 t)(hr:rS t)(hs:s.length<=100000)(ha:pd s) :
  aq bW 149 [bq t,aF ar,aF dir,.str s] []=some (.tuple [bq (lnW t ar dir s).1,aF (lnW t ar dir s).2],[]):=by
 obtain⟨ae,next,ak⟩:=t
 have ht:Small ⟨ae,next,ak⟩:=hz.small aH
 have hn:ae.length<=100000:=ht.ae;have hg:=fun b c M=>Fe ae next ak ar hr.mo hn 2 (b::c :: cu [ba ae,aF next,aF ak]::M) rfl
 have hk:=fun b c M=>amw ae next ak dir s ht hr hs ha 2 (b::c :: cu [ba ae,aF next,aF ak]::M) rfl
 have last:(pc ⟨ae,next,ak⟩ dir s != 0)=false->(find ae ar).isSome=true->((bl ae ar).kind==2)=false->∀l,ae≠[]/\∀b c M,aU (aq bW) 183 [ct 2,aF dir,.str s,aF ar] (b::c :: cu [ba (eT ae { bl ae ar with eE:=l }),aF next,aF ak]::M) =
   some (.tuple [],b::c :: cu (aM (il ⟨eT ae { bl ae ar with eE:=l },next,ak⟩ dir s ar))::M):=fun hm hi hkd l=>by
  obtain⟨d,d1,d2,d3,d4,d5,d6,d7⟩:=V8 hm;have dm:=cD d1;refine⟨by rintro rfl; simp[find] at d1,fun b c M=>?_⟩
  have hfd:=hz.find ar;have hz1:Sz 1001 ⟨eT ae { bl ae ar with eE:=l },next,ak⟩:=hz.with (n:={ bl ae ar with eE:=l }) (iW hfd.1) hfd.2 next ak
  obtain⟨n,hfn⟩:=fA.1 hi;have hnn:bl ae ar=n:=by simp[bl,hfn]
  have hne:¬dir=(bl ae ar).ar:=fun he=>by
   rw[hnn] at he hkd;have h1:=(cD hfn).2;rw[he,h1,hfn] at d1;injection d1 with d1
   subst d1;simp[d2] at hkd
  have hf:find (eT ae { bl ae ar with eE:=l }) dir=some d:=by rw[gm hr.mo,aR hne]; exact d1
  exact Zd (eT ae { bl ae ar with eE:=l }) next ak dir s ar (lL hr.mo _) (hz1.small aH).ae hf (hr.bc d dm.1) aH d4 2 (b::c :: cu [ba (eT ae { bl ae ar with eE:=l }),aF next,aF ak]::M) rfl
 refine aB ?_;simp only[acu,aeb,bq,aM,hg,bK,aL,EN,seval]
 repeat' ((first|apply bB|apply bU|apply dI)<;>intro hb<;>simp only[hb,EN,aeb,hk,seval])
 all_goals try (clear hk hg last; simp_all only[lnW,bq,aM,qv,↓reduceIte,reduceCtorEq,av]; done)
 all_goals
  have hm:(pc ⟨ae,next,ak⟩ dir s != 0)=false:=by assumption
  have h2:((bl ae ar).kind==2)=false:=by assumption
  have h3:(!(find ae ar).isSome)=false:=by assumption
  have h3:(find ae ar).isSome=true:=by simpa using h3
  have h0:=(last hm h3 h2 0).1;have hp:=fun a b c d e u x y M=>LI ae next ak a b c d e u hr.mo h0 hn 2 (x::y :: cu [ba ae,aF next,aF ak]::M) rfl
  have hl:=fun l=>(last hm h3 h2 l).2
  simp only[aeb,hp,hl,aM,EN,seval];clear hk hg last hp hl;simp_all only[lnW,bq,aM,qv,↓reduceIte,reduceCtorEq,av]
def look_ok{ae:List Node}{dir:Int}{s:Bytes}(h:((fg ae dir s).2 != 0)=false):∃d e,find ae dir=some d/\d.kind=2/\fU s=true/\gq d.bc s=some e/\fg ae dir s=(e.ar,0):=by
 have h:(fg ae dir s).2=0:=by simpa using h
 have h':=h;unfold fg at h;split at h
 ·rename_i hc; exact absurd h hc
 ·rename_i hc;obtain⟨d,h1,h2,h3⟩:=yV (by simpa using hc)
  rw[h3] at h;split at h
  ·cases h
  ·rename_i hk;split at h
   ·cases h
   ·rename_i e he;have hk:fU s=true:=by simpa using hk
    refine⟨d,e,h1,h2,hk,he,?_⟩;unfold fg;rw[h3];simp[hk,he]
def unW(t:Tree)(dir:Int)(s:Bytes):Tree×Int×Int :=
 if (fg t.ae dir s).2 != 0 then (t,0,(fg t.ae dir s).2) else if decide ((0:Int)<(bl t.ae (fg t.ae dir s).1).bc.length) then (t,0,74) else
 (⟨kK (dx t.ae dir s) (bl t.ae (fg t.ae dir s).1),t.next,t.ak⟩,(fg t.ae dir s).1,0)
def Jt{ae:List Node}(h:oU ae){dir:Int}{s:Bytes}{d:Node}(hf:find ae dir=some d):dx ae dir s≠[]:=by
 intro hc
 have:({ d with bc:=j8 d.bc s }:Node)∈dx ae dir s:=by
  unfold dx;rw[hf];exact(vB h).2 (.inl rfl)
 rw[hc] at this;cases this
def aqk(t:Tree)(dir:Int)(s:Bytes)(hz:Sz 1000 t)(hr:rS t)(hs:s.length<=100000)(ha:pd s) :
  aq bW 150 [bq t,aF dir,.str s] []=some (.tuple [bq (unW t dir s).1,aF (unW t dir s).2.1,aF (unW t dir s).2.2],[]):=by
 obtain⟨ae,next,ak⟩:=t
 have ht:Small ⟨ae,next,ak⟩:=hz.small aH
 have hn:ae.length<=100000:=ht.ae;have hg:=fun b c M=>Fe ae next ak (fg ae dir s).1 hr.mo hn 2 (b::c :: cu [ba ae,aF next,aF ak]::M) rfl
 have hl:=fun M=>Zc ae next ak dir s ht hr hs ha M
 refine aB ?_;simp only[acv,QS,bq,aM,hl,EN,seval];refine bB (fun hb=>?_) (fun hb=>?_)
 ·simp only[QS,hb,EN,seval];clear hg hl;simp_all only[unW,bq,aM,qv,↓reduceIte,reduceCtorEq,av]
 obtain⟨d,e,d1,d2,d3,d4,d5⟩:=look_ok hb;have dm:=cD d1;have hde:d.bc.length<=1000:=hz.bc d dm.1;have hsz:Sz 1001 ⟨dx ae dir s,next,ak⟩:=hz.left dir s next ak
 have hv:=fun x y M=>afG ae next ak dir s hr.mo hn d1 (hr.bc d dm.1) aH 2 (x::y :: cu [ba ae,aF next,aF ak]::M) rfl
 have hu:=fun a b c d' e' u x y M=>amz (dx ae dir s) next ak a b c d' e' u (hr.left dir s next ak).mo (Jt hr.mo d1) (hsz.small aH).ae 2 (x::y :: cu [ba (dx ae dir s),aF next,aF ak]::M) rfl
 simp only[QS,hb,hg,bK,aL,EN,seval];refine bB (fun hb1=>?_) (fun hb1=>?_)
 ·simp only[QS,hb1,EN,seval];clear hg hl hv hu;simp_all only[unW,bq,aM,qv,↓reduceIte,reduceCtorEq,av]
 ·simp only[QS,hb1,hv,hu,EN,seval];clear hg hl hv hu d5;simp_all only[unW,bq,aM,qv,↓reduceIte,reduceCtorEq,av]
def LB(x:Int):List Int->Nat->Int
 | [],_ => -1
 |n::r,i=>if x==n then i else LB x r (i+1)
def Nh(x:Int):∀(l:List Int)(i:Nat),decide ((0:Int)<=LB x l i)=l.contains x
 | [],i=>by simp[LB]
 |n::r,i=>by
  unfold LB
  by_cases h:x=n
  ·simp[h]
  ·simp only[eG,h,aD,Nh x r (i+1),List.contains_cons];simp[h]
def aav{l0:List Int}{x:Int}(hl:l0.length<=100000){k:List K}{R:Int->Option (ag×aC)}
  (hx:∀e,kr (aq bW) [.tmp 4] 0 k ⟨.exit 0,e,[]⟩=R (-1)) (hr:∀(i:Nat),kr (aq bW) [.tmp 4] 0 k ⟨.ret,[(4,aF i)],[]⟩=R i) :
  ∀(l pre:List Int),l0=pre++l->eX (aq bW) [.tmp 4] 0 k (.loop [0,1,7,8] Z6) [(0,gS (l0.map mU)),(1,aF x),(7,aF l0.length),(8,aF pre.length)] []=R (LB x l pre.length):=by
 intro l;induction l with
 |nil =>
  intro pre h;rw[bG];simp only[Kv,jL h,EN,seval];exact hx _
 |cons n r ih =>
  intro pre h;rw[bG];have dJ:pre.length+1<=100000:=by rw[h] at hl; simp at hl; omega
  have hw:=zp pre n;have hi:=ih (pre++[n]) (by rw[h]; simp)
  simp only[aA,aw,az,aG] at hi;rw[LB];simp only[Kv,iK h,gP h,EN,seval];refine bB (fun hb=>?_) (fun hb=>?_)
  ·simp only[Kv,hb,EN,seval];exact hr _
  ·simp only[Kv,hb,hw,af,EN,seval];exact hi
def arC(l:List Int)(x:Int)(hl:l.length<=100000):aq bW 252 [gS (l.map mU),aF x] []=some (aF (LB x l 0),[]):=by
 refine aB ?_;simp only[adp,Kv,EN,seval];exact aav (R:=fun z=>some (aF z,[])) hl (fun e=>by simp only[Kv,EN,seval]) (fun i=>by simp only[Kv,EN,seval]) l [] rfl
def as2 l x hl:=cP (arC l x hl)
def aq0(l:List Int)(x:Int)(hl:l.length<=100000):aq bW 201 [gS (l.map mU),aF x] []=some (.bool (l.contains x),[]):=by
 refine aB ?_;simp only[acV,aoN,as2,hl,Nh,EN,seval]
def amA l x hl:=cP (aq0 l x hl)
def uY(ae:List Node)(at' own ar:Int)(n:Node):Bool :=
 n.kind==2&&((uD ae n.ar).contains ar&&(decide ((12:Int)<nw (nw (nw (at'+(uD ae n.ar).length)-1)-own))||(nw (nw (nw (at'+(uD ae n.ar).length)-1)-own)==12&&decide ((0:Int)<n.bc.length))))
abbrev sZ(ae:List Node)(next ak at' own ar:Int):aC:=[.cells [.ptr 4 0],.cells [.int .i64 at'],.cells [.int .i64 own],.cells [.int .i64 ar],.cells [ba ae,.int .i64 next,.int .i64 ak]]
def arE(ae:List Node)(next ak at' own ar:Int)(n:Node)(h:oU ae)(hn:ae.length<=99999) :
  aq bW 254 [bK n,ct 0,ct 1,ct 2,ct 3] (sZ ae next ak at' own ar)=some (.bool (uY ae at' own ar n),sZ ae next ak at' own ar):=by
 refine aB ?_;have hk:=fun a b c d M=>afI ae next ak n.ar h aH 4 (a::b::c::d :: cu [ba ae,aF next,aF ak]::M) rfl
 have hl:=uw ae n.ar;have hc:=fun M=>amA (uD ae n.ar) ar aH M
 simp only[adr,aiD,sZ,bK,aL,EN,seval]
 repeat' ((first|apply bB|apply bU|apply dI)<;>intro hb<;>simp only[hb,EN,aiD,hk,hc,seval])
 all_goals (clear hk hc; simp_all only[uY,nw,bne,ij,Bool.not_eq_false',qv,↓reduceIte,reduceCtorEq,av]; done)
end
def adS(ae:List Node)(next ak at' own ar:Int):j4 (sZ ae next ak at' own ar) (iv [0,1,2,3,4]) [0,1,2,3,4]=some (sZ ae next ak at' own ar):=rfl
def anI(ae:List Node)(next ak at' own ar:Int):j4 [cu [ba ae,aF next,aF ak],cu [ct 0],cu [aF ar],cu [aF at'],cu [aF own]] (iv [1,3,4,2,0]) [1,3,4,2,0]=some (sZ ae next ak at' own ar):=rfl
section
attribute [local irreducible] eX fM lu gK dX kr aq aU cr bJ
def as4(ae:List Node)(next ak at' own ar:Int)(n:Node)(h:oU ae)(hn:ae.length<=99999) :
  aU (aq bW) 254 [.agg (aL n),ct 0,ct 1,ct 2,ct 3] (sZ ae next ak at' own ar)=some (.bool (uY ae at' own ar n),sZ ae next ak at' own ar) :=
 lk (ids:=[0,1,2,3,4]) rfl rfl (adS ..) rfl rfl (arE ae next ak at' own ar n h hn) rfl rfl rfl rfl rfl
def arT(ae:List Node)(next ak at' own ar:Int)(h:oU ae)(hn:ae.length<=99999):aq bW 287 [ba ae,.func 254 [ct 0,ct 1,ct 2,ct 3]] (sZ ae next ak at' own ar) =
  some (aF (qA (uY ae at' own ar) ae 0),sZ ae next ak at' own ar) :=
 DJ (N:=100000) (sz:=6) (e:=aL) fz rfl aH (fun _=>rfl) (fun _=>rfl) rfl rfl fun x _ => .inl ⟨_,_,rfl,as4 ae next ak at' own ar x h hn⟩
def atd(ae:List Node)(next ak at' own ar:Int)(h:oU ae)(hn:ae.length<=99999):aU (aq bW) 287 [ba ae,.func 254 [ct 0,ct 1,ct 2,ct 3]] (sZ ae next ak at' own ar) =
  some (aF (qA (uY ae at' own ar) ae 0),sZ ae next ak at' own ar) :=
 lk (ids:=[0,1,2,3,4]) rfl rfl (adS ..) rfl rfl (arT ae next ak at' own ar h hn) rfl rfl rfl rfl rfl
def arD(ae:List Node)(next ak at' own ar:Int)(h:oU ae)(hn:ae.length<=99999):aq bW 253 [ba ae,.func 254 [ct 0,ct 1,ct 2,ct 3]] (sZ ae next ak at' own ar) =
  some (.bool (ae.any (uY ae at' own ar)),sZ ae next ak at' own ar):=by
 refine aB ?_;have hk:=atd ae next ak at' own ar h hn
 simp only[sZ] at hk;simp only[adq,ao5,sZ,hk,xd,EN,seval]
def as3(ae:List Node)(next ak at' own ar:Int)(h:oU ae)(hn:ae.length<=99999) :
  aU (aq bW) 253 [ba ae,.func 254 [ct 1,ct 3,ct 4,ct 2]] [cu [ba ae,aF next,aF ak],cu [ct 0],cu [aF ar],cu [aF at'],cu [aF own]] =
  some (.bool (ae.any (uY ae at' own ar)),[cu [ba ae,aF next,aF ak],cu [ct 0],cu [aF ar],cu [aF at'],cu [aF own]]) :=
 lk (ids:=[1,3,4,2,0]) rfl rfl (anI ..) rfl rfl (arD ae next ak at' own ar h hn) rfl rfl rfl rfl rfl
def IB(ae:List Node)(ar at':Int):Bool:=ae.any (uY ae at' (sq ae ar) ar)
def aq2(ae:List Node)(next ak ar at':Int)(h:oU ae)(hn:ae.length<=99999):aq bW 203 [ct 0,aF ar,aF at'] [cu [ba ae,aF next,aF ak]] =
  some (.bool (IB ae ar at'),[cu [ba ae,aF next,aF ak]]):=by
 refine aB ?_;have hk:∀M,aU (aq bW) 239 [ct 0,aF ar] (cu [ba ae,aF next,aF ak]::M)=some (aF (sq ae ar),cu [ba ae,aF next,aF ak]::M):=fun M=>amJ ae next ak ar h aH 0 (cu [ba ae,aF next,aF ak]::M) rfl
 have hd:=as3 ae next ak at' (sq ae ar) ar h hn
 unfold IB;simp only[acX,aoO,hk,hd,EN,seval]
def asN ae next ak ar at' h hn p M hM:=cM (p:=p) (M:=M) hM (aq2 ae next ak ar at' h hn)
def B6(l:List gI)(s:Bytes):gq (j8 l s) s=none:=by
 unfold gq j8;rw[fx];intro e he;have:=(ei.1 he).2;simpa using this
def vv{l:List gI}{s r:Bytes}(h:gq l r=none):gq (j8 l s) r=none:=by
 unfold gq j8 at *;rw[fx] at *;exact fun e he=>h e (ei.1 he).1
def kP{ae:List Node}(h:oU ae){dir:Int}{s:Bytes}{d:Node}(hf:find ae dir=some d)(i:Int):find (dx ae dir s) i=if i=dir then some { d with bc:=j8 d.bc s } else find ae i:=by
 have hd:=(cD hf).2;unfold dx;rw[hf];simp only[bA];rw[gm h,show({ d with bc:=j8 d.bc s }:Node).ar=dir from hd]
def HN{ae:List Node}(h:oU ae)(n:Node):oU (kK ae n):=by
 unfold kK;split
 ·exact rM h _
 ·exact lL h _
def E8{ae:List Node}(h:oU ae)(n:Node){i:Int}(hi:i≠n.ar):find (kK ae n) i=find ae i:=by
 unfold kK;split
 ·rw[mj h,aR hi]
 ·rw[gm h,aR hi]
def Sz.kK{b:Nat}{t:Tree}(h:Sz b t){n:Node}(h1:n.bc.length<=b+1)(h2:n.data.length<=100000)(next ak:Int):Sz (b+1) ⟨kK t.ae n,next,ak⟩:=by
 unfold Go.Proofs.YteoamaffclmdbaaGreatDoor.kK;split
 ·exact(h.uU _ next ak).up aH
 ·exact h.with (n:={ n with eE:=nw (n.eE-1) }) h1 h2 next ak
def yB(t:Tree)(dir:Int)(s:Bytes)(to:Int)(nm:Bytes)(ar:Int)(x y:Node)(there:Bool):Tree :=
 il ⟨if x.kind==2 then eT (if there then kK (dx (dx t.ae dir s) to nm) y else dx t.ae dir s) { x with up:=to }
  else if there then kK (dx (dx t.ae dir s) to nm) y else dx t.ae dir s,t.next,t.ak⟩ to nm ar
set_option maxHeartbeats 1000000 in
def ahZ(ae:List Node)(next ak dir:Int)(s:Bytes)(to:Int)(nm:Bytes)(ar:Int)(x y:Node)(there:Bool)(v5 v140:ag)(B0 Bd:cI)(yr:List ag)(hyr:there=true->aF y.ar::yr=aL y)(hz:Sz 1000 ⟨ae,next,ak⟩)(hr:rS ⟨ae,next,ak⟩){dd dt:Node}(hdir:find ae dir=some dd)(hto:find ae to=some dt)
  (hth:there=false->gq dt.bc nm=none) (hx:(x.kind==2)=true->x.ar≠to) (hy:there=true->y.ar≠to) (hx1:x.bc.length<=1000) (hx2:x.data.length<=100000) (hy1:y.bc.length<=1000) (hy2:y.data.length<=100000) :
  eX (aq bW) [.dE 10 3,.tmp 11,.tmp 12] 0 [] NP [(1,aF dir),(2,.str s),(3,aF to),(4,.str nm),(5,v5),(10,ct 1),(13,aF ar),(15,ct 2),(17,ct 4),(19,ct 5),(21,.bool there),(140,v140)]
   [B0,.cells zT,cu [ba ae,aF next,aF ak],Bd,cu (aL x),cu (aF y.ar::yr)]=some (.tuple [bq (yB ⟨ae,next,ak⟩ dir s to nm ar x y there),aF y.ar,aF 0],[]):=by
 have hasc:oU ae:=hr.mo;have n1:=hz.left dir s next ak
 have a1:oU (dx ae dir s):=(hr.left dir s next ak).mo
 have e1:re dd.bc:=hr.bc dd (cD hdir).1;have e2:re dt.bc:=hr.bc dt (cD hto).1;have l1:dd.bc.length<=1000:=hz.bc dd (cD hdir).1;have l2:dt.bc.length<=1000:=hz.bc dt (cD hto).1
 obtain⟨d1,f1,g1,m1,q1⟩:∃d1,find (dx ae dir s) to=some d1/\re d1.bc/\d1.bc.length<=1000/\(gq dt.bc nm=none->gq d1.bc nm=none):=by
  rw[kP hasc hdir];split
  ·rename_i he;subst he;rw[hdir] at hto; cases hto;exact⟨_,rfl,AQ e1 s,aY (AR _ _) l1,vv⟩
  ·exact⟨dt,hto,e2,l2,id⟩
 have hv1:=fun a b M=>afG ae next ak dir s hasc (hz.small aH).ae hdir e1 aH 2 (a::b :: cu [ba ae,aF next,aF ak]::M) rfl
 have fin:∀(n3:List Node)(d3:Node),oU n3->Sz 1003 ⟨n3,next,ak⟩->find n3 to=some d3->re d3.bc->d3.bc.length<=1000->gq d3.bc nm=none ->
   (∀a b M,aU (aq bW) 183 [ct 2,aF to,.str nm,aF ar] (a::b :: cu [ba n3,aF next,aF ak]::M)=some (.tuple [],a::b :: cu (aM (il ⟨n3,next,ak⟩ to nm ar))::M)) /\
   ((x.kind==2)=true->(∀a b M,aU (aq bW) 182 [ct 2,.agg [aF x.ar,aF x.kind,aF x.eE,cR x.data,ja x.bc,aF to]] (a::b :: cu [ba n3,aF next,aF ak]::M) =
     some (.tuple [],a::b :: cu [ba (eT n3 { x with up:=to }),aF next,aF ak]::M)) /\
    ∀a b M,aU (aq bW) 183 [ct 2,aF to,.str nm,aF ar] (a::b :: cu [ba (eT n3 { x with up:=to }),aF next,aF ak]::M)=some (.tuple [],a::b :: cu (aM (il ⟨eT n3 { x with up:=to },next,ak⟩ to nm ar))::M)):=by
  intro n3 d3 b1 b2 b3 b4 b5 b6;have h0:n3≠[]:=by rintro rfl; simp[find] at b3
  refine⟨fun a b M=>Zd n3 next ak to nm ar b1 (b2.small aH).ae b3 b4 aH b6 2 (a::b :: cu [ba n3,aF next,aF ak]::M) rfl,fun hk=>⟨fun a b M=>LI n3 next ak x.ar x.kind x.eE x.data x.bc to b1 h0 (b2.small aH).ae 2 (a::b :: cu [ba n3,aF next,aF ak]::M) rfl,fun a b M=>?_⟩⟩
  have b7:Sz 1004 ⟨eT n3 { x with up:=to },next,ak⟩:=b2.with (n:={ x with up:=to }) (aY hx1 aH) hx2 next ak
  have b8:find (eT n3 { x with up:=to }) to=some d3:=by rw[gm b1,aR (fun he=>hx hk he.symm)]; exact b3
  exact Zd (eT n3 { x with up:=to }) next ak to nm ar (lL b1 _) (b7.small aH).ae b8 b4 aH b6 2 (a::b :: cu [ba (eT n3 { x with up:=to }),aF next,aF ak]::M) rfl
 cases hth':there with
 |false =>
  obtain⟨w1,w2⟩:=fin (dx ae dir s) d1 a1 (n1.up aH) f1 g1 m1 (q1 (hth hth'));cases hkx:(x.kind==2) with
  |false =>
   simp only[yJ,hv1,zT,aL,hkx,w1,aM,EN,seval];simp only[yB,hkx,bq,aM,qv,↓reduceIte,reduceCtorEq,av]
  |true =>
   obtain⟨w3,w4⟩:=w2 hkx;simp only[yJ,hv1,zT,aL,hkx,w3,w4,aM,EN,seval];simp only[yB,hkx,bq,aM,qv,↓reduceIte,reduceCtorEq,av]
 |true =>
  have hyr':yr=[aF y.kind,aF y.eE,cR y.data,ja y.bc,aF y.up]:=by have:=hyr hth'; simpa[aL] using this
  subst hyr';have a2:oU (dx (dx ae dir s) to nm):=(rS.left (t:=⟨dx ae dir s,next,ak⟩) (hr.left dir s next ak) to nm next ak).mo
  have n2:=n1.left to nm next ak
  have f2:find (dx (dx ae dir s) to nm) to=some { d1 with bc:=j8 d1.bc nm }:=by rw[kP a1 f1,aZ rfl]
  have hv2:=fun a b M=>afG (dx ae dir s) next ak to nm a1 (n1.small aH).ae f1 g1 aH 2 (a::b :: cu [ba (dx ae dir s),aF next,aF ak]::M) rfl
  have hu:=fun a b M=>amz (dx (dx ae dir s) to nm) next ak y.ar y.kind y.eE y.data y.bc y.up a2 (Jt a1 f1) (n2.small aH).ae 2 (a::b :: cu [ba (dx (dx ae dir s) to nm),aF next,aF ak]::M) rfl
  have f3:find (kK (dx (dx ae dir s) to nm) y) to=some { d1 with bc:=j8 d1.bc nm }:=by rw[E8 a2 y (fun he=>hy hth' he.symm)]; exact f2
  obtain⟨w1,w2⟩:=fin (kK (dx (dx ae dir s) to nm) y) { d1 with bc:=j8 d1.bc nm } (HN a2 y) (n2.kK (aY hy1 aH) hy2 next ak) f3 (AQ g1 nm) (aY (AR _ _) m1) (B6 _ _)
  cases hkx:(x.kind==2) with
  |false =>
   simp only[yJ,hv1,hv2,hu,zT,aL,hkx,w1,aM,EN,seval];simp only[yB,hkx,bq,aM,qv,↓reduceIte,reduceCtorEq,av]
  |true =>
   obtain⟨w3,w4⟩:=w2 hkx;simp only[yJ,hv1,hv2,hu,zT,aL,hkx,w3,w4,aM,EN,seval];simp only[yB,hkx,bq,aM,qv,↓reduceIte,reduceCtorEq,av]
def mu(ae:List Node)(l:List gI)(s:Bytes):Node:=match gq l s with
 |none=>Node.zero
 |some e=>bl ae e.ar
def D7(t:Tree)(dir to:Int)(bc:List gI)(there:Bool)(kind ar:Int):Bool :=
 ((!there&&to != dir)&&decide ((64:Int)<=bc.length))||(decide ((12:Int)<(uD t.ae to).length)||((kind==2&&IB t.ae ar (uD t.ae to).length)||decide ((1099511627776:Int)<=t.ak)))
def ND(t:Tree)(dir:Int)(s:Bytes)(to:Int)(nm:Bytes):Tree×Int×Int :=
 if (fg t.ae dir s).2 != 0 then (t,0,(fg t.ae dir s).2) else
 if (gV t.ae to).2 != 0 then (t,0,(gV t.ae to).2) else
 if !fU nm then (t,0,60) else
 if (mu t.ae (gV t.ae to).1.bc nm).ar==(fg t.ae dir s).1 then (t,0,0) else
 if (bl t.ae (fg t.ae dir s).1).kind==2&&(uD t.ae to).contains (fg t.ae dir s).1 then (t,0,75) else
 if (gq (gV t.ae to).1.bc nm).isSome&&Ac (bl t.ae (fg t.ae dir s).1) (mu t.ae (gV t.ae to).1.bc nm) != 0 then (t,0,Ac (bl t.ae (fg t.ae dir s).1) (mu t.ae (gV t.ae to).1.bc nm)) else
 if D7 t dir to (gV t.ae to).1.bc (gq (gV t.ae to).1.bc nm).isSome (bl t.ae (fg t.ae dir s).1).kind (fg t.ae dir s).1 then (t,0,76) else
 (yB t dir s to nm (fg t.ae dir s).1 (bl t.ae (fg t.ae dir s).1) (mu t.ae (gV t.ae to).1.bc nm) (gq (gV t.ae to).1.bc nm).isSome,(mu t.ae (gV t.ae to).1.bc nm).ar,0)
def amB(a b c:Int)(d:Bytes)(e:List gI)(u:Int)(a' b' c':Int)(d':Bytes)(e':List gI)(u':Int)(M:aC):aU (aq bW) 202 [.agg [aF a,aF b,aF c,cR d,ja e,aF u],.agg [aF a',aF b',aF c',cR d',ja e',aF u']] M=some (aF (Ac ⟨a,b,c,d,e,u⟩ ⟨a',b',c',d',e',u'⟩),M) :=
 cO (aq1 ⟨a,b,c,d,e,u⟩ ⟨a',b',c',d',e',u'⟩) M
def XI(ae:List Node)(to:Int):(uD ae to).contains to=true:=by
 have key:∀(m:Nat)(ar:Int)(out:List Int),out.contains to=true->(uv ae m ar out).contains to=true:=by
  intro m;induction m with
  |zero=>intro ar out h; exact h
  |succ m ih =>
   intro ar out h;rw[uv];split
   ·split
    ·exact h
    ·exact ih _ _ (by simp at h ⊢; exact .inl h)
   ·exact h
 exact key _ _ _ dy
def Wf{ae:List Node}{i:Int}(h:(bl ae i).kind=2):(bl ae i).ar=i:=by
 cases hf:find ae i with
 |none=>simp[bl,hf,Node.zero] at h
 |some n=>simp[bl,hf]; exact(cD hf).2
set_option maxHeartbeats 4000000 in
def aqm(t:Tree)(dir:Int)(s:Bytes)(to:Int)(nm:Bytes)(hz:Sz 1000 t)(hr:rS t)(hs:s.length<=100000)(ha:pd s)(hs':nm.length<=100000)(ha':pd nm)
  (XR:∀e,gq (gV t.ae to).1.bc nm=some e->(bl t.ae e.ar).ar≠to) :
  aq bW 152 [bq t,aF dir,.str s,aF to,.str nm] []=some (.tuple [bq (ND t dir s to nm).1,aF (ND t dir s to nm).2.1,aF (ND t dir s to nm).2.2],[]):=by
 obtain⟨Q,hQ⟩:∃Q,NP=Q:=⟨_,rfl⟩;obtain⟨ae,next,ak⟩:=t
 have ht:Small ⟨ae,next,ak⟩:=hz.small aH
 have hn:ae.length<=100000:=ht.ae;have hasc:oU ae:=hr.mo;have hl:=fun M=>Zc ae next ak dir s ht hr hs ha M
 have hg:=fun i b c M=>Fe ae next ak i hasc hn 2 (b::c :: cu [ba ae,aF next,aF ak]::M) rfl
 have hd:=fun b c M=>Ze ae next ak to hasc hn 2 (b::c :: cu [ba ae,aF next,aF ak]::M) rfl
 have hup:=fun b c M=>afI ae next ak to hasc hn 2 (b::c :: cu [ba ae,aF next,aF ak]::M) rfl
 have hul:=uw ae to;have hn1:ae.length<=1000:=hz.ae;have hc:=fun x M=>amA (uD ae to) x aH M
 have hdp:=fun i a b c M=>asN ae next ak i a hasc aH 2 (b::c :: cu [ba ae,aF next,aF ak]::M) rfl
 have hE:re (gV ae to).1.bc:=hr.dir to;have hde:(gV ae to).1.bc.length<=100000:=tC ht to;have hen:=fun a b c d u M=>S3 a b c d (gV ae to).1.bc u nm _ (sj hE nm) hde M
 refine aB ?_;simp only[acx,yJ,hQ,bq,aM,hl,EN,seval];refine bB (fun hb0=>?_) (fun hb0=>?_)
 ·simp only[yJ,hQ,hb0,EN,seval];clear hl hg hd hup hc hdp hen XR;simp_all only[ND,bq,aM,qv,↓reduceIte,reduceCtorEq,av]
 simp only[yJ,hQ,hb0,hd,bK,aL,EN,seval];refine bB (fun hb1=>?_) (fun hb1=>?_)
 ·simp only[yJ,hQ,hb1,EN,seval];clear hl hg hd hup hc hdp hen XR;simp_all only[ND,bq,aM,qv,↓reduceIte,reduceCtorEq,av]
 simp only[yJ,hQ,hb1,afH,hs',ha',EN,seval];refine bB (fun hb2=>?_) (fun hb2=>?_)
 ·simp only[yJ,hQ,hb2,EN,seval];clear hl hg hd hup hc hdp hen XR;simp_all only[ND,bq,aM,qv,↓reduceIte,reduceCtorEq,av]
 simp only[yJ,hQ,hb2,hg,hen,bK,aL,EN,seval];obtain⟨dd,de,e1,e2,e3,e4,e5⟩:=look_ok hb0;obtain⟨dt,g1,g2,g3⟩:=yV (show(gV ae to).2=0 by simpa using hb1)
 have hx0:=hz.find (fg ae dir s).1;have tail:=fun there y yr hyr hth hy hy1 hy2 v5 v140 B0 Bd hxx=>ahZ ae next ak dir s to nm (fg ae dir s).1 (bl ae (fg ae dir s).1) y there v5 v140 B0 Bd yr hyr hz hr e1 g1 hth hxx hy hx0.1 hx0.2 hy1 hy2
 have hxne:((bl ae (fg ae dir s).1).kind==2)=true->(uD ae to).contains (fg ae dir s).1=false->(bl ae (fg ae dir s).1).ar≠to:=fun h1 h2 h3=>by
  rw[Wf (by simpa using h1)] at h3
  rw[h3,XI] at h2; cases h2
 have hdte:dt.bc=(gV ae to).1.bc:=by rw[g3]
 rcases wX hE nm with ⟨h1,o,h2,h3,h4⟩|⟨h1,h2⟩
 ·have hnu:mu ae (gV ae to).1.bc nm=bl ae o.ar:=by simp[mu,h3]
  have hy0:=hz.find o.ar;have tl:=tail true (bl ae o.ar) _ (fun _=>rfl) dy (fun _=>XR o h3) hy0.1 hy0.2
  simp only[aL,zT] at tl;simp only[yJ,hQ,h1,h2,hg,bK,aL,gd,EN,seval]
  repeat' ((first|apply bB|apply bU|apply dI)<;>intro hb<;>simp only[hb,EN,yJ,hQ,hup,hc,hdp,amB,seval])
  all_goals try (clear hl hg hd hup hc hdp hen XR tail tl hxne e5 g3; simp_all only[ND,D7,bq,aM,bX,qv,↓reduceIte,reduceCtorEq,av]; done)
  all_goals
   subst hQ;refine(tl _ _ _ _ (fun hk=>by first|exact hxne hk (by assumption)|(exfalso; simp_all; done))).trans ?_
   have hmv:ND ⟨ae,next,ak⟩ dir s to nm=(yB ⟨ae,next,ak⟩ dir s to nm (fg ae dir s).1 (bl ae (fg ae dir s).1) (bl ae o.ar) true,(bl ae o.ar).ar,0):=by
    clear hl hg hd hup hc hdp hen XR tail tl hxne e5 g3;simp_all only[ND,D7,bX,qv,↓reduceIte,reduceCtorEq,av]
   rw[hmv];rfl
 ·have hnu:mu ae (gV ae to).1.bc nm=Node.zero:=by simp[mu,h2]
  have tl:=tail false Node.zero [aF 0,aF 0,.slice .c0 [],.slice .c0 [],aF 0] dy (fun _=>by rw[hdte]; exact h2) dy (by simp[Node.zero]) (by simp[Node.zero])
  have hz0:Node.zero.ar=0:=rfl;simp only[aL,zT,hz0] at tl;simp only[yJ,hQ,h1,EN,seval]
  repeat' ((first|apply bB|apply bU|apply dI)<;>intro hb<;>simp only[hb,EN,yJ,hQ,hup,hc,hdp,amB,seval])
  all_goals try (clear hl hg hd hup hc hdp hen XR tail tl hxne e5 g3; simp_all only[ND,D7,bq,aM,dg,qv,↓reduceIte,reduceCtorEq,av]; done)
  all_goals
   subst hQ;refine(tl _ _ _ _ (fun hk=>by first|exact hxne hk (by assumption)|(exfalso; simp_all; done))).trans ?_
   have hmv:ND ⟨ae,next,ak⟩ dir s to nm=(yB ⟨ae,next,ak⟩ dir s to nm (fg ae dir s).1 (bl ae (fg ae dir s).1) Node.zero false,0,0):=by
    clear hl hg hd hup hc hdp hen XR tail tl hxne e5 g3;simp_all only[ND,D7,dg,qv,↓reduceIte,reduceCtorEq,av]
   rw[hmv];rfl
end
def rn(l:List gI)(i:Int):Nat:=l.countP fun e=>e.ar==i
def uI(ns:List Node)(i:Int):Nat:=(ns.map fun n=>rn n.bc i).sum
def zI(i:Int):rn [] i=0:=rfl
def zH(a b:List gI)(i:Int):rn (a++b) i=rn a i+rn b i:=List.countP_append
def FA(e:gI)(l:List gI)(i:Int):rn (e::l) i=rn l i+(if e.ar=i then 1 else 0):=by simp[rn,lR]
def xY(a b:List Node)(i:Int):uI (a++b) i=uI a i+uI b i:=by simp[uI]
def vq(n:Node)(l:List Node)(i:Int):uI (n::l) i=rn n.bc i+uI l i:=by simp[uI]
def vr{ns:List Node}(h:oU ns)(n:Node)(i:Int):uI (eT ns n) i+rn (bl ns n.ar).bc i=uI ns i+rn n.bc i:=by
 rcases th h n.ar with ⟨_,o,h2,h3,h4⟩|⟨_,h2⟩
 ·rw[tL h h2 h4];obtain⟨s1,s2⟩:=yf (n:=n) h2
  have e1:uI ns i=uI (ns.take (mh ns n.ar)) i+(rn o.bc i+uI (ns.drop (mh ns n.ar+1)) i):=by
   rw[<-vq,<-xY,<-s1]
  rw[s2,xY,vq,e1];simp only[bl,h3,bA];omega
 ·rw[yk h h2]
  have e1:uI ns i=uI (ns.take (mh ns n.ar)) i+uI (ns.drop (mh ns n.ar)) i:=by
   rw[<-xY,cC]
  rw[xY,vq,e1];simp only[bl,h2,iH,Node.zero,zI];omega
def G5{ns:List Node}(h:oU ns)(k i:Int):uI (fP ns k) i+rn (bl ns k).bc i=uI ns i:=by
 rcases th h k with ⟨_,o,h2,h3,h4⟩|⟨_,h2⟩
 ·rw[AA h h2 h4];obtain⟨s1,_⟩:=yf (n:=o) h2
  have e1:uI ns i=uI (ns.take (mh ns k)) i+(rn o.bc i+uI (ns.drop (mh ns k+1)) i):=by
   rw[<-vq,<-xY,<-s1]
  rw[xY,e1];simp only[bl,h3,bA];omega
 ·rw[yH h2];simp only[bl,h2,iH,Node.zero,zI];omega
def Iw{l:List gI}{i:Int}:0<rn l i↔∃e,e∈l/\e.ar=i:=by simp[rn,List.countP_pos_iff]
theorem vX{i:Int}:∀ {ns:List Node},0<uI ns i↔∃n e,n∈ns/\e∈n.bc/\e.ar=i
 | []=>by simp[uI]
 |n::ns=>by
  rw[vq];constructor
  ·intro h;rcases gX (rn n.bc i) with h0|h0
   ·obtain⟨m,e,h1,h2,h3⟩:=(vX (i:=i) (ns:=ns)).1 aH;exact⟨m,e,bt _ h1,h2,h3⟩
   ·obtain⟨e,h1,h2⟩:=Iw.1 h0;exact⟨n,e,bD,h1,h2⟩
  ·rintro⟨m,e,h1,h2,h3⟩;rcases bI.1 h1 with rfl|h1
   ·have:=Iw.2 ⟨e,h2,h3⟩; omega
   ·have:=(vX (i:=i) (ns:=ns)).2 ⟨m,e,h1,h2,h3⟩; omega
def V9{l:List gI}(h:re l){e:gI}(hf:gq l e.name=none){x:gI}:x∈yZ l e↔x=e\/x∈l:=by
 rw[vz h hf];have:x∈l↔x∈l.take (mr l e.name)\/x∈l.drop (mr l e.name):=by rw[<-bm,cC]
 rw[this,bm,bI];constructor
 ·rintro(h|h|h)
  ·exact .inr (.inl h)
  ·exact .inl h
  ·exact .inr (.inr h)
 ·rintro(h|h|h)
  ·exact .inr (.inl h)
  ·exact .inl h
  ·exact .inr (.inr h)
def OZ{l:List gI}(h:re l){e:gI}(hf:gq l e.name=none)(i:Int):rn (yZ l e) i=rn l i+(if e.ar=i then 1 else 0):=by
 rw[vz h hf,zH,FA];have:rn l i=rn (l.take (mr l e.name)) i+rn (l.drop (mr l e.name)) i:=by rw[<-zH,cC]
 omega
def PO{l:List gI}{s:Bytes}{x:gI}:x∈j8 l s↔x∈l/\x.name≠s:=by simp[j8,ei]
def Mj{l:List gI}{b:Nat}{o:gI}(ho:l[b]?=some o):l=l.take b++o::l.drop (b+1):=by
 have cG:=(aj.1 ho).1;rw[ai cG] at ho; injection ho with ho
 conv=>lhs; rw[<-cC b l]
 rw[dp cG,ho]
def K3{l:List gI}(h:re l){s:Bytes}{o:gI}(hf:gq l s=some o)(i:Int):rn (j8 l s) i+(if o.ar=i then 1 else 0)=rn l i:=by
 rcases wX h s with ⟨_,o',h2,h3,h4⟩|⟨_,h2⟩
 ·rw[hf] at h3; cases h3;rw[FE h h2 h4]
  have e1:rn l i=rn (l.take (mr l s)) i+(rn (l.drop (mr l s+1)) i+(if o.ar=i then 1 else 0)):=by
   rw[<-FA,<-zH,<-Mj h2]
  rw[zH,e1];omega
 ·rw[hf] at h2; cases h2
def x9{ns:List Node}(h:oU ns){n o:Node}(hf:find ns n.ar=some o):(eT ns n).length=ns.length:=by
 rcases th h n.ar with ⟨_,o,h2,h3,h4⟩|⟨_,h2⟩
 ·rw[tL h h2 h4,cY]
 ·rw[hf] at h2; cases h2
def Nm(s:Bytes):Prop:=fU s=true
structure dS(t:Tree)(dD:Int->Nat)(x:Int):Prop where
 lK:rS t
 root:∃r,find t.ae 1=some r/\r.kind=2/\r.up=1
 num:∀i n,find t.ae i=some n->1<=i/\i<t.next
 kind:∀i n,find t.ae i=some n->n.kind=1\/n.kind=2
 file:∀i n,find t.ae i=some n->n.kind=1->n.bc=[]/\n.up=0/\n.data.length<=4096
 dir:∀i n,find t.ae i=some n->n.kind=2->n.data=[]
 CF:∀i n e,find t.ae i=some n->e∈n.bc->1<=e.ak/\e.ak<t.ak/\e.ar≠1/\Nm e.name/\∃m,find t.ae e.ar=some m/\(m.kind=2->m.up=i)
 yl:∀i n,find t.ae i=some n->(n.bc.Pairwise fun a b=>a.ak≠b.ak)/\n.bc.length<=64
 eE:∀i n,find t.ae i=some n->n.eE=(uI t.ae i:Int)+(if i=x then 1 else 0)
 one:∀i n,find t.ae i=some n->n.kind=2->i≠1->n.eE=1
 CE:dD 1=0
 qF:∀i n,find t.ae i=some n->n.kind=2->i≠1->dD i=dD n.up+1/\∃p,find t.ae n.up=some p/\p.kind=2
 deep:∀i n,find t.ae i=some n->n.kind=2->dD i<=12/\(dD i=12->n.bc=[])
 ae:t.ae.length<=200
 next:t.next<=1099511627776
 ak:1<=t.ak/\t.ak<=1099511627776
def dS.ar{t:Tree}{dD:Int->Nat}{x:Int}(_:dS t dD x){i:Int}{n:Node}(hf:find t.ae i=some n):n.ar=i:=(cD hf).2
theorem dS.gz{t t':Tree}{dD:Int->Nat}{x x' d:Int}{n n':Node}(h:dS t dD x)(hs:rS t')(hd:find t.ae d=some n)
  (hf:∀i,find t'.ae i=if i=d then some n' else find t.ae i) (hk:n'.kind=n.kind) (hu:n'.up=n.up)
  (hfile:n.kind=1->n'.bc=[]/\n'.data.length<=4096) (hdir:n.kind=2->n'.data=[])
  (hent:∀e,e∈n'.bc->1<=e.ak/\e.ak<t'.ak/\e.ar≠1/\Nm e.name/\∃m,find t.ae e.ar=some m/\(m.kind=2->m.up=d))
  (hcook:(n'.bc.Pairwise fun a b=>a.ak≠b.ak)/\n'.bc.length<=64)
  (hc:∀i,1<=i->(uI t'.ae i:Int)+(if i=x' then 1 else 0)=uI t.ae i+(if i=x then 1 else 0)+(if i=d then n'.eE-n.eE else 0))
  (h1:n.kind=2->n'.eE=n.eE) (hdeep:dD d=12->n'.bc=[]) (hn:t'.ae.length<=200) (hnx:t'.next=t.next) (hck:t.ak<=t'.ak) (hck':t'.ak<=1099511627776):dS t' dD x':=by
 have rj:∀j m,find t.ae j=some m->∃m',find t'.ae j=some m'/\m'.kind=m.kind/\m'.up=m.up:=by
  grind
 have back:∀j m',find t'.ae j=some m'->(j=d/\m'=n')\/(j≠d/\find t.ae j=some m'):=by
  grind
 refine⟨hs,?_,?_,?_,?_,?_,?_,?_,?_,?_,h.CE,?_,?_,hn,by rw[hnx]; exact h.next,⟨by have:=h.ak.1; omega,hck'⟩⟩
 ·obtain⟨r,h1,h2,h3⟩:=h.root
  grind
 ·intro i m hm;rw[hnx];rcases back i m hm with ⟨rfl,rfl⟩|⟨_,hm⟩
  ·exact h.num _ _ hd
  ·exact h.num _ _ hm
 ·intro i m hm;rcases back i m hm with ⟨rfl,rfl⟩|⟨_,hm⟩
  ·rw[hk]; exact h.kind _ _ hd
  ·exact h.kind _ _ hm
 ·intro i m hm hk1;rcases back i m hm with ⟨rfl,rfl⟩|⟨_,hm⟩
  ·rw[hk] at hk1;exact⟨(hfile hk1).1,by rw[hu]; exact(h.file _ _ hd hk1).2.1,(hfile hk1).2⟩
  ·exact h.file _ _ hm hk1
 ·intro i m hm hk1;rcases back i m hm with ⟨rfl,rfl⟩|⟨_,hm⟩
  ·rw[hk] at hk1;exact hdir hk1
  ·exact h.dir _ _ hm hk1
 ·intro i m e hm he
  have key:∀m,find t.ae e.ar=some m/\(m.kind=2->m.up=i)->∃m,find t'.ae e.ar=some m/\(m.kind=2->m.up=i):=by
   grind
  rcases back i m hm with ⟨rfl,rfl⟩|⟨_,hm⟩
  ·obtain⟨a1,a2,a3,a4,k,a5⟩:=hent e he;exact⟨a1,a2,a3,a4,key k a5⟩
  ·obtain⟨a1,a2,a3,a4,k,a5⟩:=h.CF _ _ e hm he;exact⟨a1,aH,a3,a4,key k a5⟩
 ·intro i m hm;rcases back i m hm with ⟨rfl,rfl⟩|⟨_,hm⟩
  ·exact hcook
  ·exact h.yl _ _ hm
 ·intro i m hm;rcases back i m hm with ⟨rfl,rfl⟩|⟨hne,hm⟩
  ·have:=hc i (h.num _ _ hd).1;have:=h.eE _ _ hd;simp only[↓reduceIte] at *;omega
  ·have:=hc i (h.num _ _ hm).1;have:=h.eE _ _ hm;omega
 ·intro i m hm hk1 hi;rcases back i m hm with ⟨rfl,rfl⟩|⟨_,hm⟩
  ·rw[hk] at hk1;rw[h1 hk1]; exact h.one _ _ hd hk1 hi
  ·exact h.one _ _ hm hk1 hi
 ·intro i m hm hk1 hi;rcases back i m hm with ⟨rfl,rfl⟩|⟨_,hm⟩
  ·rw[hk] at hk1;obtain⟨a,p,b,c⟩:=h.qF _ _ hd hk1 hi
   grind
  ·obtain⟨a,p,b,c⟩:=h.qF _ _ hm hk1 hi;obtain⟨p',k1,k2,_⟩:=rj _ _ b;exact⟨a,p',k1,aH⟩
 ·intro i m hm hk1;rcases back i m hm with ⟨rfl,rfl⟩|⟨_,hm⟩
  ·rw[hk] at hk1;exact⟨(h.deep _ _ hd hk1).1,hdeep⟩
  ·exact h.deep _ _ hm hk1
theorem dS.left{t:Tree}{dD:Int->Nat}{d:Int}{n:Node}{s:Bytes}{e:gI}(h:dS t dD 0)(hd:find t.ae d=some n)(he:gq n.bc s=some e):dS ⟨dx t.ae d s,t.next,t.ak⟩ dD e.ar:=by
 have hE:re n.bc:=h.lK.bc n (cD hd).1;have hi:n.ar=d:=h.ar hd;have hem:=jZ he;have hw:dx t.ae d s=eT t.ae { n with bc:=j8 n.bc s }:=by grind [dx]
 have hc:∀i,uI (dx t.ae d s) i+(if e.ar=i then 1 else 0)=uI t.ae i:=by
  intro i;have h1:=vr h.lK.mo { n with bc:=j8 n.bc s } i
  have h2:=K3 hE he i;rw[hw]
  grind
 refine h.gz (h.lK.left d s t.next t.ak) hd (kP h.lK.mo hd) rfl rfl ?_ ?_ ?_ ?_ ?_ (fun _=>rfl) ?_ ?_ rfl (dL _) h.ak.2
 ·intro hk;obtain⟨h1,_,h3⟩:=h.file _ _ hd hk
  grind
 ·exact h.dir _ _ hd
 ·intro x hx;exact h.CF _ _ x hd (PO.1 hx).1
 ·exact⟨jQ _ (h.yl _ _ hd).1,aY (bT _ _) (h.yl _ _ hd).2⟩
 ·grind
 ·intro h12;have:=(h.deep _ _ hd ?_).2 h12
  ·grind
  ·rcases h.kind _ _ hd with hk|hk
   ·have:=(h.file _ _ hd hk).1;rw[this] at hem; grind
   omega
 ·rw[hw,x9 h.lK.mo (o:=n) jK];exact h.ae
theorem dS.nH{t:Tree}{dD:Int->Nat}{x d:Int}{n m:Node}{s:Bytes}(h:dS t dD x)(hd:find t.ae d=some n)(hk:n.kind=2)(he:gq n.bc s=none)(h64:n.bc.length<64)(hnm:Nm s)
  (hx:find t.ae x=some m) (hx1:x≠1) (hup:m.kind=2->m.up=d) (hdp:dD d<12) (hck:t.ak<1099511627776):dS (il t d s x) dD 0:=by
 have hE:re n.bc:=h.lK.bc n (cD hd).1;have hi:n.ar=d:=h.ar hd;have hcw:nw (t.ak+1)=t.ak+1:=gv (by have:=h.ak; omega) aH
 have hw:il t d s x=⟨eT t.ae { n with bc:=yZ n.bc ⟨s,x,t.ak⟩ },t.next,t.ak+1⟩:=by grind [il]
 have hfn:gq n.bc (gI.mk s x t.ak).name=none:=he
 have hc:∀i,uI (il t d s x).ae i=uI t.ae i+(if x=i then 1 else 0):=by
  intro i;have h1:=vr h.lK.mo { n with bc:=yZ n.bc ⟨s,x,t.ak⟩ } i
  have h2:=OZ hE hfn i;rw[hw]
  grind
 have hff:∀i,find (il t d s x).ae i=if i=d then some { n with bc:=yZ n.bc ⟨s,x,t.ak⟩ } else find t.ae i:=by
  intro i;rw[hw];have:=gm h.lK.mo { n with bc:=yZ n.bc ⟨s,x,t.ak⟩ } i
  rw[this]
  grind
 refine h.gz (h.lK.nH d s x jK) hd hff rfl rfl ?_ ?_ ?_ ?_ ?_ (fun _=>rfl) ?_ ?_ ?_ ?_ ?_
 ·omega
 ·exact h.dir _ _ hd
 ·intro e hem;rw[hw];rcases(V9 hE hfn).1 hem with rfl|hem
  ·exact⟨h.ak.1,jK,hx1,hnm,m,hx,hup⟩
  ·obtain⟨a1,a2,a3,a4,a5⟩:=h.CF _ _ e hd hem
   grind
 ·refine⟨?_,by simp only[vz hE hfn,aA,aw,cq,gZ]; omega⟩
  rw[vz hE hfn];have hp:=(h.yl _ _ hd).1;rw[<-cC (mr n.bc s) n.bc,fu] at hp;obtain⟨p1,p2,p3⟩:=hp;rw[fu];refine⟨p1,df.2 ⟨fun a ha=>?_,p2⟩,fun a ha c hc=>?_⟩
  ·have:=(h.CF _ _ a hd (dr ha)).2.1
   grind
  ·rcases bI.1 hc with rfl|hc
   ·have:=(h.CF _ _ a hd (dK ha)).2.1
    grind
   grind
 ·grind
 ·omega
 ·rw[hw];simp only;rw[x9 h.lK.mo (o:=n) jK];exact h.ae
 ·rw[hw]
 ·rw[hw]; grind
 grind
theorem dS.RZ{t:Tree}{dD:Int->Nat}{x x' d:Int}{n n':Node}(h:dS t dD x)(hd:find t.ae d=some n)(hk:n.kind=1)(hi':n'.ar=d)(hk':n'.kind=1)(hu:n'.up=n.up)(he:n'.bc=n.bc)(hda:n'.data.length<=4096)
  (hx:∀i:Int,1<=i->(if i=x' then 1 else 0:Int)=(if i=x then 1 else 0)+(if i=d then n'.eE-n.eE else 0)):dS ⟨eT t.ae n',t.next,t.ak⟩ dD x':=by
 have hE:re n'.bc:=by rw[he]; exact h.lK.bc n (cD hd).1
 have hff:∀i,find (eT t.ae n') i=if i=d then some n' else find t.ae i:=by
  intro i;rw[gm h.lK.mo n' i,hi']
 obtain⟨f1,f2,f3⟩:=h.file _ _ hd hk;refine h.gz (h.lK.with hE t.next t.ak) hd hff aH hu ?_ ?_ ?_ ?_ ?_ ?_ ?_ ?_ rfl (dL _) h.ak.2
 ·grind
 ·omega
 ·grind
 ·rw[he,f1]; simp
 ·intro i h0;have h1:=vr h.lK.mo n' i
  grind
 ·omega
 ·grind
 ·simp only;rw[x9 h.lK.mo (o:=n) jK];exact h.ae
theorem dS.named{t:Tree}{dD:Int->Nat}{x:Int}(h:dS t dD x){i:Int}{n:Node}(hi:find t.ae i=some n)(hk:n.kind=2)(h1:i≠1)(hx:i≠x):∃p e,find t.ae n.up=some p/\p.kind=2/\e∈p.bc/\e.ar=i:=by
 have a:=h.eE _ _ hi;have b:=h.one _ _ hi hk h1;obtain⟨m,e,e1,e2,e3⟩:=vX.1 (show 0<uI t.ae i by omega)
 have hm  := (ic h.lK.mo).2 ⟨e1,rfl⟩;obtain⟨_,_,_,_,k,k1,k2⟩:=h.CF _ _ e hm e2;rw[e3,hi] at k1; cases k1;obtain⟨_,p,p1,p2⟩:=h.qF _ _ hi hk h1;rw[k2 hk] at p1 ⊢
 grind
theorem dS.drop{t:Tree}{dD:Int->Nat}{x k:Int}{n:Node}(h:dS t dD x)(hx:x=k\/x=0)(hk:find t.ae k=some n)(he:n.bc=[])(h1:k≠1)(hc:uI t.ae k=0):dS ⟨fP t.ae k,t.next,t.ak⟩ dD 0:=by
 have hff:∀i m,find (fP t.ae k) i=some m↔i≠k/\find t.ae i=some m:=by
  intro i m;rw[mj h.lK.mo];split<;>simp_all
 have hcn:∀i,uI (fP t.ae k) i=uI t.ae i:=by
  intro i;have:=G5 h.lK.mo k i;simp_all [bl,bA,zI]
 have hno:∀i m e,find t.ae i=some m->e∈m.bc->e.ar≠k:=by
  grind [vX,cD]
 refine⟨h.lK.uU k t.next t.ak,?_,?_,?_,?_,?_,?_,?_,?_,?_,h.CE,?_,?_,?_,h.next,h.ak⟩
 ·obtain⟨r,r1,r2⟩:=h.root
  grind
 ·intro i m hm; exact h.num _ _ ((hff _ _).1 hm).2
 ·intro i m hm; exact h.kind _ _ ((hff _ _).1 hm).2
 ·intro i m hm; exact h.file _ _ ((hff _ _).1 hm).2
 ·intro i m hm; exact h.dir _ _ ((hff _ _).1 hm).2
 ·intro i m e hm hem;have hm':=((hff _ _).1 hm).2;obtain⟨a1,a2,a3,a4,q,a5,a6⟩:=h.CF _ _ e hm' hem
  grind
 ·intro i m hm; exact h.yl _ _ ((hff _ _).1 hm).2
 ·intro i m hm;obtain⟨m1,m2⟩:=(hff _ _).1 hm;have:=h.eE _ _ m2;have h0:=(h.num _ _ m2).1;rw[aR (show i≠0 by omega)]
  grind
 ·intro i m hm; exact h.one _ _ ((hff _ _).1 hm).2
 ·intro i m hm hk2 hi1;obtain⟨m1,m2⟩:=(hff _ _).1 hm;obtain⟨a,p,b,c⟩:=h.qF _ _ m2 hk2 hi1;refine⟨a,p,(hff _ _).2 ⟨fun hh=>?_,b⟩,c⟩
  have h0:=(h.num _ _ m2).1;obtain⟨q,e,q1,_,q3,_⟩:=h.named m2 hk2 hi1 (by rcases hx with rfl|rfl<;>omega)
  rw[hh,hk] at q1; grind
 ·intro i m hm; exact h.deep _ _ ((hff _ _).1 hm).2
 ·exact aY (bT _ _) h.ae
theorem dS.an4{t:Tree}{dD dep':Int->Nat}{x to:Int}{n p:Node}(h:dS t dD x)(hx:find t.ae x=some n)(hk:n.kind=2)(hx1:x≠1)(hp:find t.ae to=some p)(hpk:p.kind=2)
  (h1:dep' 1=0) (hds:∀i m,find t.ae i=some m->m.kind=2->i≠1->i≠x->dep' i=dep' m.up+1) (hdx:dep' x=dep' to+1)
  (hdeep:∀i m,find t.ae i=some m->m.kind=2->dep' i<=12/\(dep' i=12->m.bc=[])):dS ⟨eT t.ae { n with up:=to },t.next,t.ak⟩ dep' x:=by
 have hi:n.ar=x:=h.ar hx
 have hff:∀i,find (eT t.ae { n with up:=to }) i=if i=x then some { n with up:=to } else find t.ae i:=by
  intro i;rw[gm h.lK.mo { n with up:=to } i]
  simp only[hi]
 have rj:∀j m,find t.ae j=some m->∃m',find (eT t.ae { n with up:=to }) j=some m'/\m'.kind=m.kind/\(j≠x->m'.up=m.up):=by
  grind
 have back:∀j m',find (eT t.ae { n with up:=to }) j=some m'->(j=x/\m'={ n with up:=to })\/(j≠x/\find t.ae j=some m'):=by
  grind
 have hcn:∀i,uI (eT t.ae { n with up:=to }) i=uI t.ae i:=by
  intro i;have:=vr h.lK.mo { n with up:=to } i
  grind
 have hc0:uI t.ae x=0:=by
  have a:=h.eE _ n hx;have b:=h.one _ n hx hk hx1;simp only[↓reduceIte] at a;omega
 have hno:∀i m e,find t.ae i=some m->e∈m.bc->e.ar≠x:=by
  intro i m e hm hem hh;have:=vX.2 ⟨m,e,(cD hm).1,hem,hh⟩;omega
 have hent:∀i m e,find t.ae i=some m->e∈m.bc->1<=e.ak/\e.ak<t.ak/\e.ar≠1/\Nm e.name/\∃m,find (eT t.ae { n with up:=to }) e.ar=some m/\(m.kind=2->m.up=i):=by
  intro i m e hm hem;obtain⟨a1,a2,a3,a4,q,a5,a6⟩:=h.CF _ _ e hm hem
  grind
 refine⟨h.lK.with (n:={ n with up:=to }) (h.lK.bc n (cD hx).1) t.next t.ak,?_,?_,?_,?_,?_,?_,?_,?_,?_,h1,?_,?_,?_,h.next,h.ak⟩
 ·obtain⟨r,r1,r2,r3⟩:=h.root
  grind
 ·intro i m hm;rcases back i m hm with ⟨rfl,rfl⟩|⟨_,hm⟩
  ·exact h.num _ n hx
  ·exact h.num _ _ hm
 ·intro i m hm;rcases back i m hm with ⟨rfl,rfl⟩|⟨_,hm⟩
  ·exact h.kind _ n hx
  ·exact h.kind _ _ hm
 ·intro i m hm hk1;rcases back i m hm with ⟨rfl,rfl⟩|⟨_,hm⟩
  ·simp only at hk1; omega
  ·exact h.file _ _ hm hk1
 ·intro i m hm hk1;rcases back i m hm with ⟨rfl,rfl⟩|⟨_,hm⟩
  ·exact h.dir _ n hx hk
  ·exact h.dir _ _ hm hk1
 ·intro i m e hm hem;rcases back i m hm with ⟨rfl,rfl⟩|⟨_,hm⟩
  ·exact hent _ n e hx hem
  ·exact hent _ _ e hm hem
 ·intro i m hm;rcases back i m hm with ⟨rfl,rfl⟩|⟨_,hm⟩
  ·exact h.yl _ n hx
  ·exact h.yl _ _ hm
 ·intro i m hm;simp only[hcn];rcases back i m hm with ⟨rfl,rfl⟩|⟨_,hm⟩
  ·exact h.eE _ n hx
  ·exact h.eE _ _ hm
 ·intro i m hm hk1 hi1;rcases back i m hm with ⟨rfl,rfl⟩|⟨_,hm⟩
  ·exact h.one _ n hx hk hi1
  ·exact h.one _ _ hm hk1 hi1
 ·intro i m hm hk1 hi1;rcases back i m hm with ⟨rfl,rfl⟩|⟨hne,hm⟩
  ·obtain⟨p',k1,k2,_⟩:=rj _ _ hp;exact⟨hdx,p',k1,aH⟩
  ·obtain⟨_,q,b,c⟩:=h.qF _ _ hm hk1 hi1;obtain⟨q',k1,k2,_⟩:=rj _ _ b;exact⟨hds _ _ hm hk1 hi1 hne,q',k1,aH⟩
 ·intro i m hm hk1;rcases back i m hm with ⟨rfl,rfl⟩|⟨_,hm⟩
  ·exact hdeep _ n hx hk
  ·exact hdeep _ _ hm hk1
 ·simp only;rw[x9 h.lK.mo (o:=n) (by simp only[hi]; exact hx)]
  exact h.ae
def dS.made{t:Tree}{dD:Int->Nat}{d kind:Int}{p:Node}(h:dS t dD 0)(hp:find t.ae d=some p)(hpk:p.kind=2)(hk:kind=1\/kind=2)(hdp:dD d<12)(hl:t.ae.length<200)(hn:t.next<1099511627776) :
  dS ⟨eT t.ae ⟨t.next,kind,1,[],[],if kind==2 then d else 0⟩,t.next+1,t.ak⟩ (fun i=>if i=t.next then dD d+1 else dD i) t.next:=by
 have jv:find t.ae t.next=none:=by
  cases hz:find t.ae t.next with
  |none=>rfl
  |some m=>have:=h.num _ _ hz; omega
 have hnx:2<=t.next:=by
  obtain⟨r,r1,_⟩:=h.root;have:=(h.num _ _ r1).2; omega
 generalize hn':Node.mk t.next kind 1 [] [] (if kind==2 then d else 0)=n'
 have i1:n'.ar=t.next:=by rw[<-hn']
 have i2:n'.kind=kind:=by rw[<-hn']
 have i3:n'.eE=1:=by rw[<-hn']
 have i4:n'.data=[]:=by rw[<-hn']
 have i5:n'.bc=[]:=by rw[<-hn']
 have i6:n'.up=if kind==2 then d else 0:=by rw[<-hn']
 have hff:∀i,find (eT t.ae n') i=if i=t.next then some n' else find t.ae i:=by
  intro i;rw[gm h.lK.mo n' i,i1]
 have rj:∀j m,find t.ae j=some m->find (eT t.ae n') j=some m/\j≠t.next:=by
  intro j m hm;have:=(h.num _ _ hm).2;rw[hff,aR aH];exact⟨hm,aH⟩
 have back:∀j m',find (eT t.ae n') j=some m'->(j=t.next/\m'=n')\/(j≠t.next/\find t.ae j=some m'):=by
  intro j m' hm;rw[hff] at hm;split at hm
  ·rename_i he; injection hm with hm; exact .inl ⟨he,hm.symm⟩
  ·rename_i he; exact .inr ⟨he,hm⟩
 have hcn:∀i,uI (eT t.ae n') i=uI t.ae i:=by
  intro i;have:=vr h.lK.mo n' i;simp only[bl,i1,jv,iH,Node.zero,i5,zI] at this;omega
 have hc0:uI t.ae t.next=0:=by
  rcases gX (uI t.ae t.next) with h0|h0
  ·exact h0
  ·obtain⟨m,e,e1,e2,e3⟩:=vX.1 h0;obtain⟨_,_,_,_,k,k1,_⟩:=h.CF _ _ e ((ic h.lK.mo).2 ⟨e1,rfl⟩) e2;rw[e3,jv] at k1; cases k1
 refine⟨h.lK.with (n:=n') (by rw[i5]; exact List.Pairwise.nil) _ _,?_,?_,?_,?_,?_,?_,?_,?_,?_,?_,?_,?_,?_,?_,h.ak⟩
 ·obtain⟨r,r1,r2⟩:=h.root;exact⟨r,(rj _ _ r1).1,r2⟩
 ·intro i m hm;simp only;rcases back i m hm with ⟨rfl,rfl⟩|⟨_,hm⟩
  ·omega
  ·have:=h.num _ _ hm; omega
 ·intro i m hm;rcases back i m hm with ⟨rfl,rfl⟩|⟨_,hm⟩
  ·rw[i2]; exact hk
  ·exact h.kind _ _ hm
 ·intro i m hm hk1;rcases back i m hm with ⟨rfl,rfl⟩|⟨_,hm⟩
  ·rw[i2] at hk1;exact⟨i5,by rw[i6,hk1]; rfl,by rw[i4]; simp⟩
  ·exact h.file _ _ hm hk1
 ·intro i m hm hk1;rcases back i m hm with ⟨rfl,rfl⟩|⟨_,hm⟩
  ·exact i4
  ·exact h.dir _ _ hm hk1
 ·intro i m e hm hem;rcases back i m hm with ⟨rfl,rfl⟩|⟨_,hm⟩
  ·rw[i5] at hem; cases hem
  ·obtain⟨a1,a2,a3,a4,q,a5,a6⟩:=h.CF _ _ e hm hem;exact⟨a1,a2,a3,a4,q,(rj _ _ a5).1,a6⟩
 ·intro i m hm;rcases back i m hm with ⟨rfl,rfl⟩|⟨_,hm⟩
  ·rw[i5]; exact⟨List.Pairwise.nil,dy⟩
  ·exact h.yl _ _ hm
 ·intro i m hm;simp only[hcn];rcases back i m hm with ⟨rfl,rfl⟩|⟨hne,hm⟩
  ·rw[hc0,i3]; simp
  ·rw[aR hne];have:=h.eE _ _ hm;rw[aR (by have:=(h.num _ _ hm).1; omega)] at this
   exact this
 ·intro i m hm hk1 hi1;rcases back i m hm with ⟨rfl,rfl⟩|⟨_,hm⟩
  ·exact i3
  ·exact h.one _ _ hm hk1 hi1
 ·show(if (1:Int)=t.next then dD d+1 else dD 1)=0
  rw[aR aH]; exact h.CE
 ·intro i m hm hk1 hi1
  show(if i=t.next then dD d+1 else dD i)=(if m.up=t.next then dD d+1 else dD m.up)+1/\_
  rcases back i m hm with ⟨rfl,rfl⟩|⟨hne,hm⟩
  ·rw[i2] at hk1;have hu:m.up=d:=by rw[i6,hk1]; rfl
   rw[hu,aZ rfl,aR (rj _ _ hp).2];exact⟨rfl,p,(rj _ _ hp).1,hpk⟩
  ·obtain⟨a,q,b,c⟩:=h.qF _ _ hm hk1 hi1;rw[aR hne,aR (rj _ _ b).2];exact⟨a,q,(rj _ _ b).1,c⟩
 ·intro i m hm hk1
  show(if i=t.next then dD d+1 else dD i)<=12/\((if i=t.next then dD d+1 else dD i)=12->_)
  rcases back i m hm with ⟨rfl,rfl⟩|⟨hne,hm⟩
  ·rw[aZ rfl]; exact⟨aH,fun _=>i5⟩
  ·rw[aR hne]; exact h.deep _ _ hm hk1
 ·have:=GL t.ae n';simp only; omega
 ·simp only; omega
def cover:∀(k:Nat)(l:List Nat),(∀j,j<k->j∈l)->k<=l.length
 |0,_,_=>cL _
 |k+1,l,h=>by
  have hk:=h k aH;have:=cover k (l.erase k) (fun j hj=>(List.mem_erase_of_ne aH).2 (h j aH))
  rw[List.length_erase_of_mem hk] at this;have:=List.length_pos_of_mem hk;omega
def dS.an9{t:Tree}{dD:Int->Nat}{x:Int}(h:dS t dD x):∀(m:Nat)(i:Int)(n:Node),find t.ae i=some n->n.kind=2->dD i=m->∀k,k<=m->∃j p,find t.ae j=some p/\dD j=k:=by
 intro m;induction m with
 |zero=>intro i n hi _ hm k hk; exact⟨i,n,hi,aH⟩
 |succ m ih =>
  intro i n hi hk2 hm k hk;rcases Nat.eq_or_lt_of_le hk with rfl|cG
  ·exact⟨i,n,hi,hm⟩
  ·have h1:i≠1:=fun hh=>by subst hh; have:=h.CE; omega
   obtain⟨a,p,b,c⟩:=h.qF _ _ hi hk2 h1;exact ih _ p b c aH k aH
def dS.Du{t:Tree}{dD:Int->Nat}{x:Int}(h:dS t dD x){i:Int}{n:Node}(hi:find t.ae i=some n)(hk:n.kind=2):dD i<t.ae.length:=by
 have:=cover (dD i+1) (t.ae.map fun n=>dD n.ar) (fun j hj=>by
  obtain⟨a,p,h1,h2⟩:=h.an9 _ _ _ hi hk rfl j aH;rw[eJ];exact⟨p,(cD h1).1,by rw[(cD h1).2,h2]⟩)
 rw[dU] at this;omega
def dS.La{t:Tree}{dD:Int->Nat}{x:Int}(h:dS t dD x):∀(m:Nat)(i:Int)(d:Nat)(n:Node),find t.ae i=some n->n.kind=2->dD i<=m->vZ t.ae m i d=d+dD i:=by
 intro m;induction m with
 |zero=>intro i d n _ _ hd; simp only[vZ]; omega
 |succ m ih =>
  intro i d n hi hk hd;simp only[vZ];split
  ·rename_i h1; subst h1; have:=h.CE; omega
  ·rename_i h1;obtain⟨a,p,b,c⟩:=h.qF _ _ hi hk h1;have hu:Qs t.ae i=n.up:=by simp[Qs,hi]
   rw[hu,ih _ _ p b c aH];omega
def dS.p7{t:Tree}{dD:Int->Nat}{x:Int}(h:dS t dD x){i:Int}{n:Node}(hi:find t.ae i=some n)(hk:n.kind=2):pP t.ae i=dD i:=by
 have:=h.La 201 i 0 n hi hk (by have:=(h.deep _ _ hi hk).1; omega)
 simp only[pP,this]; omega
def dS.yj{t:Tree}{dD:Int->Nat}{x:Int}(h:dS t dD x):∀(m:Nat)(i:Int)(out:List Int)(n:Node),find t.ae i=some n->n.kind=2->dD i<=m->(uv t.ae m i out).length=out.length+dD i:=by
 intro m;induction m with
 |zero=>intro i out n _ _ hd; simp only[uv]; omega
 |succ m ih =>
  intro i out n hi hk hd;simp only[uv]
  by_cases h1:i=1
  ·subst h1; have:=h.CE; simp; omega
  ·obtain⟨a,p,b,c⟩:=h.qF _ _ hi hk h1;simp only[o6,ne_eq,h1,not_false_eq_true,↓reduceIte,bl,hi,bX,dQ,bA,hk,av,fG,af];rw[ih _ _ p b c aH];simp only[aA,aw,az];omega
def dS.uw{t:Tree}{dD:Int->Nat}{x:Int}(h:dS t dD x){i:Int}{n:Node}(hi:find t.ae i=some n)(hk:n.kind=2):(uD t.ae i).length=dD i+1:=by
 have:=h.yj t.ae.length i [i] n hi hk (by have:=h.Du hi hk; omega)
 simp only[uD,this,aw,az]; omega
def dS.XH{t:Tree}{dD:Int->Nat}{x:Int}(_:dS t dD x){i:Int}{n:Node}(hi:find t.ae i=some n):Qs t.ae i=n.up:=by simp[Qs,hi]
def dS.Dj{t:Tree}{dD:Int->Nat}{x:Int}(h:dS t dD x)(of:Int):∀(m:Nat)(i:Int)(n:Node),find t.ae i=some n->n.kind=2->dD i<m->nj t.ae of m i=nj t.ae of (dD i+1) i:=by
 intro m;induction m with
 |zero=>intro i n _ _ hd; omega
 |succ m ih =>
  intro i n hi hk hd
  by_cases h1:i=1
  ·subst h1; simp only[nj]; split<;>rfl
  ·obtain⟨a,p,b,c⟩:=h.qF _ _ hi hk h1;simp only[nj,h1,↓reduceIte,h.XH hi];rw[ih _ p b c aH,a]
theorem dS.oN{t:Tree}(i:Int):iJ t.ae i i=true:=by simp[iJ,nj]
theorem dS.qM{t:Tree}{of:Int}(h1:of≠1):iJ t.ae 1 of=false:=by
 simp only[iJ,nj];rw[aR (fun hh=>h1 hh.symm)]
 rfl
def dS.su{t:Tree}{dD:Int->Nat}{x:Int}(h:dS t dD x){of i:Int}{n:Node}(hi:find t.ae i=some n)(hk:n.kind=2)(h1:i≠1)(ho:i≠of):iJ t.ae i of=iJ t.ae n.up of:=by
 obtain⟨a,p,b,c⟩:=h.qF _ _ hi hk h1;have d1:=h.Du b c;have d2:=h.Du hi hk;simp only[iJ];rw[h.Dj of _ _ p b c aH];rw[h.Dj of _ _ n hi hk aH]
 conv=>lhs; rw[nj]
 simp only[ho,h1,↓reduceIte,h.XH hi];rw[a]
def dS.AK{t:Tree}{dD:Int->Nat}{x:Int}(h:dS t dD x){of:Int}:∀(m:Nat)(i:Int)(n:Node),find t.ae i=some n->n.kind=2->dD i=m->iJ t.ae i of=true->dD of<=dD i:=by
 intro m;induction m with
 |zero =>
  intro i n hi hk hm hb
  by_cases h1:i=1
  ·by_cases h2:of=1
   ·subst h1; subst h2; exact au _
   ·subst h1; rw[dS.qM h2] at hb; cases hb
  ·obtain⟨a,_⟩:=h.qF _ _ hi hk h1;omega
 |succ m ih =>
  intro i n hi hk hm hb;have h1:i≠1:=fun hh=>by subst hh; have:=h.CE; omega
  obtain⟨a,p,b,c⟩:=h.qF _ _ hi hk h1
  by_cases ho:i=of
  ·subst ho; exact au _
  ·rw[h.su hi hk h1 ho] at hb;have:=ih _ p b c aH hb;omega
def JH{α:Type}[DecidableEq α]:∀(l k:List α),l.Nodup->(∀x,x∈l->x∈k)->l.length<=k.length
 | [],_,_,_=>cL _
 |a::l,k,h,hs=>by
  have ha:=hs a bD;obtain⟨h1,h2⟩:=oH.1 h;have:=JH l (k.erase a) h2 (fun x hx=>(List.mem_erase_of_ne (by rintro rfl; exact h1 hx)).2 (hs x (bt _ hx)))
  rw[List.length_erase_of_mem ha] at this;have:=List.length_pos_of_mem ha;simp only[aw];omega
def dS.QH{t:Tree}{dD:Int->Nat}{x:Int}(h:dS t dD x){i:Int}{n:Node}(hi:find t.ae i=some n):n.bc.length<=64:=(h.yl _ _ hi).2
def Rr(i:Int):∀(ns:List Node),(∀n,n∈ns->n.bc.length<=64)->uI ns i<=64*ns.length
 | [],_=>cL _
 |n::ns,h=>by
  have h1:=Rr i ns (fun m hm=>h m (bt _ hm))
  have h2:rn n.bc i<=n.bc.length:=ny;have h3:=h n bD;rw[vq,aw];omega
def dS.Rs{t:Tree}{dD:Int->Nat}{x:Int}(h:dS t dD x)(i:Int):uI t.ae i<=12800:=by
 have:=Rr i t.ae (fun n hn=>h.QH ((ic h.lK.mo).2 ⟨hn,rfl⟩))
 have:=h.ae;omega
def dS.xb{t:Tree}{dD:Int->Nat}{x:Int}(h:dS t dD x){i:Int}{n:Node}(hi:find t.ae i=some n){e:gI}(he:e∈n.bc):e.ar≠i:=by
 intro hh;obtain⟨_,_,h1,_,m,hm,hu⟩:=h.CF _ _ e hi he;rw[hh,hi] at hm; cases hm
 have hk:n.kind=2:=by
  rcases h.kind _ _ hi with hk|hk
  ·rw[(h.file _ _ hi hk).1] at he; cases he
  ·exact hk
 have:=(h.qF _ _ hi hk aH).1;rw[hu hk] at this;omega
def IJ{t:Tree}{ar:Int}{s:Bytes}(h:(oW t ar s != 0)=false):∃d,find t.ae ar=some d/\d.kind=2/\fU s=true/\gq d.bc s=none/\d.bc.length<64/\pP t.ae ar<12/\t.ak<1099511627776:=by
 have h0:oW t ar s=0:=by simpa using h
 unfold oW at h0;split at h0
 ·rename_i h1; exact absurd h0 h1
 ·rename_i h1;obtain⟨d,d1,d2,d3⟩:=yV (show(gV t.ae ar).2=0 by omega)
  rw[d3] at h0;split at h0
  ·cases h0
  ·rename_i h2;split at h0
   ·cases h0
   ·rename_i h3;split at h0
    ·cases h0
    ·rename_i h4;simp only[DG,(cD d1).2,cW,bh,o7] at h4;refine⟨d,d1,d2,by simpa using h2,by simpa using h3,aH,aH,aH⟩
def dS.cw{t:Tree}{dD:Int->Nat}{x:Int}(h:dS t dD x)(hn:t.next<1099511627776):nw (t.next+1)=t.next+1:=gv (by
 obtain⟨r,r1,_⟩:=h.root;have:=h.num _ _ r1; omega) aH
def Q6{t:Tree}{dD:Int->Nat}(h:dS t dD 0)(ar:Int)(s:Bytes)(kind:Int)(hs:fU s=true->Nm s):∃dep',dS (rU t ar s kind).1 dep' 0:=by
 unfold rU;split
 ·exact⟨dD,h⟩
 ·rename_i hk;split
  ·exact⟨dD,h⟩
  ·rename_i he;split
   ·exact⟨dD,h⟩
   ·rename_i hb;obtain⟨d,d1,d2,d3,d4,d5,d6,d7⟩:=IJ (by simpa using he)
    simp only[cW,bh,o7] at hb;have hn:t.next<1099511627776:=aH
    rw[h.p7 d1 d2] at d6
    have hk':kind=1\/kind=2:=by
     simp only[bw,o6,ne_eq,not_and,Decidable.not_not] at hk
     by_cases h1:kind=1
     ·exact .inl h1
     ·exact .inr (hk h1)
    have hm:=h.made d1 d2 hk' d6 aH hn;rw[h.cw hn];have cG:=(h.num _ _ d1).2;have hne:ar≠t.next:=aH
    refine⟨_,hm.nH (d:=ar) (n:=d) (m:=⟨t.next,kind,1,[],[],if kind==2 then ar else 0⟩) ?_ d2 d4 (by simpa using d5) (hs d3) ?_ ?_ ?_ ?_ d7⟩
    ·simp only; rw[gm h.lK.mo]; simp only[hne,↓reduceIte]; exact d1
    ·simp only; rw[gm h.lK.mo]; simp only[↓reduceIte]
    ·have:=(h.num _ _ d1).1; omega
    ·intro h2;simp only at h2;simp[h2]
    ·simp only[hne,↓reduceIte]; exact d6
def Z9{t:Tree}{dD:Int->Nat}(h:dS t dD 0)(ar to:Int)(s:Bytes)(hs:fU s=true->Nm s):dS (CK t ar to s).1 dD 0:=by
 unfold CK;split
 ·exact h
 ·rename_i hf;split
  ·exact h
  ·rename_i hk;split
   ·exact h
   ·rename_i he;obtain⟨d,d1,d2,d3,d4,d5,d6,d7⟩:=IJ (by simpa using he)
    rw[h.p7 d1 d2] at d6;cases hi:find t.ae ar with
    |none=>simp[hi] at hf
    |some n =>
     simp only[bl,hi,bA] at hk ⊢
     have hk1:n.kind=1:=by
      rcases h.kind _ _ hi with h1|h1
      ·exact h1
      ·simp[h1] at hk
     have hlk:=h.eE _ _ hi;rw[aR (by have:=(h.num _ _ hi).1; omega)] at hlk
     have hcl:=h.Rs ar;have hw:nw (n.eE+1)=n.eE+1:=gv aH aH;rw[hw];obtain⟨f1,f2,f3⟩:=h.file _ _ hi hk1
     have hg:=h.RZ (n':={ n with eE:=n.eE+1 }) (x':=ar) hi hk1 (cD hi).2 hk1 rfl rfl f3 (fun i h0=>by
      simp only;rw[aR (show i≠0 by omega)]
      split<;>omega)
     have hne:to≠ar:=fun hh=>by subst hh; rw[hi] at d1; cases d1; omega
     refine hg.nH (d:=to) (n:=d) (m:={ n with eE:=n.eE+1 }) ?_ d2 d4 (by simpa using d5) (hs d3) ?_ ?_ ?_ d6 d7
     ·simp only; rw[gm h.lK.mo]; simp only[h.ar hi,hne,↓reduceIte]; exact d1
     ·simp only; rw[gm h.lK.mo]; simp only[h.ar hi,↓reduceIte]
     ·intro hh; subst hh;obtain⟨r,r1,r2,_⟩:=h.root;rw[hi] at r1; cases r1; omega
     ·intro h2; simp only at h2; omega
def dS.unnamed{t:Tree}{dD:Int->Nat}{k:Int}{n:Node}(h:dS t dD k)(hk:find t.ae k=some n)(he:n.bc=[])(h1:k≠1):dS ⟨fm t.ae k,t.next,t.ak⟩ dD 0:=by
 unfold fm;simp only[bl,hk,bA];have hl:=h.eE _ _ hk;simp only[↓reduceIte] at hl;split
 ·rename_i h2;have:=h.one _ _ hk (by simpa using h2) h1
  exact h.drop (.inl rfl) hk he h1 aH
 ·rename_i h2
  have hk1:n.kind=1:=by
   rcases h.kind _ _ hk with h1|h1
   ·exact h1
   ·simp[h1] at h2
  have hcl:=h.Rs k;have hw:nw (n.eE-1)=n.eE-1:=gv aH aH;rw[hw];obtain⟨f1,f2,f3⟩:=h.file _ _ hk hk1
  exact h.RZ (n':={ n with eE:=n.eE-1 }) (x':=0) hk hk1 (cD hk).2 hk1 rfl rfl f3 (fun i h0=>by
   simp only;rw[aR (show i≠0 by omega)]
   split<;>omega)
def dS.un{t:Tree}{dD:Int->Nat}(h:dS t dD 0){d:Int}{n m:Node}{s:Bytes}{e:gI}(hd:find t.ae d=some n)(he:gq n.bc s=some e)(hm:find t.ae e.ar=some m)(hm0:m.bc=[]):dS ⟨fm (dx t.ae d s) e.ar,t.next,t.ak⟩ dD 0:=by
 have hem:=(jZ he).1;have hl:=h.left hd he;refine hl.unnamed (n:=m) ?_ hm0 (h.CF _ _ e hd hem).2.2.1;simp only;rw[kP h.lK.mo hd,aR (h.xb hd hem)];exact hm
def aby{t:Tree}{dD:Int->Nat}(h:dS t dD 0)(ar:Int)(s:Bytes):dS (BN t ar s).1 dD 0:=by
 unfold BN;split
 ·exact h
 ·rename_i hl;obtain⟨d,e,d1,d2,d3,d4,d5⟩:=look_ok (by simpa using hl)
  rw[d5];split
  ·exact h
  ·rename_i h0;obtain⟨_,_,_,_,m,hm,_⟩:=h.CF _ _ e d1 (jZ d4).1;simp only[bl,hm,bA,bh] at h0;exact h.un d1 d4 hm (dM.1 aH)
def WR{t:Tree}{dD:Int->Nat}(h:dS t dD 0)(ar:Int)(data:Bytes):dS (rP t ar data).1 dD 0:=by
 unfold rP;split
 ·exact h
 ·rename_i hf;split
  ·exact h
  ·rename_i hk;split
   ·exact h
   ·rename_i hd;cases hi:find t.ae ar with
    |none=>simp[hi] at hf
    |some n =>
     simp only[bl,hi,bA] at hk ⊢
     have hk1:n.kind=1:=by
      rcases h.kind _ _ hi with h1|h1
      ·exact h1
      ·simp[h1] at hk
     simp only[bh] at hd
     exact h.RZ (n':={ n with data:=data }) (x':=0) hi hk1 (cD hi).2 hk1 rfl rfl (by simp only; omega) (fun i h0=>by
      simp only;rw[aR (show i≠0 by omega)]
      split<;>omega)
def FJ{t:Tree}{dD:Int->Nat}(h:dS t dD 0)(ar:Int):dS (kJ t ar).1 dD 0:=by
 unfold kJ;split
 ·exact h
 ·rename_i hf;split
  ·exact h
  ·rename_i hk;split
   ·exact h
   ·rename_i hd;cases hi:find t.ae ar with
    |none=>simp[hi] at hf
    |some n =>
     simp only[bl,hi,bA] at hk hd
     have hk1:n.kind=1:=by
      rcases h.kind _ _ hi with h1|h1
      ·exact h1
      ·simp[h1] at hk
     simp only[bh] at hd;have hl:=h.eE _ _ hi;rw[aR (by have:=(h.num _ _ hi).1; omega)] at hl
     refine h.drop (.inr rfl) hi (h.file _ _ hi hk1).1 ?_ aH;intro hh; subst hh;obtain⟨r,r1,r2,_⟩:=h.root;rw[hi] at r1; cases r1; omega
def Mz:∀ {a b:List Node},oU a->oU b->(∀m,m∈a↔m∈b)->a=b
 | [],[],_,_,_=>rfl
 | [],y::b,_,_,h=>by have:=(h y).2 bD; cases this
 |x::a,[],_,_,h=>by have:=(h x).1 bD; cases this
 |x::a,y::b,ha,hb,h=>by
  obtain⟨a1,a2⟩:=df.1 ha;obtain⟨b1,b2⟩:=df.1 hb
  have hxy:x=y:=by
   rcases bI.1 ((h x).1 bD) with h1|h1
   ·exact h1
   ·rcases bI.1 ((h y).2 bD) with h2|h2
    ·exact h2.symm
    ·have:=b1 x h1; have:=a1 y h2; omega
  subst hxy;rw[Mz a2 b2 (fun m=>?_)]
  constructor
  ·intro hm;rcases bI.1 ((h m).1 (bt _ hm)) with h1|h1
   ·subst h1; have:=a1 m hm; omega
   ·exact h1
  ·intro hm;rcases bI.1 ((h m).2 (bt _ hm)) with h1|h1
   ·subst h1; have:=b1 m hm; omega
   ·exact h1
def R2{a b:List Node}(ha:oU a)(hb:oU b)(h:∀i,find a i=find b i):a=b :=
 Mz ha hb fun m=>by
  constructor
  ·intro hm;have:=(ic ha).2 ⟨hm,rfl⟩;rw[h] at this;exact(cD this).1
  ·intro hm;have:=(ic hb).2 ⟨hm,rfl⟩;rw[<-h] at this;exact(cD this).1
def Ax{ae:List Node}(h:oU ae)(k:Int):oU (fm ae k):=by
 unfold fm;split
 ·exact rM h _
 ·exact lL h _
def sb{ae:List Node}(h:oU ae)(k:Int)(s:Bytes):oU (dx ae k s):=lL h _
def Nt(n:Node):Option Node:=if n.kind==2 then none else some { n with eE:=nw (n.eE-1) }
def u6{ae:List Node}(h:oU ae){k:Int}{n:Node}(hk:find ae k=some n)(i:Int):find (fm ae k) i=if i=k then Nt n else find ae i:=by
 unfold fm Nt;simp only[bl,hk,bA];split
 ·rw[mj h]
 ·rw[gm h];simp only[(cD hk).2]
def Ld(l:List gI)(a b:Bytes):j8 (j8 l a) b=j8 (j8 l b) a:=by
 simp only[j8,List.filter_filter];congr 1;funext e;rw[Bool.and_comm]
def XE{ae:List Node}(h:oU ae){f to y:Int}{s nm:Bytes}{dF dT m:Node}(hF:find ae f=some dF)(hT:find ae to=some dT)(hy:find ae y=some m)(h1:y≠f)(h2:y≠to) :
  fm (dx (dx ae f s) to nm) y=dx (fm (dx ae to nm) y) f s:=by
 have a1:=sb h f s;have a2:=sb h to nm;have a3:=sb a1 to nm;have a4:=Ax a2 y;have f1:=kP h hF (s:=s);have f2:=kP h hT (s:=nm);have hy1:find (dx ae to nm) y=some m:=by rw[f2,aR h2]; exact hy
 have f4:=u6 a2 hy1;obtain⟨dT',hT'⟩:∃dT',find (dx ae f s) to=some dT':=by rw[f1]; split<;>simp_all
 have f3:=kP a1 hT' (s:=nm);have hy3:find (dx (dx ae f s) to nm) y=some m:=by rw[f3,aR h2,f1,aR h1]; exact hy
 have f5:=u6 a3 hy3;obtain⟨dF',hF'⟩:∃dF',find (fm (dx ae to nm) y) f=some dF':=by rw[f4,aR (fun hh=>h1 hh.symm),f2]; split<;>simp_all
 have f6:=kP a4 hF' (s:=s);refine R2 (Ax a3 y) (sb a4 f s) (fun i=>?_)
 rw[f5,f6,f4,f3];rw[f1] at hT';rw[f4,aR (fun hh=>h1 hh.symm),f2] at hF'
 by_cases i1:i=y
 ·subst i1; simp[h1]
 ·simp only[i1,↓reduceIte]
  by_cases i2:i=to
  ·subst i2;simp only[↓reduceIte]
   by_cases i3:i=f
   ·subst i3;simp only[↓reduceIte] at hT' hF' ⊢;injection hT' with hT'; injection hF' with hF'
    rw[<-hT',<-hF'];rw[hF] at hT; cases hT;simp only[Ld]
   ·simp only[i3,↓reduceIte] at hT' ⊢;rw[f2]; simp only[↓reduceIte];rw[hT] at hT'; injection hT' with hT'; rw[hT']
  ·simp only[i2,↓reduceIte];rw[f1,f2]
   by_cases i3:i=f
   ·subst i3;simp only[↓reduceIte,i2] at hF' ⊢;rw[hF] at hF'; injection hF' with hF'; rw[hF']
   ·simp only[i3,i2,↓reduceIte]
def IE{l:List gI}{s:Bytes}{e:gI}(h:gq l s=some e):(j8 l s).length<l.length:=by
 obtain⟨h1,h2⟩:=jZ h;refine Nat.lt_of_le_of_ne (bT _ _) fun hh=>?_
 have:=List.length_filter_eq_length_iff.1 hh e h1;simp[h2] at this
def dS.adL{t:Tree}{dD dep':Int->Nat}{f to:Int}{s nm:Bytes}{dF dT m:Node}{e:gI}(h:dS t dD 0)(hF:find t.ae f=some dF)(he:gq dF.bc s=some e)(hT:find t.ae to=some dT)(hTk:dT.kind=2)(hfree:gq dT.bc nm=none)(hroom:to≠f->dT.bc.length<64)(hnm:Nm nm)
  (hm:find t.ae e.ar=some m) (hne:e.ar≠to) (hd12:dep' to<12) (hck:t.ak<1099511627776)
  (hcase:(m.kind=1/\dep'=dD)\/(m.kind=2/\dep' 1=0/\(∀i n,find t.ae i=some n->n.kind=2->i≠1->i≠e.ar->dep' i=dep' n.up+1)/\dep' e.ar=dep' to+1 /\
   ∀i n,find t.ae i=some n->n.kind=2->dep' i<=12/\(dep' i=12->n.bc=[]))):dS (tc t f s to nm e.ar 0) dep' 0:=by
 have hem:=(jZ he).1;have hnf:e.ar≠f:=h.xb hF hem;have h1:e.ar≠1:=(h.CF _ _ e hF hem).2.2.1;have hl:=h.left hF he;have fl:=kP h.lK.mo hF (s:=s);have hmx:find (dx t.ae f s) e.ar=some m:=by rw[fl,aR hnf]; exact hm
 obtain⟨d1,g1,g2,g3,g4⟩:∃d1,find (dx t.ae f s) to=some d1/\d1.kind=2/\gq d1.bc nm=none/\d1.bc.length<64:=by
  rw[fl];split
  ·rename_i hh;subst hh;rw[hF] at hT; cases hT;exact⟨_,rfl,hTk,vv hfree,bu (IE he) (h.QH hF)⟩
  ·rename_i hh;exact⟨dT,hT,hTk,hfree,hroom hh⟩
 have hnode:bl t.ae e.ar=m:=by simp[bl,hm]
 unfold tc;simp only[hnode,av,af,↓reduceIte];rcases hcase with ⟨hk,rfl⟩|⟨hk,c1,c2,c3,c4⟩
 ·rw[aR (by simp[hk])]
  exact hl.nH g1 g2 g3 g4 hnm hmx h1 (fun h2=>aH) hd12 hck
 ·rw[aZ (by simp[hk])]
  have hs:=hl.an4 (dep':=dep') hmx hk h1 g1 g2 c1 (fun i n hi hk2 hi1 hie=>by
    simp only[fl] at hi;split at hi
    ·rename_i hh; subst hh;cases hi;exact c2 i dF hF hk2 hi1 hie
    ·exact c2 _ _ hi hk2 hi1 hie) c3 (fun i n hi hk2=>by
    simp only[fl] at hi;split at hi
    ·rename_i hh; subst hh;cases hi;obtain⟨q1,q2⟩:=c4 i dF hF hk2;exact⟨q1,fun h12=>by simp[q2 h12,j8]⟩
    ·exact c4 _ _ hi hk2)
  have hmi:m.ar=e.ar:=(cD hm).2;have fw:=gm (sb h.lK.mo f s) { m with up:=to }
  refine hs.nH (n:=d1) (m:={ m with up:=to }) ?_ g2 g3 g4 hnm ?_ h1 (fun _=>rfl) hd12 hck
  ·simp only;rw[fw];rw[aR (show ¬to=m.ar from fun hh=>hne aH)]
   exact g1
  ·simp only;rw[fw];simp only[hmi,↓reduceIte]
def u7(ae:List Node)(at' d:Int)(n:Node):Int :=
 if decide ((0:Int)<n.bc.length) then nw (nw (nw (at'+pP ae n.ar)-d)+1) else nw (nw (at'+pP ae n.ar)-d)
def Jd(ae:List Node)(ar at' d:Int)(n:Node)(dC:Int):dC<=sC ae ar at' d n dC/\((n.kind==2&&iJ ae n.ar ar)=true->u7 ae at' d n<=sC ae ar at' d n dC):=by
 have e:sC ae ar at' d n dC=if n.kind==2&&iJ ae n.ar ar then (if u7 ae at' d n>dC then u7 ae at' d n else dC) else dC:=rfl
 rw[e];split
 ·split
  ·exact⟨aH,fun _=>dL _⟩
  ·exact⟨dL _,fun _=>aH⟩
 ·rename_i h; exact⟨dL _,fun hh=>absurd hh h⟩
def Ba(ae:List Node)(ar at' d:Int):∀(l:List Node)(dC:Int),dC<=wc ae ar at' d l dC/\∀n,n∈l->(n.kind==2&&iJ ae n.ar ar)=true->u7 ae at' d n<=wc ae ar at' d l dC
 | [],dC=>⟨dL _,fun n hn=>by cases hn⟩
 |m::l,dC=>by
  obtain⟨h1,h2⟩:=Ba ae ar at' d l (sC ae ar at' d m dC);obtain⟨h3,h4⟩:=Jd ae ar at' d m dC;rw[wc];refine⟨aH,fun n hn hb=>?_⟩
  rcases bI.1 hn with rfl|hn
  ·have:=h4 hb; omega
  ·exact h2 n hn hb
def rH(ae:List Node)(dD:Int->Nat)(x to:Int):Int->Nat:=fun i=>if iJ ae i x then dD i+(dD to+1)-dD x else dD i
def dS.FR{t:Tree}{dD:Int->Nat}(h:dS t dD 0){x to i:Int}{m n:Node}(hx:find t.ae x=some m)(hk:m.kind=2)(hd:dD to<12)(hi:find t.ae i=some n)(hk2:n.kind=2)(hb:iJ t.ae i x=true) :
  u7 t.ae (((dD to+1:Nat):Int)) (dD x) n=((rH t.ae dD x to i+(if 0<n.bc.length then 1 else 0):Nat):Int):=by
 have d1:=(h.deep _ _ hi hk2).1;have d2:=(h.deep _ _ hx hk).1;have d3:=h.AK _ i n hi hk2 rfl hb;have hdn:pP t.ae n.ar=dD i:=by rw[h.ar hi]; exact h.p7 hi hk2
 have w1:nw ((((dD to+1:Nat):Int))+(dD i:Nat))=(((dD to+1:Nat):Int))+(dD i:Nat):=gv aH aH;have w2:nw ((((dD to+1:Nat):Int))+(dD i:Nat)-(dD x:Nat))=(((dD to+1:Nat):Int))+(dD i:Nat)-(dD x:Nat):=gv aH aH;have w3:nw ((((dD to+1:Nat):Int))+(dD i:Nat)-(dD x:Nat)+1)=(((dD to+1:Nat):Int))+(dD i:Nat)-(dD x:Nat)+1:=gv aH aH;unfold u7 rH;rw[aZ hb,hdn,w1,w2,w3]
 by_cases hl:0<n.bc.length
 ·rw[aZ (by simpa using hl),aZ hl]; omega
 ·rw[aR (by simpa using hl),aR hl]; omega
def dS.ahK{t:Tree}{dD:Int->Nat}(h:dS t dD 0){x to:Int}{m dT:Node}(hx:find t.ae x=some m)(hk:m.kind=2)(hx1:x≠1)(hT:find t.ae to=some dT)(hTk:dT.kind=2)(hnb:iJ t.ae to x=false)(hd:dD to<12)
  (hh:B9 t.ae x (((dD to+1:Nat):Int))<=12) :
  rH t.ae dD x to 1=0/\(∀i n,find t.ae i=some n->n.kind=2->i≠1->i≠x->rH t.ae dD x to i=rH t.ae dD x to n.up+1)/\rH t.ae dD x to x=rH t.ae dD x to to+1 /\
   (∀i n,find t.ae i=some n->n.kind=2->rH t.ae dD x to i<=12/\(rH t.ae dD x to i=12->n.bc=[]))/\rH t.ae dD x to to=dD to:=by
 have hto:rH t.ae dD x to to=dD to:=by unfold rH; rw[aR (by simp[hnb])]
 refine⟨?_,?_,?_,?_,hto⟩
 ·unfold rH;rw[aR (by simp[dS.qM hx1])]
  exact h.CE
 ·intro i n hi hk2 hi1 hix;obtain⟨a,p,b,c⟩:=h.qF _ _ hi hk2 hi1;have hb:=h.su hi hk2 hi1 hix;unfold rH;rw[hb];split
  ·rename_i hb2;have:=h.AK _ _ p b c rfl hb2;omega
  ·exact a
 ·rw[hto];unfold rH;rw[aZ (dS.oN x)];omega
 ·intro i n hi hk2
  by_cases hb:iJ t.ae i x=true
  ·have h1:=(Ba t.ae x (((dD to+1:Nat):Int)) (pP t.ae x) t.ae 0).2 n (cD hi).1 (by rw[hk2,h.ar hi,hb]; rfl)
   rw[h.p7 hx hk,h.FR hx hk hd hi hk2 hb] at h1;unfold B9 at hh;rw[h.p7 hx hk] at hh;have h2:=Int.le_trans h1 hh;split at h2
   ·rename_i hl;exact⟨aH,fun h12=>aH⟩
   ·rename_i hl;exact⟨aH,fun _=>dM.1 aH⟩
  ·have:rH t.ae dD x to i=dD i:=by unfold rH; rw[aR hb]
   rw[this];exact h.deep _ _ hi hk2
def DE{l:List gI}{s r:Bytes}(h:r≠s):gq (j8 l s) r=gq l r:=by
 unfold gq j8;rw[List.find?_filter];congr 1;funext e
 by_cases he:e.name=r
 ·have hn:e.name≠s:=he▸h;simp[he,h]
 ·simp[he]
structure aiJ(t:Tree)(dD:Int->Nat)(f:Int)(s:Bytes)(to:Int)(nm:Bytes)(dF dT m:Node)(e:gI):Prop where
 hF:find t.ae f=some dF
 kF:dF.kind=2
 he:gq dF.bc s=some e
 hT:find t.ae to=some dT
 kT:dT.kind=2
 hn:fU nm=true
 hm:find t.ae e.ar=some m
 ne:e.ar≠to
 nf:e.ar≠f
 loop:m.kind=2->iJ t.ae to e.ar=false
 deep:dD to<12
 high:m.kind=2->B9 t.ae e.ar (((dD to+1:Nat):Int))<=12
 ak:t.ak<1099511627776
 room:gq dT.bc nm=none->to≠f->dT.bc.length<64
 at2:∀e2,gq dT.bc nm=some e2->e2.ar≠e.ar/\∃y,find t.ae e2.ar=some y/\y.bc=[]/\(m.kind=2↔y.kind=2)/\e2.ar≠f/\e2.ar≠to
def dS.mv{t:Tree}{dD:Int->Nat}(h:dS t dD 0){f:Int}{s:Bytes}{to:Int}{nm:Bytes}{dF dT m:Node}{e:gI}(hs:fU nm=true->Nm nm)(k:aiJ t dD f s to nm dF dT m e):∃dep',dS (tc t f s to nm e.ar (jf dT.bc nm)) dep' 0:=by
 have hem:=(jZ k.he).1;have hx1:=(h.CF _ _ e k.hF hem).2.2.1
 have hcase:∃dep':Int->Nat,dep' to<12/\((m.kind=1/\dep'=dD)\/(m.kind=2/\dep' 1=0/\(∀i n,find t.ae i=some n->n.kind=2->i≠1->i≠e.ar->dep' i=dep' n.up+1)/\dep' e.ar=dep' to+1 /\
   ∀i n,find t.ae i=some n->n.kind=2->dep' i<=12/\(dep' i=12->n.bc=[]))):=by
  rcases h.kind _ _ k.hm with hk|hk
  ·exact⟨dD,k.deep,.inl ⟨hk,rfl⟩⟩
  ·obtain⟨c1,c2,c3,c4,c5⟩:=h.ahK k.hm hk hx1 k.hT k.kT (k.loop hk) k.deep (k.high hk);exact⟨rH t.ae dD e.ar to,by rw[c5]; exact k.deep,.inr ⟨hk,c1,c2,c3,c4⟩⟩
 obtain⟨dep',hd12,hcase⟩:=hcase;refine⟨dep',?_⟩;cases hfr:gq dT.bc nm with
 |none =>
  have hu:jf dT.bc nm=0:=by simp[jf,hfr]
  rw[hu];exact h.adL k.hF k.he k.hT k.kT hfr (k.room hfr) (hs k.hn) k.hm k.ne hd12 k.ak hcase
 |some e2 =>
  have hu:jf dT.bc nm=e2.ar:=by simp[jf,hfr]
  rw[hu];obtain⟨q1,y,q2,q3,q4,q5,q6⟩:=k.at2 e2 hfr;have h1:=h.un k.hT hfr q2 q3;have a2:=sb h.lK.mo to nm;have f2:=kP h.lK.mo k.hT (s:=nm);have hy1:find (dx t.ae to nm) e2.ar=some y:=by rw[f2,aR q6]; exact q2
  have f4:∀i,find (fm (dx t.ae to nm) e2.ar) i=if i=e2.ar then Nt y else if i=to then some { dT with bc:=j8 dT.bc nm } else find t.ae i:=by
   intro i;rw[u6 a2 hy1,f2]
  have hnn:bl (fm (dx t.ae to nm) e2.ar) e.ar=bl t.ae e.ar:=by
   simp only[bl];rw[f4,aR (fun hh=>q1 hh.symm),aR k.ne]
  have hy0:=(h.num _ _ q2).1
  have hmv:tc t f s to nm e.ar e2.ar=tc ⟨fm (dx t.ae to nm) e2.ar,t.next,t.ak⟩ f s to nm e.ar 0:=by
   unfold tc;simp only[hnn];rw[XE h.lK.mo k.hF k.hT q2 q5 q6];have e1:(e2.ar != 0)=true:=gh;simp only[e1,av,af,↓reduceIte]
  rw[hmv]
  have hsn:to=f->s≠nm:=fun hh hsn=>by
   subst hh; subst hsn;have:=k.hF; rw[k.hT] at this; cases this;have:=k.he; rw[hfr] at this; cases this;exact q1 rfl
  obtain⟨dF',g1,g2⟩:∃dF',find (fm (dx t.ae to nm) e2.ar) f=some dF'/\gq dF'.bc s=some e:=by
   rw[f4,aR (fun hh=>q5 hh.symm)]
   split
   ·rename_i hh;refine⟨_,rfl,?_⟩;rw[DE (hsn hh.symm)];subst hh;have:=k.hF; rw[k.hT] at this; cases this;exact k.he
   ·exact⟨dF,k.hF,k.he⟩
  have back:∀i n,find (fm (dx t.ae to nm) e2.ar) i=some n->n.kind=2->∃n0,find t.ae i=some n0/\n0.kind=2/\n0.up=n.up/\(n0.bc=[]->n.bc=[]):=by
   intro i n hi hk;rw[f4] at hi;split at hi
   ·unfold Nt at hi;split at hi
    ·cases hi
    ·rename_i hh;cases hi;simp only at hk;simp[hk] at hh
   ·split at hi
    ·rename_i hh; subst hh;cases hi;exact⟨dT,k.hT,hk,rfl,fun h0=>by simp[h0,j8]⟩
    ·exact⟨n,hi,hk,rfl,fun h0=>h0⟩
  refine h1.adL (dep':=dep') g1 g2 (dT:={ dT with bc:=j8 dT.bc nm }) ?_ k.kT (B6 _ _) (fun _=>bu (IE hfr) (h.QH k.hT)) (hs k.hn) (m:=m) ?_ k.ne hd12 k.ak ?_
  ·simp only; rw[f4,aR (fun hh=>q6 hh.symm),aZ rfl]
  ·simp only; rw[f4,aR (fun hh=>q1 hh.symm),aR k.ne]; exact k.hm
  ·rcases hcase with hc|⟨hk,c1,c2,c3,c4⟩
   ·exact .inl hc
   ·refine .inr ⟨hk,c1,?_,c3,?_⟩
    ·intro i n hi hk2 hi1 hie;obtain⟨n0,b1,b2,b3,_⟩:=back i n hi hk2;rw[<-b3]; exact c2 i n0 b1 b2 hi1 hie
    ·intro i n hi hk2;obtain⟨n0,b1,b2,_,b4⟩:=back i n hi hk2;exact⟨(c4 i n0 b1 b2).1,fun h12=>b4 ((c4 i n0 b1 b2).2 h12)⟩
def dS.zero{t:Tree}{dD:Int->Nat}{x:Int}(h:dS t dD x):find t.ae 0=none:=by
 cases hz:find t.ae 0 with
 |none=>rfl
 |some m=>have:=h.num _ _ hz; omega
def PS{t:Tree}{dD:Int->Nat}(h:dS t dD 0)(f:Int)(s:Bytes)(to:Int)(nm:Bytes) :
  ((wP t f s to nm).1=t/\(wP t f s to nm).2.1=0/\(wP t f s to nm).2.2≠0) \/
  (wP t f s to nm=(t,0,0)/\∃dF dT e e2,find t.ae f=some dF/\dF.kind=2/\fU s=true/\gq dF.bc s=some e/\fg t.ae f s=(e.ar,0)/\find t.ae to=some dT/\dT.kind=2/\fU nm=true/\gq dT.bc nm=some e2/\e2.ar=e.ar) \/
  ∃dF dT m e,aiJ t dD f s to nm dF dT m e/\fU s=true/\fg t.ae f s=(e.ar,0)/\wP t f s to nm=(tc t f s to nm e.ar (jf dT.bc nm),jf dT.bc nm,0):=by
 unfold wP;split
 ·rename_i c1; exact .inl ⟨rfl,rfl,by simpa using c1⟩
 rename_i c1;split
 ·rename_i c2; exact .inl ⟨rfl,rfl,by simpa using c2⟩
 rename_i c2;split
 ·exact .inl ⟨rfl,rfl,dy⟩
 rename_i c3;obtain⟨dF,e,e1,e2,e3,e4,e5⟩:=look_ok (by simpa using c1)
 obtain⟨dT,g1,g2,g3⟩:=yV (show(gV t.ae to).2=0 by simpa using c2)
 have hem:=(jZ e4).1;obtain⟨_,_,x1,_,m,hm,hup⟩:=h.CF _ _ e e1 hem;have hnode:bl t.ae e.ar=m:=by simp[bl,hm]
 simp only[e5,g3,hnode];split
 ·rename_i c4;right; left;refine⟨rfl,dF,dT,e,?_⟩;have c4':jf dT.bc nm=e.ar:=by simpa using c4
  cases hfr:gq dT.bc nm with
  |none=>simp only[jf,hfr] at c4'; have:=(h.num _ _ hm).1; omega
  |some e2'=>simp only[jf,hfr] at c4'; exact⟨e2',e1,e2,e3,e4,rfl,g1,g2,by simpa using c3,rfl,c4'⟩
 rename_i c4;split
 ·exact .inl ⟨rfl,rfl,dy⟩
 rename_i c5;split
 ·rename_i c6; exact .inl ⟨rfl,rfl,by simpa using c6⟩
 rename_i c6;split
 ·exact .inl ⟨rfl,rfl,dy⟩
 rename_i c7;right; right;have hdt:=h.p7 g1 g2;simp only[manyN,hdt,cW,bw,eG,bh,o7,not_and,o6] at c7;obtain⟨r1,r2,r3,r4⟩:=c7
 have hw:nw (((dD to:Nat):Int)+1)=((dD to+1:Nat):Int):=by
  have:=(h.deep _ _ g1 g2).1;rw[show(((dD to:Nat):Int)+1)=((dD to+1:Nat):Int) by omega]
  exact gv aH aH
 rw[hw] at r3;have hnf:=h.xb e1 hem
 have hne:e.ar≠to:=fun hh=>by
  rw[hh,g1] at hm; cases hm;simp only[g2,lV,dZ] at c5;rw[hh,dS.oN] at c5;exact c5 rfl
 refine⟨dF,dT,m,e,⟨e1,e2,e4,g1,g2,by simpa using c3,hm,hne,hnf,?_,aH,?_,aH,?_,?_⟩,e3,rfl,rfl⟩
 ·intro hk;simpa[hk] using c5
 ·intro hk;have:=r3 hk; omega
 ·intro hfr hne;have hu:jf dT.bc nm=0:=by simp[jf,hfr]
  have:=r1 ⟨hu,hne⟩;omega
 ·intro e2' hfr;have hu:jf dT.bc nm=e2'.ar:=by simp[jf,hfr]
  rw[hu] at c4 c6;obtain⟨_,_,_,_,y,hy,_⟩:=h.CF _ _ e2' g1 (jZ hfr).1;have hny:bl t.ae e2'.ar=y:=by simp[bl,hy]
  have hto:=h.xb g1 (jZ hfr).1;simp only[uX,hy,bX,dQ,af,↓reduceIte,hny,o6,ne_eq,Decidable.not_not] at c6;split at c6
  ·cases c6
  ·rename_i k1;split at c6
   ·cases c6
   ·rename_i k2;split at c6
    ·cases c6
    ·rename_i k3;have hy0:y.bc=[]:=dM.1 (by simpa using k3)
     refine⟨by simpa using c4,y,hy,hy0,?_,?_,hto⟩
     ·simp at k1 k2;constructor
      ·exact k1
      ·intro hy2;rcases h.kind _ _ hm with hk|hk
       ·exact absurd hy2 (k2 aH)
       ·exact hk
     ·intro hh;rw[hh,e1] at hy; cases hy;rw[hy0] at hem; cases hem
def aaN{t:Tree}{dD:Int->Nat}(h:dS t dD 0)(f:Int)(s:Bytes)(to:Int)(nm:Bytes)(hs:fU nm=true->Nm nm):∃dep',dS (wP t f s to nm).1 dep' 0:=by
 rcases PS h f s to nm with ⟨h1,_⟩|⟨h1,_⟩|⟨dF,dT,m,e,k,_,_,hk⟩
 ·rw[h1]; exact⟨dD,h⟩
 ·rw[h1]; exact⟨dD,h⟩
 ·rw[hk]; exact h.mv hs k
def We:dS wK (fun _=>0) 0:=by
 have hf:∀i n,find wK.ae i=some n->i=1/\n=⟨1,2,0,[],[],1⟩:=by
  intro i n hi;obtain⟨h1,h2⟩:=cD hi;simp[wK] at h1;subst h1;exact⟨h2.symm,rfl⟩
 refine⟨⟨?_,?_⟩,⟨_,rfl,rfl,rfl⟩,?_,?_,?_,?_,?_,?_,?_,?_,rfl,?_,?_,by simp[wK],by simp[wK],by simp[wK]⟩
 ·simp[wK,oU]
 ·intro n hn; simp[wK] at hn; subst hn; exact List.Pairwise.nil
 ·intro i n hi; obtain⟨rfl,rfl⟩:=hf i n hi; simp[wK]
 ·intro i n hi; obtain⟨rfl,rfl⟩:=hf i n hi; simp
 ·intro i n hi; obtain⟨rfl,rfl⟩:=hf i n hi; simp
 ·intro i n hi; obtain⟨rfl,rfl⟩:=hf i n hi; simp
 ·intro i n e hi he; obtain⟨rfl,rfl⟩:=hf i n hi; cases he
 ·intro i n hi; obtain⟨rfl,rfl⟩:=hf i n hi; exact⟨List.Pairwise.nil,dy⟩
 ·intro i n hi; obtain⟨rfl,rfl⟩:=hf i n hi; simp[wK,uI,rn]
 ·intro i n hi _ h1; exact absurd (hf i n hi).1 h1
 ·intro i n hi _ h1; exact absurd (hf i n hi).1 h1
 ·intro i n hi; obtain⟨rfl,rfl⟩:=hf i n hi; simp
section
attribute [local irreducible] eX fM lu gK dX kr aq aU cr bJ
def zA:∀(d:Bytes),bytesOf (d.map pt)=some d
 | []=>rfl
 |b::d=>by
  rw[aE]
  show bJ (bytesOf (d.map pt)) (fun l=>some (UInt8.ofNat ((b.toNat:Int)).toNat::l))=some (b::d)
  rw[zA d,bN];simp
def apR(a b:Bytes):aq bW 112 [cR a,cR b] []=some (.bool (a==b),[]):=by
 refine aB ?_;simp only[ab8,aoA,zA,EN,seval]
def asl a b:=cP (apR a b)
def arX(x y:gI):decide (x=y)=(x.name==y.name&&(x.ar==y.ar&&(x.ak==y.ak&&true))):=by
 cases x; cases y;simp only[gI.mk.injEq,gA];rw[cE];simp
def RQ(x y:gI):kZ [.s,.i,.i] (gd x) (gd y)=some (decide (x=y)):=by
 rw[arX];simp only[gd,kZ,kB,bN,↓reduceIte]
def aiO(x:gI):(gd x).all ag.je=true:=rfl
def akK(a b:List gI)(ha:a.length<=100000):aq bW 113 [ja a,ja b] []=some (.bool (decide (a=b)),[]) :=
 DI (sz:=3) (e:=iE) (ld := .mN 3) (ne := .QG [.s,.i,.i] true) fz rfl ha (fun _=>rfl) (fun _=>rfl) (fun _=>rfl) (fun _ _ _ _ h=>by simp only[ef,fV.ev,h]; rfl) (fun _ _ _ _ _ _ h h'=>by simp only[ef,fV.ev,h,h',iE,RQ,bN])
def asm a b ha:=cP (akK a b ha)
def adM(x y:Node):decide (x=y)=(x.ar==y.ar&&(x.kind==y.kind&&(x.eE==y.eE&&(x.up==y.up&&(x.data==y.data&&decide (x.bc=y.bc)))))):=by
 cases x; cases y;simp only[Node.mk.injEq];rw[cE];simp only[bh,bw,eG];constructor
 ·rintro⟨h1,h2,h3,h4,h5,h6⟩; exact⟨h1,h2,h3,h6,h4,h5⟩
 ·rintro⟨h1,h2,h3,h6,h4,h5⟩; exact⟨h1,h2,h3,h4,h5,h6⟩
def apQ(x y:Node)(hx:x.bc.length<=100000):aq bW 111 [.agg (aL x),.agg (aL y)] []=some (.bool (decide (x=y)),[]):=by
 rw[adM];refine aB ?_;simp only[ab7,ain,bK,aL,EN,seval]
 repeat' ((first|apply bB|apply bU|apply dI)<;>intro hb<;>simp only[hb,EN,ain,asl,asm,hx,seval])
 all_goals simp_all only[qv,↓reduceIte,reduceCtorEq,av]
def asj x y hx:=cP (apQ x y hx)
def apS(a b:List Node)(ha:a.length<=100000)(he:∀n,n∈a->n.bc.length<=100000):aq bW 114 [ba a,ba b,.func 111 []] []=some (.bool (decide (a=b)),[]) :=
 adF (sz:=6) (e:=aL) (z:=[aF 0,aF 0,aF 0,.slice .c0 [],.slice .c0 [],aF 0]) fz rfl ha (fun _=>rfl) rfl (fun _=>rfl) (fun _=>rfl) fun x y M h=>asj x y (he x h) M
def asn a b ha he:=cP (apS a b ha he)
def an8(x y:Tree):decide (x=y)=(x.next==y.next&&(x.ak==y.ak&&decide (x.ae=y.ae))):=by
 cases x; cases y;simp only[Tree.mk.injEq];rw[cE];simp only[bh,bw,eG];constructor
 ·rintro⟨h1,h2,h3⟩; exact⟨h2,h3,h1⟩
 ·rintro⟨h2,h3,h1⟩; exact⟨h1,h2,h3⟩
def c56(a b:Tree)(ha:Small a):aq bW 56 [bq a,bq b] []=some (.bool (decide (a=b)),[]):=by
 rw[an8];have h1:=ha.ae;have h2:=ha.bc;refine aB ?_;simp only[alN,E56,bq,aM,EN,seval]
 repeat' ((first|apply bB|apply bU|apply dI)<;>intro hb<;>simp only[hb,EN,E56,asn _ _ h1 h2,seval])
 all_goals simp_all only[qv,↓reduceIte,reduceCtorEq,av]
def dS.jv{t:Tree}{dD:Int->Nat}{x:Int}(h:dS t dD x):∀m,m∈t.ae->m.ar<t.next:=fun m hm=>(h.num _ _ ((ic h.lK.mo).2 ⟨hm,rfl⟩)).2
end
def dS.ER{t:Tree}{dD:Int->Nat}{x:Int}(h:dS t dD x){i:Int}{n:Node}(hi:find t.ae i=some n)(hk:n.kind=2):sq t.ae i=dD i:=by
 simp only[sq,h.uw hi hk]; omega
def dS.Qt{t:Tree}{dD:Int->Nat}{x:Int}(h:dS t dD x)(of:Int):∀(m:Nat)(i:Int)(out:List Int)(n:Node),find t.ae i=some n->n.kind=2->dD i<=m->out.contains i=true->(uv t.ae m i out).contains of=(out.contains of||nj t.ae of (m+1) i):=by
 intro m;induction m with
 |zero =>
  intro i out n hi hk hd ho;simp only[uv,nj]
  by_cases h1:i=of
  ·subst h1; rw[ho]; rfl
  ·simp[h1]
 |succ m ih =>
  intro i out n hi hk hd ho;simp only[uv];rw[nj]
  by_cases h1:i=1
  ·by_cases h2:i=of
   ·subst h2; simp[h1] at ho ⊢; exact ho
   ·simp[h1,h2];intro h3; exact absurd (h1.trans h3) h2
  ·obtain⟨a,p,b,c⟩:=h.qF _ _ hi hk h1;simp only[o6,ne_eq,h1,not_false_eq_true,↓reduceIte,bl,hi,bX,dQ,bA,hk,av,fG,af];rw[ih _ _ p b c aH dy,h.XH hi]
   by_cases h2:i=of
   ·subst h2;have:(out++[n.up]).contains i=true:=by simp at ho ⊢; exact .inl ho
    rw[this,ho]; simp
   ·rw[aR h2]
    by_cases h3:n.up=of
    ·have:nj t.ae of (m+1) n.up=true:=by simp[nj,h3]
     rw[this]; simp
    ·have:(out++[n.up]).contains of=out.contains of:=by
      simp;intro hh; exact absurd hh.symm h3
     rw[this]
def dS.yD{t:Tree}{dD:Int->Nat}{x:Int}(h:dS t dD x)(of:Int){i:Int}{n:Node}(hi:find t.ae i=some n)(hk:n.kind=2):(uD t.ae i).contains of=iJ t.ae i of:=by
 have:=h.Qt of t.ae.length i [i] n hi hk (by have:=h.Du hi hk; omega) dy
 simp only[uD,this,iJ]
 by_cases h2:i=of
 ·subst h2; simp[nj]
 ·have:([i]:List Int).contains of=false:=by simp; exact fun hh=>h2 hh.symm
  rw[this]; rfl
def dS.under{t:Tree}{dD:Int->Nat}(h:dS t dD 0){to:Int}{nm:Bytes}{dT:Node}(hT:find t.ae to=some dT):(mu t.ae dT.bc nm).ar=jf dT.bc nm:=by
 unfold mu jf;cases he:gq dT.bc nm with
 |none=>rfl
 |some e =>
  obtain⟨_,_,_,_,m,hm,_⟩:=h.CF _ _ e hT (jZ he).1;simp[bl,hm,(cD hm).2]
def V7{t:Tree}{dD:Int->Nat}(h:dS t dD 0)(dir:Int)(s:Bytes):pc t dir s=oW t dir s:=by
 unfold pc oW
 by_cases h0:(gV t.ae dir).2=0
 ·obtain⟨d,d1,d2,d3⟩:=yV h0
  have hf:DG t d=(decide ((64:Int)<=d.bc.length)||(decide ((12:Int)<=sq t.ae dir)||decide ((1099511627776:Int)<=t.ak))):=by
   unfold DG;rw[(cD d1).2,h.p7 d1 d2,h.ER d1 d2]
  simp only[d3,hf,av,af,↓reduceIte,ne_eq,ng];cases fU s<;>simp
 ·rw[aZ (by simpa using h0),aZ h0]
def Yi{t:Tree}{dD:Int->Nat}(h:dS t dD 0)(dir:Int)(s:Bytes)(kind:Int):KC t dir s kind=rU t dir s kind:=by
 unfold KC rU;rw[V7 h]
def aha{t:Tree}{dD:Int->Nat}(h:dS t dD 0)(ar dir:Int)(s:Bytes):lnW t ar dir s=CK t ar dir s:=by
 unfold lnW CK;rw[V7 h]
def Cx{ae:List Node}{x:Int}{m:Node}(hx:find ae x=some m):kK ae m=fm ae x:=by
 unfold kK fm;simp only[bl,hx,bA,(cD hx).2]
def ah5{t:Tree}{dD:Int->Nat}(h:dS t dD 0)(dir:Int)(s:Bytes):unW t dir s=BN t dir s:=by
 unfold unW BN;split
 ·rfl
 ·rename_i hl;obtain⟨d,e,d1,d2,d3,d4,d5⟩:=look_ok (by simpa using hl)
  simp only[d5];obtain⟨_,_,_,_,m,hm,_⟩:=h.CF _ _ e d1 (jZ d4).1
  have hm':find (dx t.ae dir s) e.ar=some m:=by
   rw[kP h.lK.mo d1,aR (h.xb d1 (jZ d4).1)]; exact hm
  have hn:bl t.ae e.ar=m:=by simp[bl,hm]
  rw[hn,Cx hm']
def FT(ae:List Node)(ar at' d:Int)(b:Int):∀(l:List Node)(dC:Int),b<wc ae ar at' d l dC->b<dC\/∃n,n∈l/\(n.kind==2&&iJ ae n.ar ar)=true/\b<u7 ae at' d n
 | [],dC,h => .inl h
 |m::l,dC,h=>by
  rw[wc] at h;rcases FT ae ar at' d b l _ h with h1|⟨n,h1,h2,h3⟩
  ·have e:sC ae ar at' d m dC=if m.kind==2&&iJ ae m.ar ar then (if u7 ae at' d m>dC then u7 ae at' d m else dC) else dC:=rfl
   rw[e] at h1;split at h1
   ·rename_i hb;split at h1
    ·exact .inr ⟨m,bD,hb,h1⟩
    ·exact .inl h1
   ·exact .inl h1
  ·exact .inr ⟨n,bt _ h1,h2,h3⟩
def dS.YE{t:Tree}{dD:Int->Nat}(h:dS t dD 0){x to:Int}{m:Node}(hx:find t.ae x=some m)(hk:m.kind=2)(hd:dD to<12) :
  IB t.ae x (((dD to+1:Nat):Int))=decide ((12:Int)<B9 t.ae x (((dD to+1:Nat):Int))):=by
 have key:∀n,n∈t.ae->uY t.ae (((dD to+1:Nat):Int)) ((dD x:Nat):Int) x n=((n.kind==2&&iJ t.ae n.ar x)&&decide ((12:Int)<u7 t.ae (((dD to+1:Nat):Int)) ((dD x:Nat):Int) n)):=by
  intro n hn;have hi:find t.ae n.ar=some n:=(ic h.lK.mo).2 ⟨hn,rfl⟩;unfold uY
  by_cases hk2:n.kind=2
  ·rw[h.yD x hi hk2,h.uw hi hk2]
   by_cases hb:iJ t.ae n.ar x=true
   ·rw[h.FR hx hk hd hi hk2 hb];have d1:=(h.deep _ _ hi hk2).1;have d2:=(h.deep _ _ hx hk).1;have d3:=h.AK _ _ n hi hk2 rfl hb;have w1:nw ((((dD to+1:Nat):Int))+((dD n.ar+1:Nat):Int))=(((dD to+1:Nat):Int))+((dD n.ar+1:Nat):Int):=gv aH aH;have w2:nw ((((dD to+1:Nat):Int))+((dD n.ar+1:Nat):Int)-1)=(((dD to+1:Nat):Int))+((dD n.ar+1:Nat):Int)-1:=gv aH aH;have w3:nw ((((dD to+1:Nat):Int))+((dD n.ar+1:Nat):Int)-1-(dD x:Nat))=(((dD to+1:Nat):Int))+((dD n.ar+1:Nat):Int)-1-(dD x:Nat):=gv aH aH;rw[w1,w2,w3];unfold rH;rw[aZ hb,hb];simp only[hk2,lV,dZ];rw[cE];simp only[cW,bw,bh,eG];split<;>omega
   ·have:iJ t.ae n.ar x=false:=by simpa using hb
    simp[this]
  ·have:(n.kind==2)=false:=by simpa using hk2
   simp[this]
 have hdx:(sq t.ae x:Int)=((dD x:Nat):Int):=by rw[h.ER hx hk]
 unfold IB B9;rw[h.p7 hx hk,hdx];rw[cE];simp only[km,bh];constructor
 ·rintro⟨n,hn,hp⟩;rw[key n hn] at hp;simp only[bw,bh] at hp;have:=(Ba t.ae x (((dD to+1:Nat):Int)) ((dD x:Nat):Int) t.ae 0).2 n hn (by simp[hp.1.1,hp.1.2])
  omega
 ·intro hh;rcases FT t.ae x _ _ 12 t.ae 0 hh with h1|⟨n,h1,h2,h3⟩
  ·omega
  ·exact⟨n,h1,by rw[key n h1,h2]; simpa using h3⟩
def ahh{t:Tree}{dD:Int->Nat}(h:dS t dD 0)(f:Int)(s:Bytes)(to:Int)(nm:Bytes):ND t f s to nm=wP t f s to nm:=by
 unfold ND wP;split
 ·rfl
 rename_i c1;split
 ·rfl
 rename_i c2;split
 ·rfl
 obtain⟨dF,e,e1,e2,e3,e4,e5⟩:=look_ok (by simpa using c1)
 obtain⟨dT,g1,g2,g3⟩:=yV (show(gV t.ae to).2=0 by simpa using c2)
 have hem:=(jZ e4).1;obtain⟨_,_,x1,_,m,hm,hup⟩:=h.CF _ _ e e1 hem;have hnode:bl t.ae e.ar=m:=by simp[bl,hm]
 simp only[e5,g3,hnode,h.under g1,h.yD e.ar g1 g2];split
 ·rfl
 rename_i c4;split
 ·rfl
 rename_i c5;have hup':jf dT.bc nm≠e.ar:=by simpa using c4
 have hnf:=h.xb e1 hem
 have hne:e.ar≠to:=fun hh=>by
  rw[hh,g1] at hm; cases hm;simp only[g2,lV,dZ] at c5;rw[hh,dS.oN] at c5;exact c5 rfl
 have hmany:∀there:Bool,(jf dT.bc nm==0) = !there->D7 t f to dT.bc there m.kind e.ar=manyN t f to dT.bc m.kind (jf dT.bc nm) e.ar:=by
  intro there hth;unfold D7 manyN;rw[hth,h.uw g1 g2,h.p7 g1 g2]
  by_cases hd:dD to<12
  ·have hw:nw (((dD to:Nat):Int)+1)=((dD to+1:Nat):Int):=by
    rw[show(((dD to:Nat):Int)+1)=((dD to+1:Nat):Int) by omega]
    exact gv aH aH
   rw[hw]
   have hdd:decide ((12:Int)<((dD to+1:Nat):Int))=decide ((12:Int)<=((dD to:Nat):Int)):=by
    rw[decide_eq_decide]; omega
   rw[hdd];rcases h.kind _ _ hm with hk|hk
   ·simp[hk]
   ·rw[h.YE hm hk hd]
  ·have h1:decide ((12:Int)<((dD to+1:Nat):Int))=true:=by rw[bh]; omega
   have h2:decide ((12:Int)<=((dD to:Nat):Int))=true:=by rw[bh]; omega
   rw[h1,h2]; simp
 cases hfr:gq dT.bc nm with
 |none =>
  have hu:jf dT.bc nm=0:=by simp[jf,hfr]
  have hm1:=hmany false (by rw[hu]; rfl)
  rw[hu] at hm1 ⊢;have hcl:uX t.ae m.kind 0=0:=by simp[uX,h.zero]
  simp only[dg,dW,af,↓reduceIte,hcl,av,hm1];split
  ·rfl
  ·unfold yB tc;simp only[hnode,af,↓reduceIte,av]
 |some e2 =>
  have hu:jf dT.bc nm=e2.ar:=by simp[jf,hfr]
  obtain⟨_,_,_,_,y,hy,_⟩:=h.CF _ _ e2 g1 (jZ hfr).1;have hny:bl t.ae e2.ar=y:=by simp[bl,hy]
  have hto:=h.xb g1 (jZ hfr).1;have hy0:=(h.num _ _ hy).1;have hm1:=hmany true (by rw[hu]; simp; omega)
  have hnu:mu t.ae dT.bc nm=y:=by simp[mu,hfr,hny]
  rw[hu] at hm1 ⊢
  have hcl:uX t.ae m.kind e2.ar=Ac m y:=by
   unfold uX Ac;simp only[hy,bX,dQ,af,↓reduceIte,hny]
  rw[hnu,hcl];simp only[bX,dZ,hm1];split
  ·rfl
  rename_i c6;split
  ·rfl
  have hy00:y.bc=[]:=by
   have:Ac m y=0:=by simpa using c6
   unfold Ac at this;split at this
   ·cases this
   split at this
   ·cases this
   split at this
   ·cases this
   ·rename_i k3; exact dM.1 (by simpa using k3)
  have hnf2:e2.ar≠f:=fun hh=>by
   rw[hh,e1] at hy; cases hy;rw[hy00] at hem; cases hem
  have hyl:find (dx (dx t.ae f s) to nm) e2.ar=some y:=by
   have f1:=kP h.lK.mo e1 (s:=s);obtain⟨dT',hT'⟩:∃dT',find (dx t.ae f s) to=some dT':=by rw[f1]; split<;>simp_all
   rw[kP (sb h.lK.mo f s) hT',aR hto,f1,aR hnf2];exact hy
  have hb:(e2.ar != 0)=true:=gh;unfold yB tc;simp only[hnode,↓reduceIte,hb,Cx hyl]
section
attribute [local irreducible] eX fM lu gK dX kr aq aU cr bJ
def aq3(e:gI)(z:Int):aq bW 206 [iE e,ct 0] [cu [aF z]]=some (.bool (decide (e.ak<z)),[cu [aF z]]):=by
 refine aB ?_;simp only[acZ,aoQ,iE,gd,EN,seval]
def asP(e:gI)(z:Int)(p:Nat)(M:aC)(hM:nth M p=some (cu [aF z])):aU (aq bW) 206 [.agg (gd e),ct p] M=some (.bool (decide (e.ak<z)),M) :=
 uG (p:=p) (vs:=[.agg (gd e)]) hM (aq3 e z) rfl rfl rfl rfl rfl rfl rfl rfl rfl
def qW(z:Int)(l:List gI):List gI:=l.filter fun e => !decide (e.ak<z)
def Mu:gI:=⟨[],0,0⟩
abbrev W7(m:Nat):ag:=Ds 3 m
def akT(xs:List gI)(z:Int)(hn:xs.length<=100000)(h0:xs≠[]):aq bW 204 [.cv 0 0 3 0 xs.length,.func 206 [ct 1]] [.arr 3 0 (xs.map iE),cu [aF z]] =
  some (W7 (qW z xs).length,[.arr 3 0 ((qW z xs++List.replicate (xs.length-(qW z xs).length) Mu).map iE),cu [aF z]]) :=
 adE (sz:=3) (z:=[.str [],aF 0,aF 0]) (zc:=[.str [],aF 0,aF 0]) (gi:=166) (e:=gd) (zx:=Mu) (p:=fun e=>decide (e.ak<z)) fz rfl fz rfl rfl hn (fun _=>rfl) rfl mi (fun _=>rfl) (fun _=>rfl) (fun _=>rfl) ⟨fun _ _=>rfl,rfl,fun _=>rfl,rfl⟩ (fun e _ _=>asP e z 1 _ rfl) h0
end
structure fD where
 bF:Int
 handle:Int
 ar:Int
 deriving DecidableEq,Inhabited
structure dN where
 ar:Int
 ae:Int
 bytes:Int
 deriving DecidableEq,Inhabited
structure po where
 kv:Int
 BK:Int
 node:Node
 deriving DecidableEq,Inhabited
structure mT where
 id:Int
 ar:Int
 at':Int
 deriving DecidableEq,Inhabited
structure iL where
 now:Tree
 tick:Int
 since:List Int
 eR:List po
 dP:List mT
 next:Int
 deriving DecidableEq,Inhabited
structure aa where
 s:iL
 holds:List fD
 dR:List dN
 deriving DecidableEq,Inhabited
structure jA where
 kind:Int
 bF:Int
 dG:Bytes
 vd:Bytes
 n:Int
 m:Int
 handle:Int
 data:Bytes
 deriving DecidableEq,Inhabited
structure vR where
 err:Int
 ar:Int
 kind:Int
 n:Int
 m:Int
 names:List Bytes
 data:Bytes
 deriving DecidableEq,Inhabited
structure Ky where
 bF:Int
 seq:Int
 ku:vR
 deriving DecidableEq,Inhabited
def jb(h:fD):List ag:=[.int .i64 h.bF,.int .i64 h.handle,.int .i64 h.ar]
def ib(h:fD):ag := .agg (jb h)
abbrev fI(l:List fD):ag := .slice .sh (l.map ib)
def iT(q:dN):List ag:=[.int .i64 q.ar,.int .i64 q.ae,.int .i64 q.bytes]
def gx(q:dN):ag := .agg (iT q)
abbrev cK(l:List dN):ag := .slice .sh (l.map gx)
def mL(p:po):List ag := .int .i64 p.kv :: .int .i64 p.BK::aL p.node
def lX(p:po):ag := .agg (mL p)
abbrev r8(l:List po):ag := .slice .sh (l.map lX)
def iB(s:mT):List ag:=[.int .i64 s.id,.int .i64 s.ar,.int .i64 s.at']
def kS(s:mT):ag := .agg (iB s)
abbrev ki(l:List mT):ag := .slice .sh (l.map kS)
abbrev tX(l:List Int):ag := .slice .sh (l.map mU)
abbrev cZ(l:List Bytes):ag := .slice .sh (l.map ag.str)
def bL(s:iL):List ag:=[ba s.now.ae,.int .i64 s.now.next,.int .i64 s.now.ak,.int .i64 s.tick,tX s.since,r8 s.eR,ki s.dP,.int .i64 s.next]
def qP(s:iL):ag := .agg (bL s)
def cm(f:aa):List ag:=[ba f.s.now.ae,.int .i64 f.s.now.next,.int .i64 f.s.now.ak,.int .i64 f.s.tick,tX f.s.since,r8 f.s.eR,ki f.s.dP,.int .i64 f.s.next,fI f.holds,cK f.dR]
def O6(f:aa):ag := .agg (cm f)
def eS(o:jA):List ag:=[.int .i64 o.kind,.int .i64 o.bF,.str o.dG,.str o.vd,.int .i64 o.n,.int .i64 o.m,.int .i64 o.handle,cR o.data]
def XQ(o:jA):ag := .agg (eS o)
def dw(a:vR):List ag:=[.int .i64 a.err,.int .i64 a.ar,.int .i64 a.kind,.int .i64 a.n,.int .i64 a.m,cZ a.names,cR a.data]
def Lg(a:vR):ag := .agg (dw a)
def yW(s:Ky):List ag := .int .i64 s.bF :: .int .i64 s.seq::dw s.ku
def RN(s:Ky):ag := .agg (yW s)
def Iq(n:fD):(ib n).cells=jb n:=rfl
def G3(n:dN):(gx n).cells=iT n:=rfl
def It(n:po):(lX n).cells=mL n:=rfl
def Iv(n:mT):(kS n).cells=iB n:=rfl
def Iu(n:Ky):(RN n).cells=yW n:=rfl
def LO(n:fD):(jb n).length=3:=rfl
def Jw(n:dN):(iT n).length=3:=rfl
def LQ(n:po):(mL n).length=8:=rfl
def LU(n:mT):(iB n).length=3:=rfl
def LS(n:Ky):(yW n).length=9:=rfl
def pk{α:Type}(f:α->ag)(k:Nat)(h:∀a,(f a).cells.length=k)(l:List α):wid (l.map f) k=True:=by
 simp only[fH,iZ];intro x hx;obtain⟨n,_,rfl⟩:=eJ.1 hx;exact h n
def Qx(l:List fD):wid (l.map ib) 3=True:=pk ib _ (fun _=>rfl) l
def Ms(l:List dN):wid (l.map gx) 3=True:=pk gx _ (fun _=>rfl) l
def Qy(l:List po):wid (l.map lX) 8=True:=pk lX _ (fun _=>rfl) l
def QA(l:List mT):wid (l.map kS) 3=True:=pk kS _ (fun _=>rfl) l
def Qz(l:List Ky):wid (l.map RN) 9=True:=pk RN _ (fun _=>rfl) l
def XL(l:List Bytes):wid (l.map ag.str) 1=True:=pk ag.str _ (fun _=>rfl) l
def tkH(n:fD):List.take 3 (jb n)=jb n:=rfl
def shH(n:fD):List.map ag.shut (jb n)=jb n:=rfl
def tkQ(n:dN):List.take 3 (iT n)=iT n:=rfl
def shQ(n:dN):List.map ag.shut (iT n)=iT n:=rfl
def tkP(n:po):List.take 8 (mL n)=mL n:=rfl
def shP(n:po):List.map ag.shut (mL n)=mL n:=rfl
def tkS(n:mT):List.take 3 (iB n)=iB n:=rfl
def shS(n:mT):List.map ag.shut (iB n)=iB n:=rfl
def tkU(n:Ky):List.take 9 (yW n)=yW n:=rfl
def shU(n:Ky):List.map ag.shut (yW n)=yW n:=rfl
def ak4:((2:Nat):Int)=2:=rfl
def ah0:Int.toNat 0=0:=rfl
def ah1:Int.toNat 1=1:=rfl
def arY(a b c d:Int):kZ [FK.i,FK.i] [aF a,aF b] [aF c,aF d]=some (a==c&&b==d):=by
 simp[kZ,kB]
def YL(a b c a' b' c':Int):kZ [FK.i,FK.i,FK.i] [aF a,aF b,aF c] [aF a',aF b',aF c']=some (a==a'&&(b==b'&&c==c')):=by
 simp[kZ,kB]
set_option linter.defProp false in
def EVF:=bQ @arY (bQ @YL (bQ @gk.{0} (bQ @cS.{0} (bQ @ak4 (bQ @ah0 (bQ @ah1 (bQ @jG (bQ @fL (bQ @Iq (bQ @G3 (bQ @It (bQ @Iv (bQ @Iu (bQ @LO (bQ @Jw (bQ @LQ (bQ @LU (bQ @LS (bQ @Qx (bQ @Ms (bQ @Qy (bQ @QA (bQ @Qz (bQ @XL (bQ @tkH (bQ @shH (bQ @tkQ (bQ @shQ (bQ @tkP (bQ @shP (bQ @tkS (bQ @shS (bQ @tkU (bQ @shU (bQ @tkN (bQ @shN (bQ @tkE (@shE))))))))))))))))))))))))))))))))))))))
set_option linter.defProp false in
def EW:=And.intro EVF EN
section
attribute [local irreducible] eX fM lu gK dX kr aq aU cr bJ
def arG(h:fD):aq bW 258 [.agg (jb h)] []=some (.agg [aF h.bF,aF h.handle],[]):=by
 refine aB ?_;simp only[adt,ao7,ib,jb,EW,seval]
def amL h:=cP (arG h)
def gQ(n:Node):Bool:=n.kind==1&&n.eE==0
def aq8(n:Node):aq bW 213 [.agg (aL n)] []=some (.bool (gQ n),[]):=by
 refine aB ?_;simp only[ac4,aiA,bK,aL,EW,seval]
 repeat' ((first|apply bB|apply bU|apply dI)<;>intro hb<;>simp only[hb,EW,aiA,seval])
 all_goals (simp_all only[gQ,qv,↓reduceIte,reduceCtorEq,av]; done)
def afJ n:=cP (aq8 n)
def zY(c h:Int):Bool:=decide (0<=c)&&decide (c<16)&&decide (0<=h)&&decide (h<100)
def aq5(c h:Int):aq bW 210 [.agg [aF c,aF h]] []=some (.bool (zY c h),[]):=by
 refine aB ?_;simp only[ac1,aiz,EW,seval]
 repeat' ((first|apply bB|apply bU|apply dI)<;>intro hb<;>simp only[hb,EW,aiz,seval])
 all_goals (simp_all only[zY,qv,↓reduceIte,reduceCtorEq,av]; done)
def asR c h:=cP (aq5 c h)
def orI(a b:Int):Int:=if a != 0 then a else b
def at3(a b:Int)(ha:(a != 0)=false):orI a b=b:=by simp[orI,ha]
def arH(a b:Int):aq bW 259 [gS [aF a,aF b]] []=some (aF (orI a b),[]):=by
 refine aB ?_;simp only[Su,HX,EW,seval];rw[bG];simp only[Su,HX,EW,seval];refine bB (fun hb=>?_) (fun hb=>?_)
 ·simp only[HX,hb,orI,EW,seval]
 ·have w1:IntKind.i64.wrap 1=1:=gv mi mi;have w2:IntKind.i64.wrap 2=2:=gv mi mi;simp only[HX,hb,at3 a b hb,w1,EW,seval];rw[bG];simp only[HX,EW,seval];refine bB (fun hc=>?_) (fun hc=>?_)
  ·simp only[HX,hc,EW,seval]
  ·simp only[HX,hc,w2,EW,seval];rw[bG];simp only[HX,EW,seval];have:b=0:=by simpa using hc
   rw[this]
def as6 a b:=cP (arH a b)
def ig(x:fD)(c h:Int):Int:=orI (qO x.bF c) (qO x.handle h)
def aq7(c h a b:Int)(x:fD):aq bW 212 [.agg [aF c,aF h],.agg (jb x),.agg [aF a,aF b]] []=some (aF (ig x c h),[]):=by
 refine aB ?_;simp only[ac3,aoR,ib,amL,Zf,as6,ig,EW,seval]
def amE c h a b x:=cP (aq7 c h a b x)
def sQ(c h:Int)(x:fD):Bool:=x.bF==c&&x.handle==h
def aq9(c h:Int)(x:fD):aq bW 217 [.agg [aF c,aF h],.agg (jb x)] []=some (.bool (sQ c h x),[]):=by
 refine aB ?_;simp only[ac5,aoS,ib,amL,sQ,EW,seval]
def asT c h x:=cP (aq9 c h x)
end
section
theorem x6{α:Type}(p:α->Bool):∀(l:List α)(i:Nat),(qA p l i = -1/\l.find? p=none)\/∃(m:Nat) (x:α),qA p l i=((i+m:Nat):Int)/\l[m]?=some x/\l.find? p=some x/\l.eraseIdx m=l.eraseP p
 | [],i => .inl ⟨rfl,rfl⟩
 |x::r,i=>by
  rw[qA]
  by_cases h:p x=true
  ·grind
  ·rcases x6 p r (i+1) with ⟨h1,h2⟩|⟨m,y,h1,h2,h3,h4⟩
   ·exact .inl ⟨by simp[h,h1],by simp[h,h2]⟩
   ·grind
def ml{α:Type}(lt:α->Bool)(l:List α):Nat:=(l.takeWhile lt).length
theorem Hr{α:Type}{lt:α->Bool}:∀ {l:List α},l.Pairwise (fun a b=>lt b=true->lt a=true)->XO lt l (ml lt l)
 | [],_=>⟨au _,fun h n hn=>by simp_all⟩
 |a::r,h=>by
  obtain⟨h1,h2⟩:=df.1 h;obtain⟨i1,i2⟩:=Hr h2;unfold ml at i1 i2 ⊢
  by_cases ha:lt a=true
  ·rw[gN,aZ ha];refine⟨jK,fun k n hn=>?_⟩
   grind
  ·rw[gN,aR ha];refine⟨dy,fun k n hn=>?_⟩
   grind
def WM(z:Int):j4 [cu [aF z]] (iv [0]) [0]=some [cu [aF z]]:=rfl
def Mc(u v:Int):j4 [cu [aF u],cu [aF v]] (iv [0,1]) [0,1]=some [cu [aF u],cu [aF v]]:=rfl
attribute [local irreducible] eX fM lu gK dX kr aq aU cr bJ
def arI(x:fD)(z:Int):aq bW 262 [ib x,ct 0] [cu [aF z]]=some (.bool (x.ar==z),[cu [aF z]]):=by
 refine aB ?_;simp[adu,ao8,ib,jb,EW]
def aqQ(x:fD)(z:Int):aq bW 186 [ib x,ct 0] [cu [aF z]]=some (.bool (x.ar==z),[cu [aF z]]):=by
 refine aB ?_;simp[acL,aoI,ib,jb,EW]
def arN(q:dN)(ar:Int):aq bW 268 [gx q,aF ar] []=some (aF (qO q.ar ar),[]):=by
 refine aB ?_;simp[ady,apc,gx,iT,Zf,EW]
def as9(n:dN)(ar:Int)(M:aC):aU (aq bW) 268 [.agg (iT n),aF ar] M=some (aF (qO n.ar ar),M):=cO (arN n _) M
def arK(n:Node)(ar:Int):aq bW 264 [bK n,aF ar] []=some (aF (qO n.ar ar),[]):=by
 refine aB ?_;simp[adv,ao9,bK,aL,Zf,EW]
def as8(n:Node)(ar:Int)(M:aC):aU (aq bW) 264 [.agg (aL n),aF ar] M=some (aF (qO n.ar ar),M):=cO (arK n _) M
def zk(kv BK:Int)(x:mT):Bool:=decide (kv<=x.at')&&decide (x.at'<BK)
def arL(x:mT)(a b:Int):aq bW 266 [kS x,ct 0,ct 1] [cu [aF a],cu [aF b]]=some (.bool (zk a b x),[cu [aF a],cu [aF b]]):=by
 refine aB ?_;simp only[adx,apb,kS,iB,EW,seval]
 repeat' ((first|refine bB _ _|refine bU (fun hb=>?_) (fun hb=>?_)|refine dI _ _)<;>simp only[hb,EW,seval])
 all_goals (simp_all only[zk,qv]; done)
def akX(xs:List fD)(c g:Int)(hn:xs.length<=100000):aq bW 216 [gS (xs.map ib),.qX 217 [.agg [aF c,aF g]]] []=some (aF (qA (sQ c g) xs 0),[]) :=
 DJ (sz:=3) (e:=jb) fz rfl hn (fun _=>rfl) (fun _=>rfl) rfl rfl fun x _ => .inr ⟨_,_,rfl,asT c g x []⟩
def adJ(xs:List fD)(c g:Int)(hn:xs.length<=100000)(M:aC):aU (aq bW) 216 [gS (xs.map ib),.qX 217 [.agg [aF c,aF g]]] M=some (aF (qA (sQ c g) xs 0),M):=cO (akX _ c g hn) M
def akV(xs:List fD)(z:Int)(hn:xs.length<=100000):aq bW 216 [gS (xs.map ib),.func 262 [ct 0]] [cu [aF z]]=some (aF (qA (fun x:fD=>x.ar==z) xs 0),[cu [aF z]]) :=
 DJ (sz:=3) (e:=jb) fz rfl hn (fun _=>rfl) (fun _=>rfl) rfl rfl fun x _ => .inl ⟨_,_,rfl,uG (p:=0) (vs:=[.agg (jb x)]) rfl (arI x z) rfl rfl rfl rfl rfl rfl rfl rfl rfl⟩
def akP(xs:List fD)(z:Int)(hn:xs.length<=100000):aq bW 185 [gS (xs.map ib),.func 262 [ct 0]] [cu [aF z]]=some (.bool (xs.any (fun x:fD=>x.ar==z)),[cu [aF z]]):=by
 refine aB ?_;have hk:aU (aq bW) 216 [gS (xs.map ib),.func 262 [ct 0]] _=some (aF _,[cu [aF z]]):=lk (ids:=[0]) rfl rfl (WM z) rfl rfl (akV xs z hn) rfl rfl rfl rfl rfl;simp only[Sk,aiv,hk,xd,EW,seval]
def akW(xs:List fD)(z:Int)(hn:xs.length<=100000):aq bW 216 [gS (xs.map ib),.func 186 [ct 0]] [cu [aF z]]=some (aF (qA (fun x:fD=>x.ar==z) xs 0),[cu [aF z]]) :=
 DJ (sz:=3) (e:=jb) fz rfl hn (fun _=>rfl) (fun _=>rfl) rfl rfl fun x _ => .inl ⟨_,_,rfl,uG (p:=0) (vs:=[.agg (jb x)]) rfl (aqQ x z) rfl rfl rfl rfl rfl rfl rfl rfl rfl⟩
def akQ(xs:List fD)(z:Int)(hn:xs.length<=100000):aq bW 185 [gS (xs.map ib),.func 186 [ct 0]] [cu [aF z]]=some (.bool (xs.any (fun x:fD=>x.ar==z)),[cu [aF z]]):=by
 refine aB ?_;have hk:aU (aq bW) 216 [gS (xs.map ib),.func 186 [ct 0]] _=some (aF _,[cu [aF z]]):=lk (ids:=[0]) rfl rfl (WM z) rfl rfl (akW xs z hn) rfl rfl rfl rfl rfl;simp only[Sk,aiv,hk,xd,EW,seval]
def ak1(xs:List mT)(u v:Int)(hn:xs.length<=100000):aq bW 299 [gS (xs.map kS),.func 266 [ct 0,ct 1]] [cu [aF u],cu [aF v]]=some (aF (qA (zk u v) xs 0),[cu [aF u],cu [aF v]]) :=
 DJ (sz:=3) (e:=iB) fz rfl hn (fun _=>rfl) (fun _=>rfl) rfl rfl fun x _ => .inl ⟨_,_,rfl,lk (ids:=[0,1]) rfl rfl (Mc u v) rfl rfl (arL x u v) rfl rfl rfl rfl rfl⟩
def ak0(xs:List mT)(u v:Int)(hn:xs.length<=100000):aq bW 265 [gS (xs.map kS),.func 266 [ct 0,ct 1]] [cu [aF u],cu [aF v]]=some (.bool (xs.any (zk u v)),[cu [aF u],cu [aF v]]):=by
 refine aB ?_;have hk:aU (aq bW) 299 [gS (xs.map kS),.func 266 [ct 0,ct 1]] _=some (aF _,[cu [aF u],cu [aF v]]):=lk (ids:=[0,1]) rfl rfl (Mc u v) rfl rfl (ak1 xs u v hn) rfl rfl rfl rfl rfl;simp only[adw,apa,hk,xd,EW,seval]
def arM(xs:List dN)(ar:Int)(b:Nat)(hb:XO (fun x=>decide (qO x.ar ar<0)) xs b)(hn:xs.length<=100000):aq bW 267 [gS (xs.map gx),aF ar,.func 268 []] []=some (.tuple [aF b,.bool (pg (fun x=>qO x.ar ar==0) xs b)],[]) :=
 Y6 (sz:=3) (e:=iT) fz rfl hb hn (fun _=>rfl) (fun _=>rfl) (.inl ⟨_,_,rfl⟩) rfl rfl rfl rfl rfl (fun _ _ => .inl ⟨_,_,rfl,as9 _ _ _⟩)
def akZ(xs:List Node)(ar:Int)(b:Nat)(hb:XO (fun x=>decide (qO x.ar ar<0)) xs b)(hn:xs.length<=100000):aq bW 263 [gS (xs.map bK),aF ar,.func 264 []] []=some (.tuple [aF b,.bool (pg (fun x=>qO x.ar ar==0) xs b)],[]) :=
 Y6 (sz:=6) (e:=aL) fz rfl hb hn (fun _=>rfl) (fun _=>rfl) (.inl ⟨_,_,rfl⟩) rfl rfl rfl rfl rfl (fun _ _ => .inl ⟨_,_,rfl,as8 _ _ _⟩)
def aar{xs:List fD}{c g:Int}{b:Nat}(hb:XO (fun x=>decide (ig x c g<0)) xs b)(hn:xs.length<=100000){k:List K}{r:Option (ag×aC)}
  (hx:∀v q,kr (aq bW) [.tmp 6,.tmp 7] 0 k ⟨.exit 0,[(0,gS (xs.map ib)),(2,.qX 212 [.agg [aF c,aF g]]),(4,ct 0),(8,aF xs.length),(9,aF b),(10,v),(17,q)],[cu [aF c,aF g]]⟩=r) :
  ∀(f i j:Nat),j-i<=f->i<=b->b<=j->j<=xs.length->eX (aq bW) [.tmp 6,.tmp 7] 0 k (.loop [0,2,4,8,9,10] Z0) [(0,gS (xs.map ib)),(2,.qX 212 [.agg [aF c,aF g]]),(4,ct 0),(8,aF xs.length),(9,aF i),(10,aF j)] [cu [aF c,aF g]]=r:=by
 intro f;induction f with
 |zero =>
  intro i j h1 h2 h3 h4;obtain rfl:i=b:=aH;rw[bG];have cG:((i:Int)<(j:Int))=False:=gh;simp only[HW,cG,EW,seval];exact hx _ _
 |succ f ih =>
  intro i j h1 h2 h3 h4;rw[bG]
  by_cases hij:i<j
  ·have cG:((i:Int)<(j:Int))=True:=gh;obtain⟨m1,m2,m3,m4,m5⟩:=Wc i j aH aH;have hmid:(i+j) / 2<xs.length:=aH;have hx:=ai hmid;have hl:=hb.lt _ _ hx;have hk:=fun x:fD=>amE c g c g x [cu [aF c,aF g]]
   simp only[HW,cG,m1,m2,m3,m4,hx,hk,EW,seval];refine bB (fun hq=>?_) (fun hq=>?_)
   ·simp only[HW,m5,EW,seval];exact ih ((i+j) / 2+1) j aH (hl.1 hq) h3 h4
   ·simp only[HW,EW,seval];exact ih i ((i+j) / 2) aH h2 (Nat.not_lt.1 fun h=>by rw[hl.2 h] at hq; cases hq) aH
  ·obtain rfl:i=b:=aH;have cG:((i:Int)<(j:Int))=False:=gh;simp only[HW,cG,EW,seval];exact hx _ _
def aq6(xs:List fD)(c g:Int)(b:Nat)(hb:XO (fun x=>decide (ig x c g<0)) xs b)(hn:xs.length<=100000):aq bW 211 [gS (xs.map ib),.agg [aF c,aF g],.qX 212 [.agg [aF c,aF g]]] []=some (.tuple [aF b,.bool (pg (fun x=>ig x c g==0) xs b)],[]):=by
 refine aB ?_;simp only[ac2,HW,EW,seval];refine aar hb hn (fun v q=>?_) xs.length 0 xs.length aH aH hb.le aH
 have hk:=fun x:fD=>amE c g c g x [cu [aF c,aF g]]
 unfold pg
 by_cases cG:b<xs.length
 ·have hx:=ai cG;have h1:((b:Int)<(xs.length:Int))=True:=gh;simp only[HW,hx,h1,hk,EW,seval]
 ·have hx:xs[b]?=none:=fX aH;have h1:((b:Int)<(xs.length:Int))=False:=gh;simp only[HW,hx,h1,EW,seval]
end
section
section
variable {α:Type} (enc:α->ag) {f sz bytes:Nat}
def CR(hp:bW.oS f=some (mQ sz bytes))(hw:∀a,(enc a).cells.length=sz)(hb:bytes<=1000){l:List α}(h0:l≠[])(hn:l.length<=100000)(M:aC) :
  aq bW f [gS (l.map enc)] M=some (.cv M.length 0 sz 0 l.length,M++[.arr sz 0 (l.map enc)]):=by
 refine fe (g:=mQ sz bytes) hp ?_;obtain⟨a,r,rfl⟩:=fj h0;have hw:wid ((a::r).map enc) sz:=by have:=pk enc sz hw (a::r); simpa using this
 have hr:cp ((a::r).map enc).length bytes:=by have:=sn (a:=(a::r).length) (b:=bytes) aH aH; simpa using this
 unfold mQ;simp only[aE] at hw hr ⊢;rw[fh ⟨hw,hr⟩];simp
def DH(hp:bW.oS f=some (mQ sz bytes)){l:List α}(h0:l=[])(M:aC):aq bW f [gS (l.map enc)] M=some (.slice .c0 [],M):=by
 subst h0; exact fe (g:=mQ sz bytes) hp rfl
def I9(hp:bW.oS f=some (lf sz bytes))(hb:bytes<=1000){l:List α}{b id v:Nat}(h:b<=l.length)(hn:l.length<=100000)(x:ag)(hx:x.cells.length=sz)(M:aC)(hM:nth M id=some (.arr sz v (l.map enc))) :
  aq bW f [.cv id v sz 0 l.length,aF b,gS [x]] M=some (.cv id (v+1) sz 0 (l.length+1),iP M id (.arr sz (v+1) ((l.map enc).take b++x::(l.map enc).drop b))):=by
 refine fe (g:=lf sz bytes) hp ?_;have hr:cp ((l.map enc).length+1) bytes:=by have:=sn (a:=l.length+1) (b:=bytes) aH aH; simpa using this
 unfold lf;simp only[hM];rw[fh ⟨trivial,trivial,trivial,dy,aH,by simpa using h,hx,hr⟩]
 simp
def FN(hp:bW.oS f=some (lf sz bytes)){b:Nat}(h0:b=0)(x:ag)(hx:x.cells.length=sz)(M:aC) :
  aq bW f [.slice .c0 [],aF (b:Int),gS [x]] M=some (.cv M.length 0 sz 0 1,M++[.arr sz 0 [x]]):=by
 subst h0;refine fe (g:=lf sz bytes) hp ?_;unfold lf;simp only[];rw[fh ⟨rfl,hx⟩]
def al4(hp:bW.oS f=some (lI sz)){l:List α}{b id v:Nat}(h:b<l.length)(hn:l.length<=100000)(M:aC)(hM:nth M id=some (.arr sz v (l.map enc))) :
  aq bW f [.cv id v sz 0 l.length,aF b,aF ((b+1:Nat):Int)] M=some (.cv id (v+1) sz 0 (l.length-1),iP M id (.arr sz (v+1) ((l.map enc).take b++(l.map enc).drop (b+1)))):=by
 refine fe (g:=lI sz) hp ?_;unfold lI;simp only[hM];rw[fh ⟨trivial,trivial,trivial,dy,aH,by simpa using h,aH,gh⟩]
 simp
def Qj{M:aC}(i:Nat)(a b:cI):iP (iP M i a) i b=iP M i b:=by
 induction M generalizing i with
 |nil=>rfl
 |cons x r ih =>
  cases i with
  |zero=>rfl
  |succ i=>simp only[iP,ih]
def YF{l:List α}{b:Nat}(h:b<l.length):List.take (l.length-1) ((l.map enc).take b++(l.map enc).drop (b+1))=(l.eraseIdx b).map enc:=by
 rw[bC gh,List.eraseIdx_eq_take_drop_succ];simp
def FM(hp:bW.oS f=some (sH sz)){l:List α}{b id v:Nat}(h:b<l.length)(hn:l.length<=100000)(M:aC)(hM:nth M id=some (.arr sz v (l.map enc))) :
  aq bW f [.cv id v sz 0 l.length,aF b,aF ((b+1:Nat):Int)] M=some (gS ((l.eraseIdx b).map enc),iP M id (.tick sz (l.length-1))):=by
 refine fe (g:=sH sz) hp ?_;unfold sH lI;simp only[hM];rw[fh ⟨trivial,trivial,trivial,dy,aH,by simpa using h,aH,gh⟩]
 simp only[bN,ag.ry,ag.oY,HG hM,ag.ids,ag.nD,ag.iG,qz,Qj,aJ,na,eL,dU];rw[YF enc h];have:(List.take b (l.map enc)++List.drop (b+1) (l.map enc)).length=l.length-1:=gh;rw[this]
def Nk{l:List α}{b:Nat}(h:b<=l.length)(x:α):List.take (l.length+1) ((l.map enc).take b++enc x::(l.map enc).drop b)=(l.take b++x::l.drop b).map enc:=by
 rw[bC gh];simp
end
attribute [local irreducible] eX fM lu gK dX kr aq aU cr bJ
def Fc(t:Tree)(ar:Int)(ht:Small t)(hr:rS t)(M:aC):aU (aq bW) 191 [.agg [ba t.ae,aF t.next,aF t.ak],aF ar] M=some (.tuple [.agg (aL (bl t.ae ar)),.bool (find t.ae ar).isSome],M) :=
 cO (aqU t ar ht hr) M
def amx(t:Tree)(ar:Int)(ht:Small t)(hr:rS t)(M:aC):aU (aq bW) 187 [.agg [ba t.ae,aF t.next,aF t.ak],aF ar] M=some (.tuple [.agg (aM (kJ t ar).1),aF (kJ t ar).2],M) :=
 cO (aqR t ar ht hr) M
end
end
end Go.Proofs.YteoamaffclmdbaaGreatDoor
