import Derived.Laws.RangeString
import Derived.RangeFuncBox
import Derived.RangeFuncFrom
import Derived.RangeFuncLeaves
import Derived.Shelf.Abstract
import Derived.WalkKit
import Derived.OwnWalkIn
import Derived.TacticsInMore
import Derived.LoopNIn
import Derived.LoopIn
import Derived.Maps.AppendAt
import Derived.RangeFuncNested
import Derived.Test.YteoamaffclmdbaaGreatDoorHwaC
set_option linter.unusedSimpArgs false
set_option linter.unusedVariables false
set_option linter.unusedSectionVars false
set_option linter.defProp false
open Go.Proofs.Tryz
namespace Go.Proofs.YteoamaffclmdbaaGreatDoor
open Go Go.Abs
def Ru:Nat->Option eH
 |251=>some adk
 |252=>some adl
 |253=>some adm
 |254=>some adn
 |257=>some ado
 |258=>some adp
 |259=>some Sm
 |262=>some adq
 |263=>some alm
 |264=>some adr
 |265=>some ads
 |266=>some adt
 |267=>some aln
 |268=>some adu
 |271=>some M6
 |273=>some alp
 |275=>some M7
 |278=>some adv
 |284=>some adw
 |285=>some adx
 |287=>some alq
 |299=>some alr
 |302=>some M8
 |325=>some I1
 |_=>none
def Rs:Nat->Option eH
 |164=>some acv
 |166=>some acw
 |167=>some acx
 |168=>some acy
 |169=>some acz
 |170=>some acA
 |171=>some acB
 |172=>some acC
 |173=>some MZ
 |174=>some M1
 |175=>some Sa
 |176=>some IY
 |177=>some IZ
 |178=>some acD
 |179=>some acE
 |180=>some acF
 |181=>some acG
 |182=>some Sb
 |183=>some Sc
 |184=>some Sd
 |185=>some Se
 |186=>some acH
 |187=>some acI
 |190=>some acJ
 |191=>some acK
 |192=>some acL
 |193=>some acM
 |194=>some acN
 |195=>some Sg
 |196=>some acO
 |197=>some acP
 |198=>some I0
 |199=>some acQ
 |200=>some Sh
 |201=>some acR
 |202=>some acS
 |203=>some acT
 |204=>some acU
 |206=>some acV
 |208=>some ald
 |209=>some acW
 |210=>some acX
 |211=>some acY
 |212=>some acZ
 |213=>some ac0
 |216=>some ale
 |217=>some ac1
 |219=>some ac2
 |221=>some ac3
 |222=>some ac4
 |223=>some ac5
 |224=>some ac6
 |225=>some ac7
 |226=>some ac8
 |230=>some Si
 |232=>some Sj
 |233=>some ac9
 |234=>some Sk
 |235=>some ada
 |236=>some M4
 |237=>some M5
 |238=>some adb
 |239=>some ade
 |240=>some adf
 |244=>some Sl
 |245=>some adg
 |246=>some adh
 |247=>some adi
 |249=>some ali
 |250=>some adj
 |f=>Ru f
def Rr:Nat->Option eH
 |85=>some Pe
 |86=>some alO
 |87=>some alP
 |88=>some alQ
 |93=>some afj
 |94=>some Sr
 |95=>some Pf
 |96=>some Ss
 |97=>some Lv
 |98=>some YX
 |99=>some afk
 |100=>some MO
 |101=>some RY
 |102=>some IT
 |103=>some yB
 |104=>some MP
 |105=>some IU
 |106=>some MQ
 |107=>some MR
 |108=>some RZ
 |109=>some ab1
 |110=>some ab2
 |111=>some ab3
 |112=>some ab4
 |113=>some ak7
 |114=>some ak8
 |116=>some MS
 |117=>some ab5
 |118=>some R0
 |119=>some R1
 |120=>some IV
 |121=>some ab6
 |122=>some R2
 |123=>some ab7
 |124=>some ab8
 |125=>some ab9
 |126=>some aca
 |127=>some acb
 |128=>some acd
 |129=>some ace
 |130=>some acf
 |131=>some acg
 |132=>some ach
 |133=>some aci
 |134=>some MT
 |135=>some MU
 |136=>some acj
 |137=>some ack
 |138=>some MV
 |139=>some IW
 |140=>some R3
 |141=>some R4
 |145=>some acm
 |146=>some acn
 |147=>some aco
 |148=>some R5
 |149=>some acp
 |150=>some acq
 |151=>some acr
 |152=>some acs
 |153=>some yC
 |154=>some R6
 |155=>some acu
 |156=>some R7
 |157=>some MW
 |158=>some R8
 |159=>some MX
 |161=>some MY
 |162=>some IX
 |163=>some R9
 |f=>Rs f
def code:Nat->Option eH
 |4=>some fn4
 |5=>some fn5
 |6=>some fn6
 |7=>some fn7
 |8=>some YW
 |9=>some fn9
 |10=>some ak6
 |11=>some afa
 |13=>some YT
 |15=>some afb
 |17=>some ak9
 |18=>some ala
 |19=>some alb
 |21=>some arW
 |22=>some alf
 |23=>some alg
 |24=>some alh
 |25=>some alj
 |26=>some alk
 |27=>some alo
 |28=>some uF
 |30=>some afc
 |32=>some als
 |33=>some alu
 |34=>some alv
 |35=>some alw
 |37=>some arX
 |38=>some alx
 |39=>some aly
 |40=>some alz
 |41=>some alA
 |42=>some alB
 |43=>some Hb
 |44=>some zP
 |45=>some CJ
 |46=>some Ls
 |47=>some Sn
 |48=>some YU
 |49=>some Pb
 |52=>some alC
 |53=>some alD
 |54=>some arY
 |55=>some alE
 |56=>some alF
 |57=>some arZ
 |58=>some ar0
 |59=>some ar1
 |60=>some ar2
 |61=>some ar3
 |62=>some ar4
 |63=>some ar5
 |66=>some alG
 |67=>some afe
 |68=>some alH
 |69=>some YV
 |70=>some alI
 |71=>some alJ
 |72=>some alK
 |73=>some alM
 |74=>some alN
 |75=>some aff
 |76=>some Hc
 |77=>some afg
 |78=>some E7
 |79=>some Lu
 |80=>some Pc
 |81=>some afh
 |82=>some Pd
 |83=>some afi
 |84=>some Sq
 |f=>Rr f
noncomputable def oY:Nat->Option (List ag->aC->Option (ag×aC))
 |207=>some (wL 3 2 208)
 |272=>some (wL 6 0 273)
 |276=>some (zm)
 |277=>some (JK)
 |286=>some (Ag)
 |205=>some (mU 3 32)
 |241=>some (mU 6 80)
 |215=>some (mU 3 24)
 |189=>some (mU 3 24)
 |220=>some (sm 8 96)
 |229=>some (sm 3 24)
 |160=>some (pCC 1 1)
 |283=>some (lN 6)
 |248=>some (lN 3)
 |218=>some (sJ 3)
 |227=>some (sJ 3)
 |242=>some (lj 6 80)
 |243=>some (lj 3 32)
 |214=>some (lj 3 24)
 |228=>some (lj 3 24)
 |_=>none
noncomputable def bW:zB:=⟨code,oY⟩
set_option maxRecDepth 100000 in
def tM{f:Nat}{c fn:eH}{func:Func}{A:Cz}(h:some c=some fn)(h1:Tryz.prog.funcs[f]?=some func)(h2:pg Tryz.prog A func=some c):∃ A func,Tryz.prog.funcs[f]?=some func/\pg Tryz.prog A func=some fn:=by
 cases h; exact⟨_,_,h1,h2⟩
def gy{f:Nat}{c fn:eH}{func:Func}(h:some c=some fn)(h1:Tryz.prog.funcs[f]?=some func)(h2:sO [] func c):∃ A func,Tryz.prog.funcs[f]?=some func/\pg Tryz.prog A func=some fn:=tM h h1 h2
def Rq(f:Nat)(fn:eH)(h:Ru f=some fn):∃A func,Tryz.prog.funcs[f]?=some func/\pg Tryz.prog A func=some fn:=by
 unfold Ru at h;split at h
 ·exact gy h func251 fp
 ·exact gy h func252 fp
 ·exact gy h func253 fp
 ·exact gy h func254 fp
 ·exact gy h func257 fp
 ·exact gy h func258 fp
 ·exact gy h func259 fp
 ·exact gy h func262 fp
 ·exact gy h func263 fp
 ·exact gy h func264 fp
 ·exact gy h func265 fp
 ·exact gy h func266 fp
 ·exact gy h func267 fp
 ·exact gy h func268 fp
 ·exact gy h func271 fp
 ·exact gy h func273 fp
 ·exact gy h func275 fp
 ·exact gy h func278 fp
 ·exact gy h func284 fp
 ·exact gy h func285 fp
 ·exact gy h func287 fp
 ·exact gy h func299 fp
 ·exact gy h func302 fp
 ·exact gy h func325 fp
 ·cases h
set_option maxRecDepth 100000 in
def Rp(f:Nat)(fn:eH)(h:Rs f=some fn):∃A func,Tryz.prog.funcs[f]?=some func/\pg Tryz.prog A func=some fn:=by
 unfold Rs at h;split at h
 ·exact gy h func164 fp
 ·exact gy h func166 fp
 ·exact gy h func167 fp
 ·exact gy h func168 fp
 ·exact gy h func169 fp
 ·exact gy h func170 fp
 ·exact gy h func171 fp
 ·exact gy h func172 fp
 ·exact gy h func173 fp
 ·exact gy h func174 fp
 ·exact tM h func175 anb
 ·exact tM h func176 anc
 ·exact tM h func177 ane
 ·exact gy h func178 fp
 ·exact gy h func179 fp
 ·exact gy h func180 fp
 ·exact gy h func181 fp
 ·exact tM h func182 anf
 ·exact tM h func183 ang
 ·exact tM h func184 anh
 ·exact gy h func185 fp
 ·exact gy h func186 fp
 ·exact gy h func187 fp
 ·exact gy h func190 fp
 ·exact gy h func191 fp
 ·exact gy h func192 fp
 ·exact gy h func193 fp
 ·exact gy h func194 fp
 ·exact tM h func195 anj
 ·exact gy h func196 fp
 ·exact gy h func197 fp
 ·exact gy h func198 fp
 ·exact gy h func199 fp
 ·exact tM h func200 ank
 ·exact gy h func201 fp
 ·exact gy h func202 fp
 ·exact gy h func203 fp
 ·exact gy h func204 fp
 ·exact gy h func206 fp
 ·exact gy h func208 fp
 ·exact gy h func209 fp
 ·exact gy h func210 fp
 ·exact gy h func211 fp
 ·exact gy h func212 fp
 ·exact gy h func213 fp
 ·exact gy h func216 fp
 ·exact gy h func217 fp
 ·exact gy h func219 fp
 ·exact gy h func221 fp
 ·exact gy h func222 fp
 ·exact gy h func223 fp
 ·exact gy h func224 fp
 ·exact gy h func225 fp
 ·exact gy h func226 fp
 ·exact tM h func230 anl
 ·exact tM h func232 anm
 ·exact gy h func233 fp
 ·exact tM h func234 ann
 ·exact gy h func235 fp
 ·exact gy h func236 fp
 ·exact gy h func237 fp
 ·exact gy h func238 fp
 ·exact gy h func239 fp
 ·exact gy h func240 fp
 ·exact tM h func244 ano
 ·exact gy h func245 fp
 ·exact gy h func246 fp
 ·exact gy h func247 fp
 ·exact gy h func249 fp
 ·exact gy h func250 fp
 ·exact Rq _ _ h
set_option maxRecDepth 100000 in
def Ro(f:Nat)(fn:eH)(h:Rr f=some fn):∃A func,Tryz.prog.funcs[f]?=some func/\pg Tryz.prog A func=some fn:=by
 unfold Rr at h;split at h
 ·exact tM h func85 atU
 ·exact gy h func86 fp
 ·exact gy h func87 fp
 ·exact gy h func88 fp
 ·exact gy h func93 fp
 ·exact gy h func94 fp
 ·exact gy h func95 fp
 ·exact gy h func96 fp
 ·exact gy h func97 fp
 ·exact gy h func98 fp
 ·exact gy h func99 fp
 ·exact gy h func100 fp
 ·exact gy h func101 fp
 ·exact gy h func102 fp
 ·exact tM h func103 amX
 ·exact gy h func104 fp
 ·exact gy h func105 fp
 ·exact gy h func106 fp
 ·exact gy h func107 fp
 ·exact gy h func108 fp
 ·exact gy h func109 fp
 ·exact gy h func110 fp
 ·exact gy h func111 fp
 ·exact gy h func112 fp
 ·exact gy h func113 fp
 ·exact gy h func114 fp
 ·exact gy h func116 fp
 ·exact gy h func117 fp
 ·exact tM h func118 amY
 ·exact tM h func119 amZ
 ·exact tM h func120 am0
 ·exact gy h func121 fp
 ·exact tM h func122 am1
 ·exact gy h func123 fp
 ·exact gy h func124 fp
 ·exact gy h func125 fp
 ·exact gy h func126 fp
 ·exact gy h func127 fp
 ·exact gy h func128 fp
 ·exact gy h func129 fp
 ·exact gy h func130 fp
 ·exact gy h func131 fp
 ·exact gy h func132 fp
 ·exact gy h func133 fp
 ·exact gy h func134 fp
 ·exact gy h func135 fp
 ·exact gy h func136 fp
 ·exact gy h func137 fp
 ·exact gy h func138 fp
 ·exact tM h func139 am2
 ·exact gy h func140 fp
 ·exact gy h func141 fp
 ·exact gy h func145 fp
 ·exact gy h func146 fp
 ·exact gy h func147 fp
 ·exact tM h func148 am3
 ·exact gy h func149 fp
 ·exact gy h func150 fp
 ·exact gy h func151 fp
 ·exact gy h func152 fp
 ·exact tM h func153 am4
 ·exact tM h func154 am5
 ·exact gy h func155 fp
 ·exact tM h func156 am6
 ·exact tM h func157 am7
 ·exact tM h func158 am8
 ·exact gy h func159 fp
 ·exact gy h func161 fp
 ·exact tM h func162 am9
 ·exact tM h func163 ana
 ·exact Rp _ _ h
set_option maxRecDepth 100000 in
def MH(f:Nat)(fn:eH)(h:code f=some fn):∃A func,Tryz.prog.funcs[f]?=some func/\pg Tryz.prog A func=some fn:=by
 unfold code at h;split at h
 ·exact tM h func4 ok4
 ·exact tM h func5 ok5
 ·exact tM h func6 ok6
 ·exact tM h func7 ok7
 ·exact tM h func8 ok8
 ·exact gy h func9 fp
 ·exact gy h func10 fp
 ·exact gy h func11 fp
 ·exact gy h func13 fp
 ·exact tM h func15 atA
 ·exact gy h func17 fp
 ·exact gy h func18 fp
 ·exact tM h func19 atB
 ·exact gy h func21 fp
 ·exact gy h func22 fp
 ·exact gy h func23 fp
 ·exact gy h func24 fp
 ·exact gy h func25 fp
 ·exact gy h func26 fp
 ·exact gy h func27 fp
 ·exact gy h func28 fp
 ·exact tM h func30 atD
 ·exact gy h func32 fp
 ·exact gy h func33 fp
 ·exact gy h func34 fp
 ·exact gy h func35 fp
 ·exact gy h func37 fp
 ·exact gy h func38 fp
 ·exact gy h func39 fp
 ·exact gy h func40 fp
 ·exact gy h func41 fp
 ·exact gy h func42 fp
 ·exact gy h func43 fp
 ·exact tM h func44 atF
 ·exact gy h func45 fp
 ·exact tM h func46 atG
 ·exact tM h func47 atH
 ·exact gy h func48 fp
 ·exact tM h func49 atJ
 ·exact gy h func52 fp
 ·exact gy h func53 fp
 ·exact gy h func54 fp
 ·exact gy h func55 fp
 ·exact gy h func56 fp
 ·exact gy h func57 fp
 ·exact gy h func58 fp
 ·exact gy h func59 fp
 ·exact gy h func60 fp
 ·exact gy h func61 fp
 ·exact gy h func62 fp
 ·exact gy h func63 fp
 ·exact gy h func66 fp
 ·exact gy h func67 fp
 ·exact gy h func68 fp
 ·exact gy h func69 fp
 ·exact gy h func70 fp
 ·exact gy h func71 fp
 ·exact gy h func72 fp
 ·exact gy h func73 fp
 ·exact gy h func74 fp
 ·exact gy h func75 fp
 ·exact tM h func76 atK
 ·exact tM h func77 atL
 ·exact tM h func78 atM
 ·exact tM h func79 atO
 ·exact tM h func80 atP
 ·exact gy h func81 fp
 ·exact tM h func82 atQ
 ·exact tM h func83 atS
 ·exact tM h func84 atT
 ·exact Ro _ _ h
def NH(f:Nat)(g:List ag->aC->Option (ag×aC))(h:oY f=some g)(args:List ag)(M:aC)(x:ag×aC)(hx:g args M=some x):lL Tryz.prog f=true/\dh Tryz.prog f args M x:=by
 unfold oY at h;split at h
 ·cases h; exact⟨fy,Xi hx⟩
 ·cases h; exact⟨fy,Xj hx⟩
 ·cases h; exact⟨fy,LA hx⟩
 ·cases h; exact⟨fy,ama hx⟩
 ·cases h; exact⟨fy,Iu hx⟩
 ·cases h; exact⟨fy,OO hx⟩
 ·cases h; exact⟨fy,OS hx⟩
 ·cases h; exact⟨fy,OQ hx⟩
 ·cases h; exact⟨fy,ON hx⟩
 ·cases h; exact⟨fy,KV hx⟩
 ·cases h; exact⟨fy,KW hx⟩
 ·cases h; exact⟨fy,aeW hx⟩
 ·cases h; exact⟨fy,O1 hx⟩
 ·cases h; exact⟨fy,O0 hx⟩
 ·cases h; exact⟨fy,K6 hx⟩
 ·cases h; exact⟨fy,K7 hx⟩
 ·cases h; exact⟨fy,Pq hx⟩
 ·cases h; exact⟨fy,Pr hx⟩
 ·cases h; exact⟨fy,Po hx⟩
 ·cases h; exact⟨fy,Pp hx⟩
 ·cases h
def ahT:vn Tryz.prog bW:=⟨MH,NH⟩
abbrev Bytes:=List UInt8
structure gM where
 name:Bytes
 ar:Int
 ak:Int
 deriving DecidableEq,Inhabited
structure Node where
 ar:Int
 kind:Int
 eo:Int
 data:Bytes
 bc:List gM
 up:Int
 deriving DecidableEq,Inhabited
structure Tree where
 ae:List Node
 next:Int
 ak:Int
 deriving DecidableEq,Inhabited
def Node.zero:Node:=⟨0,0,0,[],[],0⟩
def fU(e:gM):List ag:=[.str e.name,.int .i64 e.ar,.int .i64 e.ak]
def iG(e:gM):ag := .agg (fU e)
abbrev jb(l:List gM):ag := .slice .sh (l.map iG)
abbrev cV(d:Bytes):ag := .slice .sh (d.map pf)
def aM(n:Node):List ag:=[.int .i64 n.ar,.int .i64 n.kind,.int .i64 n.eo,cV n.data,jb n.bc,.int .i64 n.up]
def bL(n:Node):ag := .agg (aM n)
abbrev ba(l:List Node):ag := .slice .sh (l.map bL)
def aN(t:Tree):List ag:=[ba t.ae,.int .i64 t.next,.int .i64 t.ak]
def br(t:Tree):ag := .agg (aN t)
structure Small(t:Tree):Prop where
 ae:t.ae.length<=100000
 bc:∀n,n∈t.ae->n.bc.length<=100000
 data:∀n,n∈t.ae->n.data.length<=100000
def Il(n:Node):(bL n).cells=aM n:=rfl
def KS(e:gM):(iG e).cells=fU e:=rfl
def LL(n:Node):(aM n).length=6:=rfl
def Pz(e:gM):(fU e).length=3:=rfl
def GF(l:List Node):wid (l.map bL) 6=True:=by
 simp only[fG,ja];intro x hx;obtain⟨n,_,rfl⟩:=eK.1 hx;rfl
def Kg(l:List gM):wid (l.map iG) 3=True:=by
 simp only[fG,ja];intro x hx;obtain⟨n,_,rfl⟩:=eK.1 hx;rfl
theorem sg(l:Bytes):wid (l.map pf) 1=True:=by
 simp only[fG,ja];intro x hx;obtain⟨n,_,rfl⟩:=eK.1 hx;rfl
structure Step where
 kind:Nat
 a:Nat
 b:Nat
 n:Nat
 m:Nat
 data:Bytes
set_option linter.defProp false in
def EVN:=bR @Il (bR @KS (bR @LL (bR @Pz (bR @GF (bR @Kg @sg)))))
set_option linter.defProp false in
def EN:=And.intro EVN EV
section
attribute [local irreducible] eX fM lC gK dX kr aq aU cr bJ
def gQ{α:Type}{l:List α}{pre r:List α}{n:α}(h:l=pre++n::r):l[pre.length]?=some n:=by rw[h]; simp
def iM{α:Type}{l:List α}{pre r:List α}{n:α}(h:l=pre++n::r):((pre.length:Int)<(l.length:Int))=True:=by rw[h]; simp; omega
def jM{α:Type}{l:List α}{pre:List α}(h:l=pre++[]):((pre.length:Int)<(l.length:Int))=False:=by rw[h]; simp
def Xo{α:Type}{pre:List α}{n:α}:((pre.length:Int)+1)=((pre++[n]).length:Int):=dv
def zy{T:Type}(l:List T)(x:T)(h:(l.length:Int)+1<9223372036854775808:=by omega):IntKind.i64.wrap ((l.length:Int)+1)=((l++[x]).length:Int):=by rw[gw aI aI]; exact Xo
def find(ae:List Node)(ar:Int):Option Node:=ae.find? fun n=>n.ar==ar
def gW(ae:List Node)(ar:Int):Node×Int:=match find ae ar with
 |none=>(Node.zero,70)
 |some n=>if n.kind=2 then (n,0) else (Node.zero,73)
def gv(l:List gM)(s:Bytes):Option gM:=l.find? fun e=>e.name==s
def sW(b:UInt8):Bool := !(decide ((b.toNat:Int)<32)||((b.toNat:Int)==47))
def fY(s:Bytes):Bool := !(decide ((s.length:Int)<1)||(decide ((s.length:Int)>32)||(s==[46]||s==[46,46])))&&s.all sW
def fh(ae:List Node)(ar:Int)(s:Bytes):Int×Int :=
 if (gW ae ar).2≠0 then (0,(gW ae ar).2) else if fY s=false then (0,60) else match gv (gW ae ar).1.bc s with
  |none=>(0,70)
  |some e=>(e.ar,0)
def cD{ae:List Node}{ar:Int}{n:Node}(h:find ae ar=some n):n∈ae/\n.ar=ar:=by
 unfold find at h;exact⟨iA h,by simpa using List.find?_some h⟩
def tF{t:Tree}(hs:Small t)(ar:Int):(gW t.ae ar).1.bc.length<=100000:=by
 unfold gW;split
 ·simp[Node.zero]
 ·rename_i n hn;split
  ·exact hs.bc n (cD hn).1
  ·simp[Node.zero]
def zT:List ag:=[.slice .c0 [],.int .i64 0,.int .i64 0]
def oI(n:Node):List Node->List Node->Bool->List Node×Bool
 | [],out,done=>(out,done)
 |m::r,out,done =>
  oI n r ((if !done&&decide (m.ar>=n.ar) then out++[n] else out)++(if m.ar=n.ar then [] else [m])) (done||decide (m.ar>=n.ar))
def eT(ae:List Node)(n:Node):List Node:=(oI n ae [] false).1++(if (oI n ae [] false).2=true then [] else [n])
def fR(ae:List Node)(ar:Int):List Node:=ae.filter fun n=>n.ar != ar
def jI(l:List gM)(s:Bytes):List gM:=l.filter fun e=>e.name != s
def dr(ae:List Node)(ar:Int)(s:Bytes):List Node:=eT ae { (find ae ar).getD Node.zero with bc:=jI ((find ae ar).getD Node.zero).bc s }
abbrev nz(n:Int):Int:=IntKind.i64.wrap n
def gtB(a b:Bytes):Bool := !(strLt a b||a==b)
def vE(e:gM):List gM->List gM->Bool->List gM×Bool
 | [],out,done=>(out,done)
 |m::r,out,done=>vE e r ((if !done&&gtB m.name e.name then out++[e] else out)++[m]) (done||gtB m.name e.name)
def zb(l:List gM)(e:gM):List gM:=(vE e l [] false).1++(if (vE e l [] false).2=true then [] else [e])
def im(t:Tree)(ar:Int)(s:Bytes)(of:Int):Tree :=
 ⟨eT t.ae { (find t.ae ar).getD Node.zero with bc:=zb ((find t.ae ar).getD Node.zero).bc ⟨s,of,t.ak⟩ },t.next,nz (t.ak+1)⟩
def Qo(ae:List Node)(ar:Int):Int:=((find ae ar).getD Node.zero).up
def wc(ae:List Node):Nat->Int->Nat->Nat
 |0,_,d=>d
 |m+1,ar,d=>if ar=1 then d else wc ae m (Qo ae ar) (d+1)
def pS(ae:List Node)(ar:Int):Nat:=wc ae 201 ar 0
def nq(ae:List Node)(of:Int):Nat->Int->Bool
 |0,_=>false
 |m+1,ar=>if ar=of then true else if ar=1 then false else nq ae of m (Qo ae ar)
def iL(ae:List Node)(ar of:Int):Bool:=nq ae of (ae.length+1) ar
structure Sz(b:Nat)(t:Tree):Prop where
 ae:t.ae.length<=b
 bc:∀n,n∈t.ae->n.bc.length<=b
 data:∀n,n∈t.ae->n.data.length<=100000
def Sz.small{b:Nat}{t:Tree}(h:Sz b t)(hb:b<=100000):Small t:=⟨aZ h.ae hb,fun n hn=>aZ (h.bc n hn) hb,h.data⟩
def GG(n:Node):∀(l out:List Node)(d:Bool),(oI n l out d).1.length+(if (oI n l out d).2=true then 0 else 1)<=out.length+l.length+(if d then 0 else 1)
 | [],out,d=>by simp only[oI,aw,db]; exact av _
 |m::r,out,d=>by
  rw[oI];refine aZ (GG n r _ _) ?_;cases d<;>by_cases h1:n.ar<=m.ar<;>by_cases h2:m.ar=n.ar<;>simp[h1,h2]<;>omega
def GH(n:Node):∀(l out:List Node)(d:Bool)(x:Node),x∈(oI n l out d).1->x=n\/x∈out\/x∈l
 | [],out,d,x,h=>by simp[oI] at h; exact .inr (.inl h)
 |m::r,out,d,x,h=>by
  rw[oI] at h;rcases GH n r _ _ x h with h|h|h
  ·exact .inl h
  ·rcases bo.1 h with h|h
   ·split at h
    ·rcases bo.1 h with h|h
     ·exact .inr (.inl h)
     ·exact .inl (by simpa using h)
    ·exact .inr (.inl h)
   ·split at h
    ·cases h
    ·exact .inr (.inr (by simp at h; simp[h]))
  ·exact .inr (.inr (bw _ h))
def GI(ae:List Node)(n:Node):(eT ae n).length<=ae.length+1:=by
 have:=GG n ae [] false;unfold eT;split at this<;>simp_all
def GJ{ae:List Node}{n x:Node}(h:x∈eT ae n):x=n\/x∈ae:=by
 unfold eT at h;rcases bo.1 h with h|h
 ·rcases GH n ae [] false x h with h|h|h
  ·exact .inl h
  ·cases h
  ·exact .inr h
 ·split at h
  ·cases h
  ·exact .inl (by simpa using h)
def Sz.with{b:Nat}{t:Tree}(h:Sz b t){n:Node}(h1:n.bc.length<=b+1)(h2:n.data.length<=100000)(next ak:Int):Sz (b+1) ⟨eT t.ae n,next,ak⟩ :=
 ⟨aZ (GI _ _) (by have:=h.ae; simp; omega),fun x hx=>by
  rcases GJ hx with rfl|hx
  ·exact h1
  ·exact iX (h.bc x hx),fun x hx=>by
  rcases GJ hx with rfl|hx
  ·exact h2
  ·exact h.data x hx⟩
def Sz.up{b c:Nat}{t:Tree}(h:Sz b t)(hbc:b<=c):Sz c t:=⟨aZ h.ae hbc,fun n hn=>aZ (h.bc n hn) hbc,h.data⟩
def Sz.find{b:Nat}{t:Tree}(h:Sz b t)(ar:Int):((find t.ae ar).getD Node.zero).bc.length<=b/\((find t.ae ar).getD Node.zero).data.length<=100000:=by
 cases hf:Go.Proofs.YteoamaffclmdbaaGreatDoor.find t.ae ar with
 |none=>simp[Node.zero]
 |some n=>exact⟨h.bc n (cD hf).1,h.data n (cD hf).1⟩
def AU(l:List gM)(s:Bytes):(jI l s).length<=l.length:=bT _ _
def Sz.left{b:Nat}{t:Tree}(h:Sz b t)(ar:Int)(s:Bytes)(next ak:Int):Sz (b+1) ⟨dr t.ae ar s,next,ak⟩ :=
 h.with (n:={ (Go.Proofs.YteoamaffclmdbaaGreatDoor.find t.ae ar).getD Node.zero with bc:=jI ((Go.Proofs.YteoamaffclmdbaaGreatDoor.find t.ae ar).getD Node.zero).bc s }) (aZ (AU _ _) (iX (h.find ar).1)) (h.find ar).2 next ak
def Sz.uY{b:Nat}{t:Tree}(h:Sz b t)(ar:Int)(next ak:Int):Sz b ⟨fR t.ae ar,next,ak⟩ :=
 ⟨aZ (bT _ _) h.ae,fun x hx=>h.bc x ((ei.1 hx).1),fun x hx=>h.data x ((ei.1 hx).1)⟩
def DI(t:Tree)(n:Node):Bool:=decide ((64:Int)<=n.bc.length)||(decide ((12:Int)<=pS t.ae n.ar)||decide ((1099511627776:Int)<=t.ak))
def o6(t:Tree)(ar:Int)(s:Bytes):Int :=
 if (gW t.ae ar).2≠0 then (gW t.ae ar).2 else if fY s=false then 60 else if (gv (gW t.ae ar).1.bc s).isSome=true then 71 else if DI t (gW t.ae ar).1 then 76 else 0
def rU(t:Tree)(ar:Int)(s:Bytes)(kind:Int):Tree×Int×Int :=
 if kind != 1&&kind != 2 then (t,0,1) else if o6 t ar s != 0 then (t,0,o6 t ar s) else
 if decide ((200:Int)<=t.ae.length)||decide ((1099511627776:Int)<=t.next) then (t,0,76) else
 (im ⟨eT t.ae ⟨t.next,kind,1,[],[],if kind==2 then ar else 0⟩,nz (t.next+1),t.ak⟩ ar s t.next,t.next,0)
abbrev bl(ae:List Node)(ar:Int):Node:=(find ae ar).getD Node.zero
def CK(t:Tree)(ar to:Int)(s:Bytes):Tree×Int :=
 if !(find t.ae ar).isSome||((bl t.ae ar).kind==1&&(bl t.ae ar).eo==0) then (t,70) else if (bl t.ae ar).kind==2 then (t,72) else
 if o6 t to s != 0 then (t,o6 t to s) else
 (im ⟨eT t.ae { bl t.ae ar with eo:=nz ((bl t.ae ar).eo+1) },t.next,t.ak⟩ to s ar,0)
def fm(ae:List Node)(ar:Int):List Node :=
 if (bl ae ar).kind==2 then fR ae ar else eT ae { bl ae ar with eo:=nz ((bl ae ar).eo-1) }
def BN(t:Tree)(ar:Int)(s:Bytes):Tree×Int×Int :=
 if (fh t.ae ar s).2 != 0 then (t,0,(fh t.ae ar s).2) else if decide ((0:Int)<(bl t.ae (fh t.ae ar s).1).bc.length) then (t,0,74) else
 (⟨fm (dr t.ae ar s) (fh t.ae ar s).1,t.next,t.ak⟩,(fh t.ae ar s).1,0)
def u7(ae:List Node)(kind:Int)(y:Int):Int :=
 if !(find ae y).isSome then 0 else if kind==2&&(bl ae y).kind != 2 then 73 else if kind != 2&&(bl ae y).kind==2 then 72 else if decide ((0:Int)<(bl ae y).bc.length) then 74 else 0
def rP(t:Tree)(ar:Int)(data:Bytes):Tree×Int :=
 if !(find t.ae ar).isSome then (t,70) else if (bl t.ae ar).kind==2 then (t,72) else if decide ((4096:Int)<data.length) then (t,2) else
 (⟨eT t.ae { bl t.ae ar with data:=data },t.next,t.ak⟩,0)
def kK(t:Tree)(ar:Int):Tree×Int :=
 if !(find t.ae ar).isSome then (t,70) else if (bl t.ae ar).kind==2 then (t,72) else if decide ((0:Int)<(bl t.ae ar).eo) then (t,71) else
 (⟨fR t.ae ar,t.next,t.ak⟩,0)
def wR:Tree:=⟨[⟨1,2,0,[],[],1⟩],2,1⟩
def sC(ae:List Node)(ar at' d:Int)(n:Node)(dE:Int):Int :=
 if n.kind==2&&iL ae n.ar ar then
  (if (if decide ((0:Int)<n.bc.length) then nz (nz (nz (at'+pS ae n.ar)-d)+1) else nz (nz (at'+pS ae n.ar)-d))>dE
   then (if decide ((0:Int)<n.bc.length) then nz (nz (nz (at'+pS ae n.ar)-d)+1) else nz (nz (at'+pS ae n.ar)-d)) else dE)
 else dE
def wi(ae:List Node)(ar at' d:Int):List Node->Int->Int
 | [],dE=>dE
 |n::r,dE=>wi ae ar at' d r (sC ae ar at' d n dE)
def B9(ae:List Node)(ar at':Int):Int:=wi ae ar at' (pS ae ar) ae 0
def jg(l:List gM)(s:Bytes):Int:=match gv l s with
 |none=>0
 |some e=>e.ar
def manyN(t:Tree)(kx to:Int)(bc:List gM)(kind y ar:Int):Bool :=
 ((y==0&&to != kx)&&decide ((64:Int)<=bc.length))||(decide ((12:Int)<=pS t.ae to)||((kind==2&&decide ((12:Int)<B9 t.ae ar (nz (pS t.ae to+1))))||decide ((1099511627776:Int)<=t.ak)))
def te(t:Tree)(kx:Int)(s:Bytes)(to:Int)(nm:Bytes)(ar y:Int):Tree :=
 im ⟨if (bl t.ae ar).kind==2 then
   eT (if y != 0 then fm (dr (dr t.ae kx s) to nm) y else dr t.ae kx s) { bl t.ae ar with up:=to }
  else if y != 0 then fm (dr (dr t.ae kx s) to nm) y else dr t.ae kx s,t.next,t.ak⟩ to nm ar
def wU(t:Tree)(kx:Int)(s:Bytes)(to:Int)(nm:Bytes):Tree×Int×Int :=
 if (fh t.ae kx s).2 != 0 then (t,0,(fh t.ae kx s).2) else
 if (gW t.ae to).2 != 0 then (t,0,(gW t.ae to).2) else
 if !fY nm then (t,0,60) else
 if jg (gW t.ae to).1.bc nm==(fh t.ae kx s).1 then (t,0,0) else
 if (bl t.ae (fh t.ae kx s).1).kind==2&&iL t.ae to (fh t.ae kx s).1 then (t,0,75) else
 if u7 t.ae (bl t.ae (fh t.ae kx s).1).kind (jg (gW t.ae to).1.bc nm) != 0 then (t,0,u7 t.ae (bl t.ae (fh t.ae kx s).1).kind (jg (gW t.ae to).1.bc nm)) else
 if manyN t kx to (gW t.ae to).1.bc (bl t.ae (fh t.ae kx s).1).kind (jg (gW t.ae to).1.bc nm) (fh t.ae kx s).1 then (t,0,76) else
 (te t kx s to nm (fh t.ae kx s).1 (jg (gW t.ae to).1.bc nm),jg (gW t.ae to).1.bc nm,0)
def Sz.unnamed{b:Nat}{t:Tree}(h:Sz b t)(ar next ak:Int):Sz (b+1) ⟨fm t.ae ar,next,ak⟩:=by
 unfold fm;split
 ·exact(h.uY ar next ak).up aI
 ·exact h.with (n:={ bl t.ae ar with eo:=nz ((bl t.ae ar).eo-1) }) (iX (h.find ar).1) (h.find ar).2 next ak
structure Step.Ok(s:Step):Prop where
 kind:s.kind<256
 a:s.a<256
 b:s.b<256
 n:s.n<256
 m:s.m<256
 data:s.data.length<=100000
def nameOf(n:Nat):Bytes:=match n % 6 with
 |0=>[97]
 |1=>[98]
 |2=>[99]
 |3=>[100]
 |4=>[101]
 |_=>[46,46]
def wI(t:Tree)(n:Nat):Int:=match t.ae[n % (t.ae.length+1)]? with
 |some m=>m.ar
 |none=>t.next
def abT(t:Tree)(s:Step):Tree×Int×Int :=
 if ((s.kind % 8:Nat):Int)==0||((s.kind % 8:Nat):Int)==1 then rU t (wI t s.a) (nameOf s.n) (((s.m % 2:Nat):Int)+1) else
 if ((s.kind % 8:Nat):Int)==2 then ((CK t (wI t s.b) (wI t s.a) (nameOf s.n)).1,0,(CK t (wI t s.b) (wI t s.a) (nameOf s.n)).2) else
 if ((s.kind % 8:Nat):Int)==3 then BN t (wI t s.a) (nameOf s.n) else
 if ((s.kind % 8:Nat):Int)==4||((s.kind % 8:Nat):Int)==5 then wU t (wI t s.a) (nameOf s.n) (wI t s.b) (nameOf s.m) else
 if ((s.kind % 8:Nat):Int)==6 then ((rP t (wI t s.a) s.data).1,0,(rP t (wI t s.a) s.data).2) else
 ((kK t (wI t s.a)).1,0,(kK t (wI t s.a)).2)
def Jc(e:gM):∀(l out:List gM)(d:Bool),(vE e l out d).1.length+(if (vE e l out d).2=true then 0 else 1)<=out.length+l.length+(if d then 0 else 1)
 | [],out,d=>by simp only[vE,aw,db]; exact av _
 |m::r,out,d=>by
  rw[vE];refine aZ (Jc e r _ _) ?_;cases d<;>cases h1:gtB m.name e.name<;>simp<;>omega
def SK(l:List gM)(e:gM):(zb l e).length<=l.length+1:=by
 have:=Jc e l [] false;unfold zb;split at this<;>simp_all
def Sz.nM{b:Nat}{t:Tree}(h:Sz b t)(ar:Int)(s:Bytes)(of:Int):Sz (b+1) (im t ar s of) :=
 h.with (n:={ bl t.ae ar with bc:=zb (bl t.ae ar).bc ⟨s,of,t.ak⟩ }) (aZ (SK _ _) (Nat.succ_le_succ (h.find ar).1)) (h.find ar).2 t.next (nz (t.ak+1))
def Sz.add{b:Nat}{t:Tree}(h:Sz b t)(ar:Int)(s:Bytes)(kind:Int):Sz (b+5) (rU t ar s kind).1:=by
 unfold rU;split
 ·exact h.up aI
 ·split
  ·exact h.up aI
  ·split
   ·exact h.up aI
   ·exact((h.with (n:=⟨t.next,kind,1,[],[],if kind==2 then ar else 0⟩) dv dv (nz (t.next+1)) t.ak).nM ar s t.next).up aI
def Sz.ln{b:Nat}{t:Tree}(h:Sz b t)(ar to:Int)(s:Bytes):Sz (b+5) (CK t ar to s).1:=by
 unfold CK;split
 ·exact h.up aI
 ·split
  ·exact h.up aI
  ·split
   ·exact h.up aI
   ·exact((h.with (n:={ bl t.ae ar with eo:=nz ((bl t.ae ar).eo+1) }) (iX (h.find ar).1) (h.find ar).2 t.next t.ak).nM to s ar).up aI
def Sz.un{b:Nat}{t:Tree}(h:Sz b t)(ar:Int)(s:Bytes):Sz (b+5) (BN t ar s).1:=by
 unfold BN;split
 ·exact h.up aI
 ·split
  ·exact h.up aI
  ·exact((h.left ar s t.next t.ak).unnamed _ t.next t.ak).up aI
def Sz.put{b:Nat}{t:Tree}(h:Sz b t)(ar:Int)(data:Bytes)(hd:data.length<=100000):Sz (b+5) (rP t ar data).1:=by
 unfold rP;split
 ·exact h.up aI
 ·split
  ·exact h.up aI
  ·split
   ·exact h.up aI
   ·exact(h.with (n:={ bl t.ae ar with data:=data }) (iX (h.find ar).1) hd t.next t.ak).up aI
def Sz.free{b:Nat}{t:Tree}(h:Sz b t)(ar:Int):Sz (b+5) (kK t ar).1:=by
 unfold kK;split
 ·exact h.up aI
 ·split
  ·exact h.up aI
  ·split
   ·exact h.up aI
   ·exact(h.uY ar t.next t.ak).up aI
def Sz.move{b:Nat}{t:Tree}(h:Sz b t)(kx:Int)(s:Bytes)(to:Int)(nm:Bytes)(ar y:Int):Sz (b+5) (te t kx s to nm ar y):=by
 unfold te;have z1:=h.left kx s t.next t.ak
 have z3:=(z1.left to nm t.next t.ak).unnamed y t.next t.ak
 have z:Sz (b+3) ⟨if y != 0 then fm (dr (dr t.ae kx s) to nm) y else dr t.ae kx s,t.next,t.ak⟩:=by
  split
  ·exact z3
  ·exact z1.up aI
 split
 ·exact((z.with (n:={ bl t.ae ar with up:=to }) (aZ (h.find ar).1 aI) (h.find ar).2 t.next t.ak).nM to nm ar).up aI
 ·exact(z.nM to nm ar).up aI
def Sz.mv{b:Nat}{t:Tree}(h:Sz b t)(kx:Int)(s:Bytes)(to:Int)(nm:Bytes):Sz (b+5) (wU t kx s to nm).1:=by
 unfold wU
 repeat' split
 all_goals first
  |exact h.up aI
  |exact h.move kx s to nm _ _
def Sz.done{b:Nat}{t:Tree}(h:Sz b t)(s:Step)(hs:s.Ok):Sz (b+5) (abT t s).1:=by
 unfold abT
 repeat' split
 all_goals first
  |exact h.add _ _ _
  |exact h.ln _ _ _
  |exact h.un _ _
  |exact h.mv _ _ _ _
  |exact h.put _ _ hs.data
  |exact h.free _
def Sz.wR:Sz 1 wR:=⟨by simp[Go.Proofs.YteoamaffclmdbaaGreatDoor.wR],fun n hn=>by simp[Go.Proofs.YteoamaffclmdbaaGreatDoor.wR] at hn; subst hn; simp,fun n hn=>by simp[Go.Proofs.YteoamaffclmdbaaGreatDoor.wR] at hn; subst hn; simp⟩
end
end Go.Proofs.YteoamaffclmdbaaGreatDoor
namespace Go.Abs
open Go
def AZ{C:eR}{fn:List sP}{bS:Nat}{k:List K}{live:List Nat}{body:cA}{α σ ρ:Type}{xs:List α}(hn:xs.length<=1000000)(go:List α->σ->ρ)(E:σ->Int->Env)(M:σ->aC)(R:ρ->Option (ag×aC))
  (hend:∀s,eX C fn bS (.loop live (M s).length body::k) body (jq (E s xs.length) live) (M s)=R (go [] s))
  (hstep:∀(pre:List α)(x:α)(post:List α)(s:σ),xs=pre++x::post->xs[pre.length]?=some x->((pre.length:Int)<xs.length)=True->IntKind.i64.wrap ((pre.length:Int)+1)=(pre.length:Int)+1->((pre.length:Int)<0)=False->x∈xs ->
   (∀s',eX C fn bS k (.loop live body) (E s' ((pre.length:Int)+1)) (M s')=R (go post s'))->eX C fn bS (.loop live (M s).length body::k) body (jq (E s pre.length) live) (M s)=R (go (x::post) s)) :
  ∀s,eX C fn bS k (.loop live body) (E s 0) (M s)=R (go xs s):=by
 have key:∀(l pre:List α)(s:σ),xs=pre++l->eX C fn bS k (.loop live body) (E s pre.length) (M s)=R (go l s):=by
  intro l;induction l with
  |nil =>
   intro pre s h;rw[bG,show pre.length=xs.length by rw[h]; simp]
   exact hend s
  |cons x r ih =>
   intro pre s h;rw[bG];have hl:pre.length+1<=1000000:=by rw[h] at hn; simp at hn; omega
   refine hstep pre x r s h (by rw[h]; simp) (by rw[h]; simp; omega) (gw aI aI) dv (by rw[h]; simp) fun s'=>?_
   have:=ih (pre++[x]) s' (by rw[h]; simp)
   simpa using this
 intro s;exact key xs [] s rfl
def jd{C:eR}{fn:List sP}{bS:Nat}{k:List K}{live:List Nat}{body:cA}{α σ:Type}{xs:List α}(hn:xs.length<=1000000)(I:Nat->σ->Prop)(E:σ->Int->Env)(M:σ->aC)(Q:ag×aC->Prop)
  (hend:∀s,I xs.length s->∃r,Q r/\eX C fn bS (.loop live (M s).length body::k) body (jq (E s xs.length) live) (M s)=some r)
  (hstep:∀(pre:List α)(x:α)(post:List α)(s:σ),xs=pre++x::post->xs[pre.length]?=some x->((pre.length:Int)<xs.length)=True->IntKind.i64.wrap ((pre.length:Int)+1)=(pre.length:Int)+1->((pre.length:Int)<0)=False->x∈xs->I pre.length s ->
   (∀s',I (pre.length+1) s'->∃r,Q r/\eX C fn bS k (.loop live body) (E s' ((pre.length:Int)+1)) (M s')=some r)->∃r,Q r/\eX C fn bS (.loop live (M s).length body::k) body (jq (E s pre.length) live) (M s)=some r) :
  ∀s,I 0 s->∃r,Q r/\eX C fn bS k (.loop live body) (E s 0) (M s)=some r:=by
 have key:∀(l pre:List α)(s:σ),xs=pre++l->I pre.length s->∃r,Q r/\eX C fn bS k (.loop live body) (E s pre.length) (M s)=some r:=by
  intro l;induction l with
  |nil =>
   intro pre s h hI;have e:pre.length=xs.length:=by rw[h]; simp
   rw[bG,e];exact hend s (by rw[<-e]; exact hI)
  |cons x r ih =>
   intro pre s h hI;rw[bG];have hl:pre.length+1<=1000000:=by rw[h] at hn; simp at hn; omega
   refine hstep pre x r s h (by rw[h]; simp) (by rw[h]; simp; omega) (gw aI aI) dv (by rw[h]; simp) hI fun s' hI'=>?_
   have:=ih (pre++[x]) s' (by rw[h]; simp) (by simpa using hI')
   simpa using this
 intro s hI;exact key xs [] s rfl hI
def yl{α:Type}{a b:List α}{m:Nat}(h:a.take m=b.take m){x:α}(hx:a[m]?=some x)(hy:b[m]?=some x):a.take (m+1)=b.take (m+1):=by
 rw[cB,cB,h,hx,hy]
def Au{α:Type}{a b:List α}(hl:a.length=b.length)(h:a.take a.length=b.take a.length):a=b:=by
 rw[bF,hl,bF] at h; exact h
def Gy(ds:List Bool)(b:Nat)(d:Bool):iP (ds.map ag.bool) b (putCells (.bool d) 0 [.bool true])=(ds.set b true).map ag.bool:=by
 have:putCells (.bool d) 0 [.bool true] = .bool true:=rfl;rw[this,fe,gj]
def abi(ds:List UInt8)(b:Nat)(d x:UInt8):iP (ds.map pf) b (putCells (pf d) 0 [pf x])=(ds.set b x).map pf:=by
 have:putCells (pf d) 0 [pf x]=pf x:=rfl;rw[this,fe,gj]
def qL{C:eR}{fn:List sP}{bS:Nat}{k:List K}{live:List Nat}{body:cA}{α σ ρ:Type}{xs:List α}(hn:xs.length<=1000000)(I:Nat->σ->Prop)(go:List α->σ->ρ)(E:σ->Int->Env)(M:σ->aC)(R:ρ->Option (ag×aC))
  (hend:∀s,I xs.length s->eX C fn bS (.loop live (M s).length body::k) body (jq (E s xs.length) live) (M s)=R (go [] s))
  (hstep:∀(pre:List α)(x:α)(post:List α)(s:σ),xs=pre++x::post->xs[pre.length]?=some x->((pre.length:Int)<xs.length)=True->IntKind.i64.wrap ((pre.length:Int)+1)=(pre.length:Int)+1->((pre.length:Int)<0)=False->x∈xs->I pre.length s ->
   (∀s',I (pre.length+1) s'->eX C fn bS k (.loop live body) (E s' ((pre.length:Int)+1)) (M s')=R (go post s'))->eX C fn bS (.loop live (M s).length body::k) body (jq (E s pre.length) live) (M s)=R (go (x::post) s)) :
  ∀s,I 0 s->eX C fn bS k (.loop live body) (E s 0) (M s)=R (go xs s):=by
 have key:∀(l pre:List α)(s:σ),xs=pre++l->I pre.length s->eX C fn bS k (.loop live body) (E s pre.length) (M s)=R (go l s):=by
  intro l;induction l with
  |nil =>
   intro pre s h hI;have e:pre.length=xs.length:=by rw[h]; simp
   rw[bG,e];exact hend s (by rw[<-e]; exact hI)
  |cons x r ih =>
   intro pre s h hI;rw[bG];have hl:pre.length+1<=1000000:=by rw[h] at hn; simp at hn; omega
   refine hstep pre x r s h (by rw[h]; simp) (by rw[h]; simp; omega) (gw aI aI) dv (by rw[h]; simp) hI fun s' hI'=>?_
   have:=ih (pre++[x]) s' (by rw[h]; simp) (by simpa using hI')
   simpa using this
 intro s hI;exact key xs [] s rfl hI
def qD{α:Type}(p:α->Bool):List α->Nat->Int
 | [],_ => -1
 |x::r,i=>if p x then (i:Int) else qD p r (i+1)
structure XI{α:Type}(lt:α->Bool)(l:List α)(b:Nat):Prop where
 le:b<=l.length
 lt:∀h n,l[h]?=some n->(lt n=true↔h<b)
def pn{α:Type}(eq:α->Bool)(l:List α)(b:Nat):Bool:=match l[b]? with
 |some n=>eq n
 |none=>false
def V5(i j:Nat)(hj:j<=100000)(hi:i<=j):IntKind.i64.wrap ((i:Int)+(j:Int))=((i+j:Nat):Int)/\IntKind.u64.wrap ((i+j:Nat):Int)=((i+j:Nat):Int) /\
  (((i+j:Nat):Int)).fdiv (2 ^ min 1 IntKind.u64.bits)=(((i+j) / 2:Nat):Int)/\IntKind.i64.wrap (((i+j) / 2:Nat):Int)=(((i+j) / 2:Nat):Int)/\IntKind.i64.wrap ((((i+j) / 2:Nat):Int)+1)=(((i+j) / 2+1:Nat):Int):=by
 refine⟨?_,?_,?_,?_,?_⟩
 ·rw[gw aI aI]; rfl
 ·have:IntKind.u64.wrap ((i+j:Nat):Int)=((i+j:Nat):Int) % 18446744073709551616:=by simp[IntKind.wrap,IntKind.bits,IntKind.signed]
  rw[this]; omega
 ·have:(2:Int) ^ min 1 IntKind.u64.bits=2:=mr;rw[this,Int.fdiv_eq_ediv_of_nonneg _ aI]; omega
 ·exact gw aI aI
 ·rw[gw aI aI]; rfl
def aiB(C:eR)(fv:ag)(M:aC)(vs:List ag)(r:ag):Prop:=(∃g caps,fv = .func g caps/\aU C g (vs++caps) M=some (r,M))\/∃g fs,fv = .ra g fs/\aU C g (fs++vs) M=some (r,M)
def uV{M:aC}{p:Nat}{b:cJ}(h:nth M p=some b):iP M p b=M:=by
 rw[fc] at h; rw[fe];apply ct;intro i
 by_cases e:p=i
 ·subst e; rw[eb (aP h),h]
 ·rw[cK e]
def cM{C:eR}{f p:Nat}{vs:List ag}{r:ag}{M:aC}{cs:List ag}(hM:nth M p=some (.cells cs))(h:C f (.ptr 0 0::vs) [.cells cs]=some (r,[.cells cs]))(h1:vs.all ag.flat=true:=by exact rfl)(h2:vs.flatMap ag.ids=[]:=by exact rfl)(h3:r.wH=true:=by exact rfl)(h4:vs.map (ag.pq (iw [p]))=vs:=by exact rfl)(h5:r.Ar (wD [p])=r:=by exact rfl)(h6:cs.all ag.vA=true:=by exact rfl)(h7:cs.flatMap ag.nJ=[]:=by exact rfl)(h8:cs.map (ag.sf (iw [p]))=cs:=by exact rfl)(h10:cs.map (ag.sf (wD [p]))=cs:=by exact rfl):aU C f (.ptr p 0::vs) M=some (r,M):=by
 have:=tn hM h h1 h2 h3 h4 h5 h6 h7 h8 h6 h10;rwa[uV hM] at this
def ly{C:eR}{f:Nat}{args args':List ag}{M B:aC}{ids:List Nat}{r r':ag}{B' M':aC}(h1:args.all ag.flat=true)(h2:reach M (args.flatMap ag.ids)=ids)(h3:j5 M (iw ids) ids=some B)(h4:kD M ids=ids)
  (h5:args.map (ag.pq (iw ids))=args') (h:C f args' B=some (r,B')) (h6:B'.length=B.length) (h7:r.wH=true) (h8:B'.all cJ.flat=true) (h9:r.Ar (wD ids)=r') (h10:mh ids M ids B'=M'):aU C f args M=some (r',M'):=by
 unfold aU;rw[aX h1,h2,h3];simp only[bO];rw[aX h4,h5,h];simp only[bO];rw[aX ⟨h6,h7,h8⟩,h9,h10]
theorem FR{α:Type}(p:α->Bool):∀(l:List α)(i:Nat),decide (0<=qD p l i)=l.any p
 | [],_=>rfl
 |x::r,i=>by
  rw[qD,jS]
  by_cases h:p x=true
  ·grind
  ·simp[h];exact FR p r _
def xj{α:Type}(p:α->Bool)(l:List α):decide (0<=qD p l 0)=l.any p:=FR p l 0
def uK{C:eR}{f p:Nat}{vs:List ag}{r:ag}{M:aC}{cs:List ag}(hM:nth M p=some (.cells cs))(h:C f (vs++[cu 0]) [.cells cs]=some (r,[.cells cs]))(h1:vs.all ag.flat=true)(h2:vs.flatMap ag.ids=[])(h3:r.wH=true)
  (h4:vs.map (ag.pq (iw [p]))=vs) (h5:r.Ar (wD [p])=r) (h6:cs.all ag.vA=true) (h7:cs.flatMap ag.nJ=[]) (h8:cs.map (ag.sf (iw [p]))=cs) (h10:cs.map (ag.sf (wD [p]))=cs) :
  aU C f (vs++[cu p]) M=some (r,M):=by
 have hids:(vs++[ag.ptr p 0]).flatMap ag.ids=[p]:=by simp[ag.ids,ag.nJ,ag.iH,h2]
 have hi:qz M [p]=[]:=by simp_all [qz,cJ.ids]
 have e0:kD M [p]=[p]:=by simp[kD,hi,kc]
 have e1:reach M [p]=[p]:=by
  have ea:kc [] [p]=[p]:=rfl;simp only[reach,ea,e0]
 have hfl:(vs++[ag.ptr p 0]).all ag.flat=true:=by rw[oM,h1]; rfl
 simp_all [aU,j5,iw,cJ.flat,cJ.pq,bO,ag.pq,aW,ag.sf,ag.ur,mh,uV]
def SE(sz:Nat):cA := .seq (.region [ob 9 (.bin .lss (.tmp 8) (.tmp 7))] false [0,1,7,8,9]) (.seq (.cond (.tmp 9) .skip (.exit 0)) (.seq (.block 1 (.seq (.region [ob 10 (.mv (.tmp 8)),ob 5 (.mv (.tmp 10))] false [0,1,5,7,8])
 (.seq (.region [ob 11 (.mv (.tmp 1)),ob 12 (.mv (.tmp 0)),ob 13 (.mv (.tmp 5)),ob 14 (.ue sz (.tmp 12) (.tmp 13)),ob 15 (.mR sz (.tmp 14)),ob 16 (.sw (.tmp 11) [.tmp 15])] false [0,1,5,7,8,16]) (.cond (.tmp 16) (.seq (.region [ob 17 (.mv (.tmp 5)),ob 4 (.mv (.tmp 17))] false [4]) .ret) .skip))))
 (.region [ob 18 (.bin .add (.tmp 8) (.tc (.int .i64 1))),ob 8 (.mv (.tmp 18))] false [0,1,7,8])))
def SF(sz:Nat):eH:=⟨2,[.tmp 4],.seq (.region [ob 4 (.mv (.tc (.int .i64 0)))] false [0,1]) (.seq (.seq (.region [ob 6 (.mv (.tmp 0)),ob 7 (.z7 (.tmp 6)),ob 8 (.mv (.tc (.int .i64 0)))] false [0,1,7,8]) (.block 0 (.loop [0,1,7,8] (SE sz))))
 (.seq (.region [ob 4 (.mv (.tc (.int .i64 (-1))))] false [4]) .ret))⟩
section
variable {T:zB} {f sz:Nat} {α:Type} {e:α->List ag} {xs:List α} {fv:ag} {M:aC}
attribute [local irreducible] eX fM lC gK dX kr aq aU cr bJ
def DL{p:α->Bool}{N:Nat}(hc:T.code f=some (SF sz))(hp:T.oY f=none)(hn:xs.length<=N)(hz:∀x,(e x).length=sz)(hs:∀x,(e x).map ag.shut=e x)(hf:fv.mN M.length M=fv)(hM:M.map (cJ.back M.length M)=M)
  (hk:∀x,x∈xs->aiB (aq T) fv M [.agg (e x)] (.bool (p x))) (hN:N<=900000:=by omega):aq T f [gU (xs.map fun x => .agg (e x)),fv] M=some (aH (qD p xs 0),M):=by
 refine aB ?_ hp hc rfl;have ht:∀x,(e x).take sz=e x:=fun x=>bB (by rw[hz]; exact av _)
 simp only[SF,EV,seval];refine qL (xs:=xs) aI (fun m s=>s=m) (fun l (s:Nat)=>qD p l s) (fun _ i=>[(0,gU (xs.map fun x => .agg (e x))),(1,fv),(7,aH xs.length),(8,aH i)]) (fun _=>M) (fun r=>some (aH r,M)) (fun s hs'=>?_) (fun pre x post s h hx cL hw h0 hm hI hi=>?_) 0 rfl
 ·simp only[nu (SE.eq_1 sz),qD,bu,hM,bF,EV,seval]
 ·have i1:=hi (pre.length+1) rfl;rw[hI,qD];rcases hk x hm with ⟨g,caps,rfl,hq⟩|⟨g,caps,rfl,hq⟩
  all_goals
   simp only[aG,aQ,ag.mN,ag.jY,ag.jX] at hq hf;simp only[nu (SE.eq_1 sz),cL,hx,hw,h0,hz,ht,hs,hq,EV,seval];refine bC (fun hb=>?_) (fun hb=>?_)
   ·simp only[hb,hM,bF,EV,seval]
   ·simp only[hb,hw,hf,hM,bF,af,EV,seval];exact i1
def bsB(sz:Nat):cA := .seq (.seq (.region [ob 15 (.mv (.tmp 9)),ob 16 (.mv (.tmp 10)),ob 17 (.bin .lss (.tmp 15) (.tmp 16))] false [0,1,2,8,9,10,17]) (.cond (.tmp 17) .skip (.exit 0)))
 (.block 1 (.seq (.region [ob 18 (.mv (.tmp 9)),ob 19 (.mv (.tmp 10)),ob 20 (.bin .add (.tmp 18) (.tmp 19)),ob 21 (.conv .u64 (.tmp 20)),ob 22 (.bin .shr (.tmp 21) (.tc (.int .u64 1))),ob 23 (.conv .i64 (.tmp 22)),ob 11 (.mv (.tmp 23))] false [0,1,2,8,9,10,11])
  (.seq (.region [ob 24 (.mv (.tmp 2)),ob 25 (.mv (.tmp 0)),ob 26 (.mv (.tmp 11)),ob 27 (.ue sz (.tmp 25) (.tmp 26)),ob 28 (.mR sz (.tmp 27)),ob 29 (.mv (.tmp 1)),ob 30 (.sw (.tmp 24) [.tmp 28,.tmp 29]),ob 31 (.bin .lss (.tmp 30) (.tc (.int .i64 0)))] false [0,1,2,8,9,10,11,31])
   (.cond (.tmp 31) (.region [ob 32 (.mv (.tmp 11)),ob 33 (.bin .add (.tmp 32) (.tc (.int .i64 1))),ob 9 (.mv (.tmp 33))] false [0,1,2,8,9,10]) (.region [ob 34 (.mv (.tmp 11)),ob 10 (.mv (.tmp 34))] false [0,1,2,8,9,10])))))
def bsE(sz:Nat):cA := .seq (.region [ob 35 (.mv (.tmp 9)),ob 36 (.mv (.tmp 9)),ob 37 (.mv (.tmp 8)),ob 38 (.bin .lss (.tmp 36) (.tmp 37)),ob 39 (.mv (.tmp 38)),og 40 39 true (.mv (.tmp 2)),og 41 39 true (.mv (.tmp 0)),og 42 39 true (.mv (.tmp 9)),og 43 39 true (.ue sz (.tmp 41) (.tmp 42)),
 og 44 39 true (.mR sz (.tmp 43)),og 45 39 true (.mv (.tmp 1)),og 46 39 true (.sw (.tmp 40) [.tmp 44,.tmp 45]),og 47 39 true (.bin .eql (.tmp 46) (.tc (.int .i64 0))),ob 48 (.pick (.tmp 39) (.tmp 47) (.tc (.bool false))),ob 6 (.mv (.tmp 35)),ob 7 (.mv (.tmp 48))] false [6,7]) .ret
def bsF(sz:Nat):eH:=⟨3,[.tmp 6,.tmp 7],.seq (.region [ob 6 (.mv (.tc (.int .i64 0))),ob 7 (.mv (.tc (.bool false)))] false [0,1,2]) (.seq (.region [ob 12 (.mv (.tmp 0)),ob 13 (.z7 (.tmp 12)),ob 8 (.mv (.tmp 13))] false [0,1,2,8])
 (.seq (.region [ob 14 (.mv (.tmp 8)),ob 9 (.mv (.tc (.int .i64 0))),ob 10 (.mv (.tmp 14))] false [0,1,2,8,9,10]) (.seq (.block 0 (.loop [0,1,2,8,9,10] (bsB sz))) (bsE sz))))⟩
def Y3{c:α->Int}{key:ag}{b:Nat}(hc:T.code f=some (bsF sz))(hp:T.oY f=none)(hb:XI (fun x=>decide (c x<0)) xs b)(hn:xs.length<=100000)(hz:∀x,(e x).length=sz)(hs:∀x,(e x).map ag.shut=e x)(hf0:(∃g caps,fv = .func g caps)\/∃g fs,fv = .ra g fs)(hf:fv.mN M.length M=fv)
  (hM:M.map (cJ.back M.length M)=M) (hk1:key.fV=key) (hk2:key.mN M.length M=key) (hk3:key.jo=false) (hk:∀x,x∈xs->aiB (aq T) fv M [.agg (e x),key] (aH (c x))) :
  aq T f [gU (xs.map fun x => .agg (e x)),key,fv] M=some (.tuple [aH b,.bool (pn (fun x=>c x==0) xs b)],M):=by
 refine aB ?_ hp hc rfl;have ht:∀x,(e x).take sz=e x:=fun x=>bB (by rw[hz]; exact av _)
 have hfp:fv.jo=false:=by rcases hf0 with ⟨g,caps,rfl⟩|⟨g,caps,rfl⟩<;>rfl
 simp only[bsF,hk3,hfp,EV,seval]
 have key:∀(n i j:Nat),j-i<=n->i<=b->b<=j->j<=xs.length->eX (aq T) [.tmp 6,.tmp 7] M.length [.block 0,.seq (bsE sz)] (.loop [0,1,2,8,9,10] (bsB sz)) [(0,gU (xs.map fun x => .agg (e x))),(1,key),(2,fv),(8,aH xs.length),(9,aH i),(10,aH j)] M =
   some (.tuple [aH b,.bool (pn (fun x=>c x==0) xs b)],M):=by
  have fin:∀j:Nat,j<=b->eX (aq T) [.tmp 6,.tmp 7] M.length [.block 0,.seq (bsE sz)] (.loop [0,1,2,8,9,10] (bsB sz)) [(0,gU (xs.map fun x => .agg (e x))),(1,key),(2,fv),(8,aH xs.length),(9,aH b),(10,aH j)] M =
    some (.tuple [aH b,.bool (pn (fun x=>c x==0) xs b)],M):=by
   intro j hj;rw[bG];have cL:((b:Int)<(j:Int))=False:=gm;simp only[nu (bsB.eq_1 sz),bsE,cL,hk3,hfp,EV,seval];unfold pn
   by_cases cL:b<xs.length
   ·have hx:=ai cL;have h1:((b:Int)<(xs.length:Int))=True:=gm;rcases hk _ (aK hx) with ⟨g,caps,rfl,hq⟩|⟨g,caps,rfl,hq⟩
    all_goals
     try simp only[aG,aQ] at hq
     simp only[hx,h1,hz,ht,hs,hk1,hk3,hq,hM,bF,EV,seval]
   ·have hx:xs[b]?=none:=gb aI;have h1:((b:Int)<(xs.length:Int))=False:=gm;simp only[hx,h1,hM,bF,EV,seval]
  intro n;induction n with
  |zero =>
   intro i j h1 h2 h3 h4;obtain rfl:i=b:=aI;exact fin j aI
  |succ n ih =>
   intro i j h1 h2 h3 h4
   by_cases hij:i<j
   case neg =>
    obtain rfl:i=b:=aI;exact fin j aI
   rw[bG]
   ·have cL:((i:Int)<(j:Int))=True:=gm;obtain⟨m1,m2,m3,m4,m5⟩:=V5 i j aI aI;have hmid:(i+j) / 2<xs.length:=aI;have hx:=ai hmid;have hl:=hb.lt _ _ hx;rcases hk _ (aK hx) with ⟨g,caps,rfl,hq⟩|⟨g,caps,rfl,hq⟩
    all_goals
     simp only[aG,aQ,ag.mN,ag.jY,ag.jX] at hq hf;simp only[nu (bsB.eq_1 sz),cL,m1,m2,m3,m4,hx,hz,ht,hs,hk1,hk2,hk3,hf,hq,EV,seval];refine bC (fun hq=>?_) (fun hq=>?_)
     ·simp only[m5,hk1,hk2,hk3,hf,hM,bF,EV,seval];exact ih ((i+j) / 2+1) j aI (hl.1 (by simpa using hq)) h3 h4
     ·simp only[hk1,hk2,hk3,hf,hM,bF,EV,seval];exact ih i ((i+j) / 2) aI h2 (Nat.not_lt.1 fun h=>by have:=hl.2 h; simp_all) aI
 exact key xs.length 0 xs.length aI aI hb.le aI
def ae8(sz:Nat)(ld:fZ->kE)(ne:fZ->fZ->kE):cA := .seq (.region [ob 14 (.bin .lss (.tmp 13) (.tmp 12))] false [0,1,12,13,14]) (.seq (.cond (.tmp 14) .skip (.exit 0)) (.seq (.block 1 (.seq (.region [ob 15 (.mv (.tmp 13)),ob 5 (.mv (.tmp 15))] false [0,1,5,12,13])
 (.seq (.region [ob 16 (.mv (.tmp 0)),ob 17 (.mv (.tmp 5)),ob 18 (.ue sz (.tmp 16) (.tmp 17)),ob 19 (ld (.tmp 18)),ob 20 (.mv (.tmp 1)),ob 21 (.mv (.tmp 5)),ob 22 (.ue sz (.tmp 20) (.tmp 21)),ob 23 (ld (.tmp 22)),ob 24 (ne (.tmp 19) (.tmp 23))] true [0,1,12,13,24])
  (.cond (.tmp 24) (.seq (.region [ob 4 (.mv (.tc (.bool false)))] false [4]) .ret) .skip))))
 (.region [ob 25 (.bin .add (.tmp 13) (.tc (.int .i64 1))),ob 13 (.mv (.tmp 25))] false [0,1,12,13])))
def ak2(sz:Nat)(ld:fZ->kE)(ne:fZ->fZ->kE):eH:=⟨2,[.tmp 4],.seq (.region [ob 4 (.mv (.tc (.bool false)))] false [0,1])
 (.seq (.seq (.region [ob 6 (.mv (.tmp 0)),ob 7 (.z7 (.tmp 6)),ob 8 (.mv (.tmp 1)),ob 9 (.z7 (.tmp 8)),ob 10 (.bin .neq (.tmp 7) (.tmp 9))] false [0,1,10]) (.cond (.tmp 10) (.seq (.region [ob 4 (.mv (.tc (.bool false)))] false [4]) .ret) .skip))
 (.seq (.seq (.region [ob 11 (.mv (.tmp 0)),ob 12 (.z7 (.tmp 11)),ob 13 (.mv (.tc (.int .i64 0)))] false [0,1,12,13]) (.block 0 (.loop [0,1,12,13] (ae8 sz ld ne)))) (.seq (.region [ob 4 (.mv (.tc (.bool true)))] false [4]) .ret)))⟩
def DK[DecidableEq α]{e:α->ag}{ld:fZ->kE}{ne:fZ->fZ->kE}{a b:List α}(hc:T.code f=some (ak2 sz ld ne))(hp:T.oY f=none)(ha:a.length<=100000)(hz:∀x,(e x).cells.length=sz)(hpn:∀x,(e x).jo=false)
  (hb:∀x,(e x).mN 0 []=e x)
  (hl:∀(bq:Env)(M:aC)(t:Nat)(x:α),hZ bq t = .jE (e x).cells->ec (aq T) bq M (ld (.tmp t))=some (e x,M))
  (hn:∀(bq:Env)(M:aC)(t u:Nat)(x y:α),hZ bq t=e x->hZ bq u=e y->ec (aq T) bq M (ne (.tmp t) (.tmp u))=some (.bool (!decide (x=y)),M)) :
  aq T f [gU (a.map e),gU (b.map e)] []=some (.bool (decide (a=b)),[]):=by
 refine aB ?_ hp hc rfl;simp only[ak2,EV,seval];refine bC (fun hq=>?_) (fun hq=>?_)
 ·have:decide (a=b)=false:=by
   simp at hq ⊢;rintro rfl; exact hq rfl
  simp only[this,EV,seval]
 have dD:a.length=b.length:=by simp at hq; omega
 simp only[EV,seval];refine qL (xs:=a) aI (fun m (_:Unit)=>a.take m=b.take m) (fun _ _=>()) (fun _ i=>[(0,gU (a.map e)),(1,gU (b.map e)),(12,aH a.length),(13,aH i)]) (fun _=>[]) (fun _=>some (.bool (decide (a=b)),[])) (fun _ hI=>?_) (fun pre x post s h hx cL hw h0 hm hI hi=>?_) () rfl
 ·have:a=b:=Au dD hI;simp only[nu (ae8.eq_1 sz ld ne),kg this,bu,EV,seval]
 ·have hlt2:pre.length<b.length:=by rw[<-dD,h]; simp
  obtain⟨y,hy⟩:∃y,b[pre.length]?=some y:=⟨_,ai hlt2⟩;simp only[nu (ae8.eq_1 sz ld ne),cL,hx,hy,h0,hz,EV,seval];rw[hl _ _ _ x rfl];simp only[hpn,hy,h0,hz,EV,seval];rw[hl _ _ _ y rfl];simp only[hpn,EV,seval];rw[hn _ _ _ _ x y rfl rfl];simp only[EV,seval];refine bC (fun hq=>?_) (fun hq=>?_)
  ·have:decide (a=b)=false:=iZ fun hab=>by
    rw[hab,hy] at hx; injection hx with hx; simp[hx] at hq
   simp only[this,EV,seval]
  ·have hxy:x=y:=by simpa using hq
   subst hxy;simp only[hw,EV,seval];exact hi () (yl hI hx hy)
def ae7(sz:Nat)(z:List ag):cA := .seq (.region [ob 18 (.bin .lss (.tmp 17) (.tmp 16))] false [1,2,15,16,17,18]) (.seq (.cond (.tmp 18) .skip (.exit 0)) (.seq (.block 1 (.seq
 (.region [ob 19 (.mv (.tmp 17)),ob 20 (.ue sz (.tmp 15) (.tmp 17)),ob 21 (.mR sz (.tmp 20)),ob 8 (.yR z),ob 7 (.mv (.tmp 19)),ox (.store sz (.tmp 8) (.tmp 21))] false [1,2,7,8,15,16,17])
 (.seq (.region [ob 22 (.mv (.tmp 1)),ob 23 (.mv (.tmp 7)),ob 24 (.ue sz (.tmp 22) (.tmp 23)),ob 25 (.mR sz (.tmp 24)),ob 9 (.yR z),ox (.store sz (.tmp 9) (.tmp 25))] false [1,2,8,9,15,16,17])
  (.seq (.region [ob 26 (.mv (.tmp 2)),ob 27 (.mR sz (.tmp 8)),ob 28 (.mR sz (.tmp 9)),ob 29 (.sw (.tmp 26) [.tmp 27,.tmp 28]),ob 30 (.not (.tmp 29))] false [1,2,15,16,17,30]) (.cond (.tmp 30) (.seq (.region [ob 6 (.mv (.tc (.bool false)))] false [6]) .ret) .skip)))))
 (.region [ob 31 (.bin .add (.tmp 17) (.tc (.int .i64 1))),ob 17 (.mv (.tmp 31))] false [1,2,15,16,17])))
def ak1(sz:Nat)(z:List ag):eH:=⟨3,[.tmp 6],.seq (.region [ob 6 (.mv (.tc (.bool false)))] false [0,1,2])
 (.seq (.seq (.region [ob 10 (.mv (.tmp 0)),ob 11 (.z7 (.tmp 10)),ob 12 (.mv (.tmp 1)),ob 13 (.z7 (.tmp 12)),ob 14 (.bin .neq (.tmp 11) (.tmp 13))] false [0,1,2,14]) (.cond (.tmp 14) (.seq (.region [ob 6 (.mv (.tc (.bool false)))] false [6]) .ret) .skip))
 (.seq (.seq (.region [ob 15 (.mv (.tmp 0)),ob 16 (.z7 (.tmp 15)),ob 17 (.mv (.tc (.int .i64 0)))] false [1,2,15,16,17]) (.block 0 (.loop [1,2,15,16,17] (ae7 sz z)))) (.seq (.region [ob 6 (.mv (.tc (.bool true)))] false [6]) .ret)))⟩
def adA[DecidableEq α]{z:List ag}{g:Nat}{a b:List α}(hc:T.code f=some (ak1 sz z))(hp:T.oY f=none)(ha:a.length<=100000)(hz:∀x,(e x).length=sz)(hz0:z.length=sz)(hs:∀x,(e x).map ag.shut=e x)
  (hcl:∀x,(e x).all ag.jf=true) (hk:∀x y M,x∈a->aU (aq T) g [.agg (e x),.agg (e y)] M=some (.bool (decide (x=y)),M)) :
  aq T f [gU (a.map fun x => .agg (e x)),gU (b.map fun x => .agg (e x)),.func g []] []=some (.bool (decide (a=b)),[]):=by
 refine aB ?_ hp hc rfl;have ht:∀x,(e x).take sz=e x:=fun x=>bB (by rw[hz]; exact av _)
 have hzd:z.drop sz=[]:=ir aI;simp only[ak1,EV,seval];refine bC (fun hq=>?_) (fun hq=>?_)
 ·have:decide (a=b)=false:=by
   simp at hq ⊢;rintro rfl; exact hq rfl
  simp only[this,EV,seval]
 have dD:a.length=b.length:=by simp at hq; omega
 simp only[EV,seval];refine qL (xs:=a) aI (fun m (_:Unit)=>a.take m=b.take m) (fun _ _=>()) (fun _ i=>[(1,gU (b.map fun x => .agg (e x))),(2,.func g []),(15,gU (a.map fun x => .agg (e x))),(16,aH a.length),(17,aH i)]) (fun _=>[]) (fun _=>some (.bool (decide (a=b)),[])) (fun _ hI=>?_) (fun pre x post s h hx cL hw h0 hm hI hi=>?_) () rfl
 ·have:a=b:=Au dD hI;simp only[nu (ae7.eq_1 sz z),kg this,bu,EV,seval]
 ·have hlt2:pre.length<b.length:=by rw[<-dD,h]; simp
  obtain⟨y,hy⟩:∃y,b[pre.length]?=some y:=⟨_,ai hlt2⟩;simp only[nu (ae7.eq_1 sz z),cL,hx,hy,h0,hz,ht,hs,hcl,hz0,hzd,hk x y _ hm,EV,seval];refine bC (fun hq=>?_) (fun hq=>?_)
  ·have:decide (a=b)=false:=iZ fun hab=>by
    rw[hab,hy] at hx; injection hx with hx; simp[hx] at hq
   simp only[this,EV,seval]
  ·have hxy:x=y:=by simpa using hq
   subst hxy;simp only[hw,EV,seval];exact hi () (yl hI hx hy)
structure Stl(b:cJ):Prop where
 back:∀B M,b.back B M=b
 flat:b.flat=true
 pq:∀ρ,b.pq ρ=b
 ids:b.ids=[]
def FT{p:α->Bool}:∀ {l:List α} {i:Nat},qD p l i = -1->l.filter (fun x => !p x)=l
 | [],_,_=>rfl
 |x::l,i,h=>by
  rw[qD] at h;split at h
  ·omega
  ·rename_i hx;rw[mH (by simpa using hx),FT h]
def FU{p:α->Bool}:∀ {l:List α} {i:Nat},qD p l i ≠ -1->∃A x U,l=A++x::U/\qD p l i=((i+A.length:Nat):Int)/\l.filter (fun x => !p x)=A++U.filter fun x => !p x
 | [],_,h=>absurd rfl h
 |x::l,i,h=>by
  rw[qD] at h ⊢;split
  ·rename_i hx; exact⟨[],x,l,rfl,rfl,by rw[List.filter_cons_of_neg (by simpa using hx)]; rfl⟩
  ·rename_i hx;rw[aL hx] at h;obtain⟨A,y,U,h1,h2,h3⟩:=FU h;exact⟨x::A,y,U,by rw[h1]; rfl,by rw[h2]; simp; omega,by rw[mH (by simpa using hx),h3]; rfl⟩
def dlB(sz:Nat)(z:List ag):cA := .seq (.seq (.region [ob 16 (.mv (.tmp 6)),ob 17 (.mv (.tmp 0)),ob 18 (.z7 (.tmp 17)),ob 19 (.bin .lss (.tmp 16) (.tmp 18))] false [0,1,5,6,19]) (.cond (.tmp 19) .skip (.exit 0)))
 (.seq (.block 1 (.seq (.region [ob 22 (.mv (.tmp 0)),ob 23 (.mv (.tmp 6)),ob 24 (.ue sz (.tmp 22) (.tmp 23)),ob 25 (.mR sz (.tmp 24)),ob 7 (.yR z),ox (.store sz (.tmp 7) (.tmp 25))] false [0,1,5,6,7])
  (.seq (.region [ob 26 (.mv (.tmp 1)),ob 27 (.mR sz (.tmp 7)),ob 28 (.sw (.tmp 26) [.tmp 27]),ob 29 (.not (.tmp 28))] false [0,1,5,6,7,29])
   (.cond (.tmp 29) (.seq (.region [ob 30 (.mv (.tmp 0)),ob 31 (.mv (.tmp 5)),ob 32 (.mR sz (.tmp 7)),ob 33 (.ue sz (.tmp 30) (.tmp 31)),ox (.store sz (.tmp 33) (.tmp 32))] false [0,1,5,6]) (.region [ob 34 (.mv (.tmp 5)),ob 35 (.bin .add (.tmp 34) (.tc (.int .i64 1))),ob 5 (.mv (.tmp 35))] false [0,1,5,6])) .skip))))
 (.region [ob 20 (.mv (.tmp 6)),ob 21 (.bin .add (.tmp 20) (.tc (.int .i64 1))),ob 6 (.mv (.tmp 21))] false [0,1,5,6]))
def dlF(sz:Nat)(z zc:List ag)(gi:Nat):eH:=⟨2,[.tmp 4],.seq (.region [ob 4 (.mv (.tc (.slice .c0 [])))] false [0,1])
 (.seq (.region [ob 8 (.mv (.tmp 0)),ob 9 (.mv (.tmp 1)),ob 10 (.call gi [.tmp 8,.tmp 9]),ob 5 (.mv (.tmp 10))] false [0,1,5])
 (.seq (.seq (.region [ob 11 (.mv (.tmp 5)),ob 12 (.bin .eql (.tmp 11) (.tc (.int .i64 (-1))))] false [0,1,5,12]) (.cond (.tmp 12) (.seq (.region [ob 13 (.mv (.tmp 0)),ob 4 (.mv (.tmp 13))] false [4]) .ret) .skip))
 (.seq (.seq (.region [ob 14 (.mv (.tmp 5)),ob 15 (.bin .add (.tmp 14) (.tc (.int .i64 1))),ob 6 (.mv (.tmp 15))] false [0,1,5,6]) (.block 0 (.loop [0,1,5,6] (dlB sz z))))
 (.seq (.region [ob 36 (.mv (.tmp 0)),ob 37 (.mv (.tmp 5)),ob 38 (.uv sz (.tmp 36) (some (.tmp 37)) none none),ox (.xc sz zc (.tmp 38))] false [0,5])
 (.seq (.region [ob 39 (.mv (.tmp 0)),ob 40 (.mv (.tmp 5)),ob 41 (.uv sz (.tmp 39) none (some (.tmp 40)) none),ob 4 (.mv (.tmp 41))] false [4]) .ret)))))⟩
def afl{p:α->Bool}{X:cJ}{g:Nat}(hc:T.code f=some (SF sz))(hp:T.oY f=none)(hn:xs.length<=100000)(hz:∀x,(e x).length=sz)(hs:∀x,(e x).map ag.shut=e x)(hX:Stl X)
  (hk:∀x b M,aU (aq T) g [.agg (e x),cu 1] (b::X::M)=some (.bool (p x),b::X::M)) :
  aq T f [.cz 0 0 sz 0 xs.length,.func g [cu 1]] [.arr sz 0 (xs.map fun x => .agg (e x)),X]=some (aH (qD p xs 0),[.arr sz 0 (xs.map fun x => .agg (e x)),X]):=by
 refine aB ?_ hp hc rfl;have ht:∀x,(e x).take sz=e x:=fun x=>bB (by rw[hz]; exact av _)
 simp only[SF,bK,EV,seval];refine qL (xs:=xs) aI (fun m s=>s=m) (fun l (s:Nat)=>qD p l s) (fun _ i=>[(0,.cz 0 0 sz 0 xs.length),(1,.func g [cu 1]),(7,aH xs.length),(8,aH i)]) (fun _=>[.arr sz 0 (xs.map fun x => .agg (e x)),X]) (fun r=>some (aH r,[.arr sz 0 (xs.map fun x => .agg (e x)),X])) (fun s hs'=>?_) (fun pre x post s h hx cL hw h0 hm hI hi=>?_) 0 rfl
 ·simp only[nu (SE.eq_1 sz),qD,bu,hX.back,EV,seval]
 ·have i1:=hi (pre.length+1) rfl;rw[hI,qD];have hl2:((pre.length:Int)<((xs.length-0:Nat):Int))=True:=cL;simp only[nu (SE.eq_1 sz),cL,hl2,hx,hw,h0,hz,ht,hs,hk,hX.back,EV,seval];refine bC (fun hb=>?_) (fun hb=>?_)
  ·simp only[hb,hX.back,EV,seval]
  ·simp only[hb,hw,hX.back,af,EV,seval];exact i1
def aeP{C:eR}{X:cJ}(hX:Stl X){g n:Nat}{row:List ag}{r:Int}(h:C f [.cz 0 0 sz 0 n,.func g [cu 1]] [.arr sz 0 row,X]=some (aH r,[.arr sz 0 row,X])) :
  aU C f [.cz 0 0 sz 0 n,.func g [cu 1]] [.arr sz 0 row,X]=some (aH r,[.arr sz 0 row,X]):=by
 have a1:(cJ.arr sz 0 row).ids=[]:=rfl;have a2:(cJ.arr sz 0 row).flat=true:=rfl;have a3:∀ρ,(cJ.arr sz 0 row).pq ρ = .arr sz 0 row:=fun _=>rfl
 have e1:qz [.arr sz 0 row,X] [0,1]=[]:=by simp[qz,nth,a1,hX.ids]
 have e2:kD [.arr sz 0 row,X] [0,1]=[0,1]:=by simp[kD,e1,kc]
 have e3:reach [.arr sz 0 row,X] [0,1]=[0,1]:=by
  have ea:kc [] [0,1]=[0,1]:=rfl;simp only[reach,ea,e2]
 have e4:[ag.cz 0 0 sz 0 n,.func g [cu 1]].flatMap ag.ids=[0,1]:=rfl;have e5:j5 [.arr sz 0 row,X] (iw [0,1]) [0,1]=some [.arr sz 0 row,X]:=by simp[j5,nth,hX.flat,hX.pq,a2,a3]
 have e6:[ag.cz 0 0 sz 0 n,.func g [cu 1]].map (ag.pq (iw [0,1]))=[.cz 0 0 sz 0 n,.func g [cu 1]]:=rfl;unfold aU;rw[aX (show[ag.cz 0 0 sz 0 n,.func g [cu 1]].all ag.flat=true from rfl),e4,e3,e5,bO,aX e2,e6,h,bO,aX ⟨rfl,rfl,by simp[a2,hX.flat]⟩]
 simp[mh,iP,hX.pq,a3,ag.Ar,ag.pq,ag.sf,ag.ur]
def ae2{p:α->Bool}{X:cJ}{g N:Nat}{z:List ag}{k:List K}{R:List α->List α->Option (ag×aC)}(hN:N<=100000)(hz:∀x,(e x).length=sz)(hz0:z.length=sz)(hs:∀x,(e x).map ag.shut=e x)(hpl:∀x,(e x).all ag.plainCell=true)(hcl:∀x,(e x).all ag.jf=true)(hX:Stl X)
  (hk:∀x b M,aU (aq T) g [.agg (e x),cu 1] (b::X::M)=some (.bool (p x),b::X::M))
  (hx:∀(A G:List α) v q,A.length+G.length=N->G≠[]->kr (aq T) [.tmp 4] 2 k ⟨.exit 0,[(0,.cz 0 0 sz 0 N),(1,.func g [cu 1]),(5,aH A.length),(6,v),(19,q)],[.arr sz 0 ((A++G).map fun x => .agg (e x)),X]⟩=R A G) :
  ∀(U A G:List α),A.length+G.length+U.length=N->G≠[]->∃G',A.length+(U.filter fun x => !p x).length+G'.length=N/\eX (aq T) [.tmp 4] 2 k (.loop [0,1,5,6] (dlB sz z)) [(0,.cz 0 0 sz 0 N),(1,.func g [cu 1]),(5,aH A.length),(6,aH ((A.length+G.length:Nat):Int))] [.arr sz 0 ((A++G++U).map fun x => .agg (e x)),X] =
   R (A++U.filter fun x => !p x) G':=by
 have ht:∀x,(e x).take sz=e x:=fun x=>bB (by rw[hz]; exact av _)
 have hzd:z.drop sz=[]:=ir aI;intro U;induction U with
 |nil =>
  intro A G hl hg;have cL:(((A.length+G.length:Nat):Int)<((N-0:Nat):Int))=False:=by simp only[fG,iff_false]; simp at hl ⊢; omega
  refine⟨G,by simpa using hl,?_⟩
  rw[bG];simp only[nu (dlB.eq_1 sz z),cL,c8,kP,EV,seval];exact hx A G _ _ (by simpa using hl) hg
 |cons x U ih =>
  intro A G hl hg;simp only[au] at hl;have cL:(((A.length+G.length:Nat):Int)<((N-0:Nat):Int))=True:=sk;have hnn:((0:Int)<=((A.length+G.length:Nat):Int))=True:=sk
  have hat:(A++G++x::U)[A.length+G.length]?=some x:=by
   rw[bg dv]; simp
  have hw:IntKind.i64.wrap (((A.length+G.length:Nat):Int)+1)=((A.length+G.length+1:Nat):Int):=by rw[gw aI aI]; omega
  have hw1:IntKind.i64.wrap ((A.length:Int)+1)=((A.length+1:Nat):Int):=by rw[gw aI aI]; omega
  obtain⟨g0,G0,hG⟩:=fj hg;have hga:(A++G++x::U)[A.length]?=some g0:=by rw[hG]; simp
  have hset:(A++G++x::U).set A.length x=(A++[x])++(G0++[x])++U:=by rw[hG]; simp
  have hlt2:((A.length:Int)<((N-0:Nat):Int))=True:=sk
  have hput:iP ((A++G++x::U).map fun x=>ag.agg (e x)) A.length (putCells (.agg (e g0)) 0 (e x))=((A++[x])++(G0++[x])++U).map fun x=>ag.agg (e x):=by
   have:putCells (.agg (e g0)) 0 (e x) = .agg (e x):=by simp[putCells,mX,hz,ir]
   rw[this,fe,<-hset,gj]
  rw[bG];cases hb:p x
  ·obtain⟨G',h0,h1⟩:=ih (A++[x]) (G0++[x]) (by rw[hG] at hl; simp at hl ⊢; omega) dv
   have hl1:(((A++[x]).length+(G0++[x]).length:Nat):Int)=((A.length+G.length+1:Nat):Int):=by rw[hG]; simp; omega
   have hl3:((A++[x]).length:Int)=((A.length+1:Nat):Int):=dv;have hf:(x::U).filter (fun x => !p x)=x::U.filter fun x => !p x:=mH (by simpa using hb)
   rw[hl1,hl3] at h1;refine⟨G',by rw[hf]; simp at h0 ⊢; omega,?_⟩
   rw[hf,show A++x::U.filter (fun x => !p x)=A++[x]++U.filter fun x => !p x by simp,<-h1]
   simp only[nu (dlB.eq_1 sz z),cL,hnn,hat,hz,hz0,hzd,ht,hs,hcl,hk,hb,hlt2,hga,hput,hpl,hw,hw1,hX.back,EV,seval]
   done
  ·obtain⟨G',h0,h1⟩:=ih A (G++[x]) gm dv;have hl2:((A.length+(G++[x]).length:Nat):Int)=((A.length+G.length+1:Nat):Int):=gm;have hf:(x::U).filter (fun x => !p x)=U.filter fun x => !p x:=List.filter_cons_of_neg (by simpa using hb)
   rw[hl2,show A++(G++[x])++U=A++G++x::U by simp] at h1
   refine⟨G',by rw[hf]; exact h0,?_⟩
   rw[hf,<-h1];simp only[nu (dlB.eq_1 sz z),cL,hnn,hat,hz,hz0,hzd,ht,hs,hcl,hk,hb,hw,hX.back,EV,seval]
   done
def Du(sz m:Nat):ag:=if m=0 then .slice .sh [] else .cz 0 0 sz 0 m
def adz{p:α->Bool}{X:cJ}{g gi:Nat}{z zc:List ag}{zx:α}(hc:T.code f=some (dlF sz z zc gi))(hp:T.oY f=none)(hci:T.code gi=some (SF sz))(hpi:T.oY gi=none)(hzx:e zx=zc)(hn:xs.length<=100000)(hz:∀x,(e x).length=sz)(hz0:z.length=sz)(h1:1<sz)(hs:∀x,(e x).map ag.shut=e x)
  (hpl:∀x,(e x).all ag.plainCell=true) (hcl:∀x,(e x).all ag.jf=true) (hX:Stl X) (hk:∀x b M,aU (aq T) g [.agg (e x),cu 1] (b::X::M)=some (.bool (p x),b::X::M)) (h0:xs≠[]) :
  aq T f [.cz 0 0 sz 0 xs.length,.func g [cu 1]] [.arr sz 0 (xs.map fun x => .agg (e x)),X] =
   some (Du sz (xs.filter fun x => !p x).length,[.arr sz 0 (((xs.filter fun x => !p x)++List.replicate (xs.length-(xs.filter fun x => !p x).length) zx).map fun x => .agg (e x)),X]):=by
 have qi:=aeP hX (afl hci hpi hn hz hs hX hk);refine aB ?_ hp hc rfl
 by_cases hi:qD p xs 0 = -1
 ·have hl:xs.length≠0:=fun hh=>h0 (dP.1 hh)
  have hb:(qD p xs 0 == -1)=true:=by simpa using hi
  rw[FT hi];simp only[dlF,qi,hb,hX.back,EV,seval];simp[Du,hl]
 ·obtain⟨A,x,U,q1,q2,q3⟩:=FU hi;have hb:(qD p xs 0 == -1)=false:=by simpa using hi
  simp only[aJ] at q2;have dD:xs.length=A.length+(U.length+1):=by rw[q1]; simp
  have hw:IntKind.i64.wrap ((A.length:Int)+1)=((A.length+[x].length:Nat):Int):=by rw[gw aI aI]; simp
  have e1:A++[x]++U=xs:=by rw[q1]; simp
  rw[q2] at hb qi;rw[q3];simp only[dlF,qi,hb,hw,hX.back,EV,seval]
  have hx:∀(A' G:List α) v q,A'.length+G.length=xs.length->G≠[]->kr (aq T) [.tmp 4] 2 [.block 0,.seq (.seq (.region [ob 36 (.mv (.tmp 0)),ob 37 (.mv (.tmp 5)),ob 38 (.uv sz (.tmp 36) (some (.tmp 37)) none none),ox (.xc sz zc (.tmp 38))] false [0,5]) (.seq (.region [ob 39 (.mv (.tmp 0)),ob 40 (.mv (.tmp 5)),ob 41 (.uv sz (.tmp 39) none (some (.tmp 40)) none),ob 4 (.mv (.tmp 41))] false [4]) .ret))] ⟨.exit 0,[(0,.cz 0 0 sz 0 xs.length),(1,.func g [cu 1]),(5,aH A'.length),(6,v),(19,q)],[.arr sz 0 ((A'++G).map fun x => .agg (e x)),X]⟩ =
    some (Du sz A'.length,[.arr sz 0 ((A'++List.replicate (xs.length-A'.length) zx).map fun x => .agg (e x)),X]):=by
   intro A' G v q hl hg;have hgl:G.length≠0:=fun hh=>hg (dP.1 hh)
   have b1:(((A'.length:Nat):Int)<=(xs.length:Int))=True:=sk;have b2:(((A'.length:Nat):Int)==(xs.length:Int))=false:=gm;have hN:(A'++G).length=xs.length:=gm;have hd:xs.length-A'.length=G.length:=aI;have hz0:Int.toNat ((0:Nat):Int)=0:=rfl;have hb0:((0:Int)<=((A'.length:Nat):Int))=True:=dv;have hzl:zc.length=sz:=by rw[<-hzx]; exact hz zx
   have hzp:zc.all ag.plainCell=true:=by rw[<-hzx]; exact hpl zx
   have hcl2:((A'++G).map fun x=>ag.agg (e x)).take A'.length++(List.replicate G.length (ag.agg zc)++((A'++G).map fun x=>ag.agg (e x)).drop xs.length)=(A'++List.replicate G.length zx).map fun x=>ag.agg (e x):=by
    rw[<-hN,ir dv];simp[fQ,gX,hzx]
   by_cases hA:A'.length=0
   ·have b3:((0:Int)==((A'.length:Nat):Int))=true:=by simp[hA]
    simp only[gz,bK,dN,b1,b2,hd,hcl2,b3,hz0,hb0,hzl,hzp,hX.back,EV,seval];simp[Du,hA]
   ·have b3:((0:Int)==((A'.length:Nat):Int))=false:=gm;simp only[gz,bK,dN,b1,b2,hd,hcl2,b3,hz0,hb0,hzl,hzp,hX.back,EV,seval];simp[Du,hA]
  obtain⟨G',g1,g2⟩:=ae2 (R:=fun A' G=>some (Du sz A'.length,[.arr sz 0 ((A'++List.replicate (xs.length-A'.length) zx).map fun x => .agg (e x)),X])) hn hz hz0 hs hpl hcl hX hk hx U A [x] gm dv
  rw[e1] at g2;simp only[ob,ox,aA,au,aw,aJ] at g2;exact g2
end
end Go.Abs
namespace Go.Proofs.YteoamaffclmdbaaGreatDoor
section
open Go Go.Abs
attribute [local irreducible] eX fM lC gK dX kr aq aU cr bJ
def tkN(n:Node):List.take 6 (aM n)=aM n:=rfl
def shN(n:Node):List.map ag.shut (aM n)=aM n:=rfl
def tkE(n:gM):List.take 3 (fU n)=fU n:=rfl
def shE(n:gM):List.map ag.shut (fU n)=fU n:=rfl
def arz(a:Int):aq bW 257 [aH a] []=some (.bool false,[]):=by
 refine aB ?_;simp only[ado,aoZ,az,EN,seval]
def asZ a:=cP (arz a)
def qR(a b:Int):Int:=if decide (a<b) then -1 else if decide (b<a) then 1 else 0
def aqY(a b:Int):aq bW 209 [aH a,aH b] []=some (aH (qR a b),[]):=by
 refine aB ?_;simp only[acW,ais,asZ,EN,seval]
 repeat' ((first|apply bC|apply bU|apply dK)<;>intro hb<;>simp only[hb,EN,ais,seval])
 all_goals (simp_all only[qR,qB,↓reduceIte,reduceCtorEq,az]; done)
def Zc a b:=cP (aqY a b)
def x4(a b:Int):(qR a b<0)=(a<b):=by
 unfold qR
 by_cases h1:a<b
 ·simp[h1]
 ·by_cases h2:b<a<;>simp[h1,h2]
theorem GZ(a b:Int):(qR a b==0)=(a==b):=by
 unfold qR
 by_cases h1:a<b
 ·have:¬a=b:=aI;simp[h1,this]
 ·by_cases h2:b<a
  ·have:¬a=b:=aI;simp[h1,h2,this]
  ·have:a=b:=aI;simp[this]
def arK(n:Node)(ar:Int):aq bW 278 [.agg (aM n),aH ar] []=some (aH (qR n.ar ar),[]):=by
 refine aB ?_;simp only[adv,ao7,bL,aM,Zc,EN,seval]
def as5 n ar:=cP (arK n ar)
structure Ya(ae:List Node)(ar:Int)(b:Nat):Prop where
 le:b<=ae.length
 lt:∀h n,ae[h]?=some n->(n.ar<ar↔h<b)
def Jg(ae:List Node)(ar:Int)(b:Nat):Bool:=match ae[b]? with
 |some n=>n.ar==ar
 |none=>false
def arD(ae:List Node)(ar:Int)(b:Nat)(hb:Ya ae ar b)(hn:ae.length<=100000):aq bW 263 [ba ae,aH ar,.func 278 []] []=some (.tuple [aH b,.bool (Jg ae ar b)],[]):=by
 have h:=Y3 (f:=263) (sz:=6) (T:=bW) (c:=fun n:Node=>qR n.ar ar) (e:=aM) (fv := .func 278 []) (key := aH ar) (M:=[]) fy rfl ⟨hb.le,fun h n hn=>by simp only[x4,bj]; exact hb.lt h n hn⟩ hn (fun _=>rfl) (fun _=>rfl) (.inl ⟨_,_,rfl⟩) rfl rfl rfl rfl rfl fun _ _ => .inl ⟨_,_,rfl,as5 _ _ _⟩
 simp only[GZ] at h;rw[show Jg ae ar b=pn (fun x=>x.ar==ar) ae b by unfold Jg pn; cases ae[b]?<;>rfl]
 exact h
def as1 ae ar b hb hn:=cP (arD ae ar b hb hn)
def o4(ae:List Node):Prop:=ae.Pairwise fun a b=>a.ar<b.ar
def mq(ae:List Node)(ar:Int):Nat:=(ae.takeWhile fun n=>decide (n.ar<ar)).length
def uT{ae:List Node}(h:o4 ae)(ar:Int):Ya ae ar (mq ae ar):=by
 unfold mq;induction ae with
 |nil=>exact⟨dv,fun h n hn=>by simp at hn⟩
 |cons a r ih =>
  obtain⟨h1,h2⟩:=dj.1 h;obtain⟨i1,i2⟩:=ih h2
  by_cases ha:a.ar<ar
  ·rw[iu,aX (by simpa using ha)]
   refine⟨by simpa using i1,fun k n hn=>?_⟩
   cases k with
   |zero=>simp at hn; subst hn; simp[ha]
   |succ k=>rw[i2 k n (by simpa using hn)]; simp
  ·rw[iu,aL (by simpa using ha)]
   refine⟨dv,fun k n hn=>?_⟩
   simp only[aw,jL,iff_false];cases k with
   |zero=>simp at hn; subst hn; exact ha
   |succ k =>
    have:=h1 n (aK (by simpa using hn))
    omega
def tj{ae:List Node}(h:o4 ae)(ar:Int):(Jg ae ar (mq ae ar)=true/\∃n,ae[mq ae ar]?=some n/\find ae ar=some n/\n.ar=ar)\/(Jg ae ar (mq ae ar)=false/\find ae ar=none):=by
 obtain⟨l1,l2⟩:=uT h ar;cases hf:find ae ar with
 |some n =>
  left;obtain⟨hm,he⟩:=cD hf;obtain⟨k,hk⟩:=bV hm;have hkb:¬k<mq ae ar:=fun hc=>by have:=(l2 k n hk).2 hc; omega
  have hb:mq ae ar<ae.length:=by have:=(aj.1 hk).1; omega
  have hx:=ai hb;have hnl:¬ae[mq ae ar].ar<ar:=fun hc=>ib _ ((l2 _ _ hx).1 hc)
  have hke:k=mq ae ar:=by
   rcases bD (mq ae ar) k with cL|hge
   ·have hkl:=(aj.1 hk).1;have h3:=cm.1 h _ _ hb hkl cL;have h4:ae[k]=n:=by rw[ai hkl] at hk; injection hk
    rw[h4] at h3;omega
   ·omega
  subst hke;exact⟨by unfold Jg; rw[hk]; simp[he],n,hk,rfl,he⟩
 |none =>
  right;refine⟨?_,rfl⟩;unfold Jg;split
  ·rename_i n hn;have:=fu.1 hf n (aK hn);simpa using this
  ·rfl
def arn(ae:List Node)(next ak ar:Int)(h:o4 ae)(hn:ae.length<=100000):aq bW 240 [cu 0,aH ar] [cv [ba ae,aH next,aH ak]] =
  some (.tuple [aH (mq ae ar),.bool (Jg ae ar (mq ae ar))],[cv [ba ae,aH next,aH ak]]):=by
 refine aB ?_;have hk:=as1 ae ar _ (uT h ar) hn;simp only[adf,aoT,hk,EN,seval]
def afF ae next ak ar h hn p M hM:=cM (p:=p) (M:=M) hM (arn ae next ak ar h hn)
def c194(ae:List Node)(next ak ar:Int)(h:o4 ae)(hn:ae.length<=100000):aq bW 194 [cu 0,aH ar] [cv [ba ae,aH next,aH ak]] =
  some (.tuple [bL (bl ae ar),.bool (find ae ar).isSome],[cv [ba ae,aH next,aH ak]]):=by
 refine aB ?_;have hk:=fun M=>afF ae next ak ar h hn 0 (cv [ba ae,aH next,aH ak]::M) rfl
 simp only[acN,aed,hk,EN,seval];rcases tj h ar with ⟨h1,n,h2,h3,h4⟩|⟨h1,h2⟩
 ·simp only[aed,h1,h2,h3,bl,aM,EN,seval];rfl
 ·simp only[aed,h1,h2,bl,EN,seval];rfl
def Fc ae next ak ar h hn p M hM:=cM (p:=p) (M:=M) hM (c194 ae next ak ar h hn)
def aqR(ae:List Node)(next ak ar:Int)(h:o4 ae)(hn:ae.length<=100000):aq bW 197 [cu 0,aH ar] [cv [ba ae,aH next,aH ak]] =
  some (.tuple [bL (gW ae ar).1,aH (gW ae ar).2],[cv [ba ae,aH next,aH ak]]):=by
 refine aB ?_;have hk:=fun M=>Fc ae next ak ar h hn 0 (cv [ba ae,aH next,aH ak]::M) rfl
 simp only[acP,X3,hk,bL,aM,EN,seval];unfold gW;cases hf:find ae ar with
 |none=>simp only[X3,bl,hf,Option.isSome,EN,seval]; first|done|rfl
 |some n =>
  simp only[X3,bl,hf,Option.isSome,bm,EN,seval]
  repeat' ((first|apply bC|apply bU|apply dK)<;>intro hb<;>simp only[hb,EN,X3,seval])
  all_goals (clear hk; simp_all [Node.zero])
def Zb ae next ak ar h hn p M hM:=cM (p:=p) (M:=M) hM (aqR ae next ak ar h hn)
end
section
open Go
set_option maxRecDepth 100000 in
def MI{s pre r:List UInt8}{n:UInt8}(h:s=pre++n::r) :
  (n.toNat<128/\Utf8.decode ⟨s.toArray⟩ pre.length=(n.toNat,1)) \/
  ∃c m r',n::r=m++r'/\m≠[]/\(∀b,b∈m->128<=b.toNat)/\128<=c/\c<2147483648/\Utf8.decode ⟨s.toArray⟩ pre.length=(c,m.length):=by
 have hg:∀k,(⟨s.toArray⟩:ByteArray).get! (pre.length+k)=(n::r).getD k 0:=fun k=>by
  subst h
  show((pre++n::r).toArray)[pre.length+k]! = _
  simp only[List.getElem!_toArray,List.getElem!_eq_getElem?_getD,lq];rw[bg aI,iW];rfl
 have hsz:(⟨s.toArray⟩:ByteArray).size=pre.length+(n::r).length:=by
  show s.toArray.size=_
  subst h; simp
 by_cases hn:n.toNat<128
 ·refine .inl ⟨hn,?_⟩;have h0:=hg 0;simp only[db,List.getD_cons_zero] at h0;simp[Utf8.decode,h0,hn]
 ·refine .inr ?_;have hn':128<=n.toNat:=aI;have h0:=hg 0;have h1:=hg 1;have h2:=hg 2;have h3:=hg 3;simp only[db,List.getD_cons_zero,List.getD_cons_succ] at h0 h1 h2 h3
  have one:∀c,128<=c->c<2147483648->Utf8.decode ⟨s.toArray⟩ pre.length=(c,1)->∃c m r',n::r=m++r'/\m≠[]/\(∀b,b∈m->128<=b.toNat)/\128<=c/\c<2147483648/\Utf8.decode ⟨s.toArray⟩ pre.length=(c,m.length) :=
   fun c hc hc2 hd=>⟨c,[n],r,rfl,dv,by simpa using hn',hc,hc2,hd⟩
  have big:∀k,k<r.length->128<=(r.getD k 0).toNat->∃b,r[k]?=some b/\128<=b.toNat:=fun k hk hb=>by
   refine⟨r[k],ai hk,?_⟩;simpa[lq,ai hk] using hb
  have cL:¬n.toNat<0x80:=aI;have hN:n.toNat<256:=n.toNat_lt;unfold Utf8.decode at one ⊢;simp only[db,h0,h1,h2,h3,hsz,au,cL,aD] at one ⊢
  by_cases hA:(n.toNat / 32==6&&(decide (pre.length+1<pre.length+(r.length+1))&&(r.getD 0 0).toNat / 64==2))=true
  ·simp only[hA,aE] at one ⊢;simp only[bt,eu,bj] at hA;obtain⟨hA1,hA2,hA3⟩:=hA
   by_cases hc:n.toNat % 32*64+(r.getD 0 0).toNat % 64>=0x80
   ·simp only[hc,aE] at one ⊢;obtain⟨b0,g0,g1⟩:=big 0 aI aI
    match r,g0 with
    |_::r',g0 =>
     cases g0;exact⟨_,[n,_],r',rfl,dv,by simp[hn',g1],hc,aI,rfl⟩
   ·simp only[hc,aD] at one ⊢;exact one _ mr mr rfl
  ·simp only[hA,aD] at one ⊢
   by_cases hB:(n.toNat / 16==14&&(decide (pre.length+1<pre.length+(r.length+1))&&(r.getD 0 0).toNat / 64==2)&&(decide (pre.length+2<pre.length+(r.length+1))&&(r.getD 1 0).toNat / 64==2))=true
   ·simp only[hB,aE] at one ⊢;simp only[bt,eu,bj] at hB;obtain⟨⟨hB1,hB2,hB3⟩,hB4,hB5⟩:=hB
    by_cases hc:((n.toNat % 16*4096+(r.getD 0 0).toNat % 64*64+(r.getD 1 0).toNat % 64>=0x800:Bool)&&Utf8.valid ((n.toNat % 16*4096+(r.getD 0 0).toNat % 64*64+(r.getD 1 0).toNat % 64:Nat):Int))=true
    ·simp only[hc,aE] at one ⊢;simp only[bt,bj] at hc;obtain⟨b0,g0,g1⟩:=big 0 aI aI;obtain⟨b1,k0,k1⟩:=big 1 aI aI
     match r,g0,k0 with
     |_::_::r',g0,k0 =>
      cases g0;cases k0;exact⟨_,[n,_,_],r',rfl,dv,by simp[hn',g1,k1],aI,aI,rfl⟩
    ·simp only[hc,aD] at one ⊢;exact one _ mr mr rfl
   ·simp only[hB,aD] at one ⊢
    by_cases hC:(n.toNat / 8==30&&(decide (pre.length+1<pre.length+(r.length+1))&&(r.getD 0 0).toNat / 64==2)&&(decide (pre.length+2<pre.length+(r.length+1))&&(r.getD 1 0).toNat / 64==2)&&(decide (pre.length+3<pre.length+(r.length+1))&&(r.getD 2 0).toNat / 64==2))=true
    ·simp only[hC,aE] at one ⊢;simp only[bt,eu,bj] at hC;obtain⟨⟨⟨hB1,hB2,hB3⟩,hB4,hB5⟩,hB6,hB7⟩:=hC
     by_cases hc:((n.toNat % 8*262144+(r.getD 0 0).toNat % 64*4096+(r.getD 1 0).toNat % 64*64+(r.getD 2 0).toNat % 64>=0x10000:Bool)&&Utf8.valid ((n.toNat % 8*262144+(r.getD 0 0).toNat % 64*4096+(r.getD 1 0).toNat % 64*64+(r.getD 2 0).toNat % 64:Nat):Int))=true
     ·simp only[hc,aE] at one ⊢;simp only[bt,bj] at hc;obtain⟨b0,g0,g1⟩:=big 0 aI aI;obtain⟨b1,k0,k1⟩:=big 1 aI aI;obtain⟨b2,l0,l1⟩:=big 2 aI aI
      match r,g0,k0,l0 with
      |_::_::_::r',g0,k0,l0 =>
       cases g0;cases k0;cases l0;exact⟨_,[n,_,_,_],r',rfl,dv,by simp[hn',g1,k1,l1],aI,aI,rfl⟩
     ·simp only[hc,aD] at one ⊢;exact one _ mr mr rfl
    ·simp only[hC,aD] at one ⊢;exact one _ mr mr rfl
end
section
open Go Go.Abs
section
attribute [local irreducible] eX fM lC gK dX kr aq aU cr bJ
def pk(_:Bytes):Prop:=True
def all_true{m:Bytes}(h:∀b,b∈m->128<=b.toNat):m.all sW=true:=by
 rw[bN];intro b hb;have:=h b hb;have h1:¬((b.toNat:Int)<32):=aI;have h2:¬((b.toNat:Int)=47):=aI;simp[sW,h1,h2]
def aam{s:Bytes}(hs:s.length<=100000)(ha:pk s){k:List K}{R:Bool->Option (ag×aC)}
  (hx:∀e p,kr (aq bW) [.tmp 2] 0 k ⟨.exit 0,e,[.oa s p]⟩=R true) (hr:∀p,kr (aq bW) [.tmp 2] 0 k ⟨.ret,[(2,.bool false)],[.oa s p]⟩=R false) :
  ∀(q:Nat)(l pre:Bytes),l.length<=q->s=pre++l->eX (aq bW) [.tmp 2] 0 k (.loop [21] Nn) [(21,.j8 0)] [.oa s pre.length]=R (l.all sW):=by
 intro q;induction q with
 |zero =>
  intro l pre hq h;have h0:l=[]:=dC aI;subst h0;rw[bG];have cL:(pre.length<s.length)=False:=by rw[h]; simp
  simp only[wM,cL,EN,seval];exact hx _ _
 |succ q ih =>
  intro l pre hq h;cases l with
  |nil =>
   rw[bG];have cL:(pre.length<s.length)=False:=by rw[h]; simp
   simp only[wM,cL,EN,seval];exact hx _ _
  |cons n r =>
   rw[bG];have cL:(pre.length<s.length)=True:=by rw[h]; simp
   rcases MI h with ⟨hn,hd⟩|⟨c,m,r',hm,hne,hb,hc,hc2,hd⟩
   ·have hi:=ih r (pre++[n]) (by simp at hq; omega) (by rw[h]; simp)
    simp only[aA,au,aw,aJ] at hi;simp only[wM,cL,hd,EN,seval]
    repeat' ((first|apply bC|apply bU|apply dK)<;>intro hb<;>simp only[hb,wM,hd,EV,seval])
    all_goals first
     |(refine(hr _).trans ?_; congr 1; symm; clear hi ih hx hr hd h; simp_all [sW]; done)
     |(refine hi.trans ?_; congr 1; symm; clear hi ih hx hr hd h; simp_all [sW]; done)
   ·have hml:0<m.length:=gP.2 hne;have hl2:(n::r).length=m.length+r'.length:=by rw[hm]; simp
    have hi:=ih r' (pre++m) (by simp at hq hl2; omega) (by rw[h,hm]; simp)
    simp only[aA] at hi;have h32:decide ((c:Int)<32)=false:=gm;have h47:((c:Int)==47)=false:=by rw[jl]; omega
    rw[hm,oM,all_true hb,dZ];simp only[wM,cL,hd,h32,h47,EN,seval];exact hi
def c198(s:Bytes)(hs:s.length<=100000)(ha:pk s):aq bW 198 [.str s] []=some (.bool (fY s),[]):=by
 refine aB ?_;simp only[I0,wM,EN,seval];have hl:=fun k hx hr=>aam (k:=k) (R:=fun b=>some (ag.bool b,[])) hs ha hx hr s.length s [] (av _) rfl
 have he:(s==[])=decide ((s.length:Int)<1):=by cases s<;>simp; omega
 rw[he]
 repeat' ((first|apply bC|apply bU|apply dK)<;>intro hb<;>simp only[hb,EN,wM,seval])
 all_goals first
  |(clear hl he; simp_all [fY]; done)
  |(refine(hl _ (fun e p=>by simp only[wM,EN,seval]) (fun p=>by simp only[wM,EN,seval])).trans ?_; clear hl he; simp_all [fY]; done)
def afC s hs ha:=cP (c198 s hs ha)
def as6(a b:Bytes)(M:aC):aU (aq bW) 286 [.str a,.str b] M=some (aH (Lib.compareBytes a b),M) :=
 cO (fg (g:=Ag) rfl rfl) M
def arv(a b:Bytes):aq bW 251 [.str a,.str b] []=some (aH (Lib.compareBytes a b),[]):=by
 refine aB ?_;simp only[adk,aoX,as6,EN,seval]
def asV a b:=cP (arv a b)
def MG:∀(a b:Bytes),(Lib.compareBytes a b<0)=(strLt a b=true)
 | [],[]=>by simp[Lib.compareBytes,strLt]
 | [],_::_=>by simp[Lib.compareBytes,strLt]
 |_::_,[]=>by simp[Lib.compareBytes,strLt]
 |a::x,b::y=>by
  rw[Lib.compareBytes,strLt]
  by_cases h1:a<b
  ·simp[h1]
  ·by_cases h2:b<a
   ·have h3:¬a=b:=by rintro rfl; exact oU _ h2
    simp[h1,h2,h3]
   ·have h3:a=b:=by rw[<-kQ]; simp only[lf] at h1 h2; omega
    subst h3;simp[h1,MG x y]
def MF:∀(a b:Bytes),(Lib.compareBytes a b==0)=(a==b)
 | [],[]=>by simp[Lib.compareBytes]
 | [],_::_=>by simp[Lib.compareBytes]
 |_::_,[]=>by simp[Lib.compareBytes]
 |a::x,b::y=>by
  rw[Lib.compareBytes]
  by_cases h1:a<b
  ·have h3:¬a=b:=by rintro rfl; exact oU _ h1
   simp[h1,h3]
  ·by_cases h2:b<a
   ·have h3:¬a=b:=by rintro rfl; exact oU _ h2
    simp[h1,h2,h3]
   ·have h3:a=b:=by rw[<-kQ]; simp only[lf] at h1 h2; omega
    subst h3;simp only[h1,aD,MF x y];simp
def aru(e:gM)(s:Bytes):aq bW 250 [.agg (fU e),.str s] []=some (aH (Lib.compareBytes e.name s),[]):=by
 refine aB ?_;simp only[adj,aoW,iG,fU,asV,EN,seval]
def asU e s:=cP (aru e s)
structure Oo(bc:List gM)(s:Bytes)(b:Nat):Prop where
 le:b<=bc.length
 lt:∀h n,bc[h]?=some n->(strLt n.name s=true↔h<b)
def zZ(bc:List gM)(s:Bytes)(b:Nat):Bool:=match bc[b]? with
 |some n=>n.name==s
 |none=>false
def art(bc:List gM)(s:Bytes)(b:Nat)(hb:Oo bc s b)(hn:bc.length<=100000):aq bW 249 [jb bc,.str s,.func 250 []] []=some (.tuple [aH b,.bool (zZ bc s b)],[]):=by
 have h:=Y3 (f:=249) (sz:=3) (T:=bW) (c:=fun n:gM=>Lib.compareBytes n.name s) (e:=fU) (fv := .func 250 []) (key := .str s) (M:=[]) fy rfl ⟨hb.le,fun h n hn=>by simp only[MG,bj]; exact hb.lt h n hn⟩ hn (fun _=>rfl) (fun _=>rfl) (.inl ⟨_,_,rfl⟩) rfl rfl rfl rfl rfl fun _ _ => .inl ⟨_,_,rfl,asU _ _ _⟩
 simp only[MF] at h;rw[show zZ bc s b=pn (fun x=>x.name==s) bc b by unfold zZ pn; cases bc[b]?<;>rfl]
 exact h
def asT bc s b hb hn:=cP (art bc s b hb hn)
def ri(l:List gM):Prop:=l.Pairwise fun a b=>strLt a.name b.name=true
def mD(l:List gM)(s:Bytes):Nat:=(l.takeWhile fun n=>strLt n.name s).length
def aqS(n:Node)(s:Bytes)(b:Nat)(hb:Oo n.bc s b)(hn:n.bc.length<=100000):aq bW 199 [bL n,.str s] []=some (.tuple [aH b,.bool (zZ n.bc s b)],[]):=by
 refine aB ?_;have hk:=asT n.bc s b hb hn;simp only[acQ,aoF,bL,aM,hk,EN,seval]
def SX(a b c:Int)(d:Bytes)(e:List gM)(u:Int)(s:Bytes)(i:Nat)(hb:Oo e s i)(hn:e.length<=100000)(M:aC):aU (aq bW) 199 [.agg [aH a,aH b,aH c,cV d,jb e,aH u],.str s] M=some (.tuple [aH i,.bool (zZ e s i)],M) :=
 cO (aqS ⟨a,b,c,d,e,u⟩ s i hb hn) M
end
section
open Go.RowKit Go.Shelf
def Fm{α:Type}(b0:Nat)(F:Fence)(n:Nat)(P:Program)(g:Nat)(lb:Array Value)(encs:α->Array Value)(Kp:World->World->Prop)(S Sp:List α->Prop)(N:Nat)(w:World):Prop :=
 ∀(l:Nat)(J Jx:List α->World->Prop)(W:World),Below w.heap.size w W->AbidesFrom W.heap.size J->AbidesFrom W.heap.size Jx->(∀s A v,J s A->J s (A.setCell ⟨b0,0,none⟩ v)) ->
  (∀pre x W1,J pre W1->pre.length<N->YieldAt F (n-1) P l (encs x) W1 fun e W' =>
   (e = .returned (.bool true)/\J (pre++[x]) W'/\Kp W1 W')\/(e = .returned (.bool false)/\Jx (pre++[x]) W')) ->
  J [] W ->
  CallsIn F n P g (#[.func (.yield l) #[] #[]]++lb) W fun e W'=>(∃v,e = .returned v)/\((∃xs,S xs/\J xs W')\/(∃pre,Sp pre/\Jx pre W'))
def yt{F:Fence}{n:Nat}{P:Program}{b0:Nat}{α:Type}{g:Operand}{ps:Array Tmp}{assign body:Code}{Q:Exit->Act->World->Prop}{a:Act}{w:World}(hb0w:b0<w.heap.size)
  (hro:F.round=none) (h1:1<=n) {gf:Nat} {lb:Array Value} (hg:a.eval g = .func (.func gf) #[] lb) (hFg:F.fn gf) (eg:∀args w,(callFunc gf args).run P w = .ok (.enter gf args) w)
  {encs:α->Array Value} {Kp:World->World->Prop} {S Sp:List α->Prop} {N:Nat} {w0:World} (hseq:Fm b0 F (n-1) P gf lb encs Kp S Sp N w0)
  (hKt:∀ {A B C:World},Kp A B->Kp B C->Kp A C) (hKb:∀(W:World)(l:Nat)(o o':Obj),w.heap.size<=l->W.heap[l]?=some o->o.isCells=false->o.isWalk=false->Kp W (W.putObj l o')) (hb0:Below w0.heap.size w0 w) (hps:∀x,(encs x).size=ps.size)
  (I:List α->World->Prop) (Ix:Code->List α->World->Prop) (hI:OwnFrom w.heap.size I) (hIx:∀c,OwnFrom w.heap.size (Ix c)) (hIc:∀s A v,I s A->I s (A.setCell ⟨b0,0,none⟩ v)) (h0:I [] w) (a₁:α->Act)
  (hassign:∀(l:Nat)(x:α)(W:World)(K:Act->World->Prop),K (a₁ x) W ->
   assign.wpIn (F.inRound l) (n-1-1) P (Exit.then K (fun _ _ _=>False)) { tmps:=(ps.zip (encs x)).foldl (fun t (p,v)=>t.setIfInBounds p v) a.tmps,defers:=[] } W)
  (hbody:∀(l:Nat)(pre:List α)(x:α)(W:World),I pre W->pre.length<N->body.wpIn (F.inRound l) (n-1-1) P (ownPostK Kp I Ix (pre++[x]) W) (a₁ x) W)
  (hdone:∀(D:Nat)(xs:List α)(W:World),w.heap.size<=D->S xs->I xs W->W.heap[D]?=some (.deferred (some []))->Q .normal { a with defers:={ target := .collected D,args := #[] }::a.defers } W)
  (hstop:∀(D:Nat)(c:Code)(pre:List α)(W:World),w.heap.size<=D->Sp pre->Ix c pre W->W.heap[D]?=some (.deferred (some []))->c.wpIn F n P Q { a with defers:={ target := .collected D,args := #[] }::a.defers } W) :
  (Code.rangeFunc g ps assign body).wpIn F n P Q a w:=by
 refine wpIn_rangeFunc ?_;intro fn hfn;rw[hro];obtain⟨rec,hrec⟩:∃rec:LoopState->Option Code->Loop,rec=fun st pe=>{ state:=st,pending:=pe,fn,tmps:=a.tmps,params:=ps,assign,body,defers:=w.heap.size }:=⟨_,rfl⟩
 obtain⟨W1,hW1⟩:∃W1,(w.alloc (.deferred (some []))).alloc (.loop (rec .ready none))=W1:=⟨_,rfl⟩
 have hL1:W1.heap[w.heap.size+1]?=some (.loop (rec .ready none)):=by
  rw[<-hW1]; have:=World.alloc_heap_new (w.alloc (.deferred (some []))) (.loop (rec .ready none)); rwa[World.size_alloc] at this
 have hK1:W1.heap[w.heap.size]?=some (.deferred (some [])):=by
  rw[<-hW1]; exact(Below.heap_alloc _ _ _ dv).trans (World.alloc_heap_new w _)
 have hI1:I [] W1:=by rw[<-hW1]; exact hI.alloc _ (hI.alloc _ h0)
 have hb1:Below w0.heap.size w0 W1:=by
  rw[<-hW1]; exact hb0.trans ((((Below.refl _ w).alloc (av _) _).alloc dv _).mono hb0.size)
 refine⟨w.heap.size+1,[{ target := .collected w.heap.size,args := #[] }],W1,{ target := .fn (.func gf) lb,args := #[.func (.yield (w.heap.size+1)) #[] #[]] },W1,gf,
  #[.func (.yield (w.heap.size+1)) #[] #[]]++lb,W1,?_,?_,?_,?_,fun _=>h1,?_⟩
 ·rw[<-hW1,hrec]; exact run_enterLoop_outer _ _ _ _ _
 ·simp only[resolve,hg];simp[go_sem]
 ·intro f' hf'; simp[Target.leads] at hf'; subst hf'; exact hFg
 ·simp[invoke,go_sem,eg]
 ·have hnw:∀ {A B:World} {row:Option Nat},(∀r,row=some r->W1.heap.size<=r/\∃o:Obj,A.heap[r]?=some o/\o.isWalk=true)->(∀r,row=some r->w.heap.size<=r/\∃o:Obj,A.heap[r]?=some o/\o.isCells=false) :=
   fun hr r e=>by obtain⟨hB,o,ho,hw⟩:=hr r e; exact⟨by rw[<-hW1] at hB; simp at hB; omega,o,ho,Obj.not_cells_of_walk hw⟩
  refine(hseq (w.heap.size+1)
   (fun pre W=>I pre W/\W.heap[w.heap.size+1]?=some (.loop (rec .ready none))/\W.heap[w.heap.size]?=some (.deferred (some [])))
   (fun pre W=>∃c,Ix c pre W/\W.heap[w.heap.size+1]?=some (.loop (rec .done (some c)))/\W.heap[w.heap.size]?=some (.deferred (some [])))
   W1 hb1
   (fun s A B row hs hg' hr=>⟨hI s A B row hs.1 hg' (hnw (B:=B) hr),(grownBy_keeps hg' (fun r e=>(hr r e).2) hs.2.1 rfl).trans hs.2.1,(grownBy_keeps hg' (fun r e=>(hr r e).2) hs.2.2 rfl).trans hs.2.2⟩)
   (fun s A B row hs hg' hr=>by
    obtain⟨c,hc,hl,hk⟩:=hs;exact⟨c,hIx c s A B row hc hg' (hnw (B:=B) hr),(grownBy_keeps hg' (fun r e=>(hr r e).2) hl rfl).trans hl,(grownBy_keeps hg' (fun r e=>(hr r e).2) hk rfl).trans hk⟩)
   (fun s A v hs=>⟨hIc s A v hs.1,(Below.heap_setCell _ _ _ _ (by show _≠b0; omega)).trans hs.2.1,(Below.heap_setCell _ _ _ _ (by show _≠b0; omega)).trans hs.2.2⟩)
   ?_ ⟨hI1,hL1,hK1⟩).mono ?_
  ·rintro pre x W ⟨hi,hl,hk⟩ dD;have cL:w.heap.size+1<W.heap.size:=(fI.1 hl).1;have hy:=run_yield (P:=P) (args:=encs x) hl (by rw[hrec]; exact hps x)
   rw[hrec] at hy;refine⟨fn,_,assign,body,hy,roundIn_of_wpIn hfn (hassign _ x W _ ⟨_,run_beginRound hl (by rw[hrec]),?_⟩)⟩
   have hl2:(W.putObj (w.heap.size+1) (.loop { rec .ready none with state := .busy })).heap[w.heap.size+1]?=some (.loop { rec .ready none with state := .busy }):=World.putObj_heap_same cL
   have hk2:(W.putObj (w.heap.size+1) (.loop { rec .ready none with state := .busy })).heap[w.heap.size]?=some (.deferred (some [])):=(World.putObj_heap_other aI).trans hk
   have hw2:Kp W (W.putObj (w.heap.size+1) (.loop { rec .ready none with state := .busy })):=hKb _ _ _ _ aI hl rfl rfl
   refine wpIn_mono (hbody _ pre x _ (hI.putObj _ hi aI hl rfl) dD) ?_
   have fin:∀(jump:Option Code)(W3:World),KeepsOthers (W.putObj (w.heap.size+1) (.loop { rec .ready none with state := .busy })) W3 ->
     (Instr.endRound (w.heap.size+1) jump).run P W3 = .ok (.bool jump.isNone) (W3.putObj (w.heap.size+1) (.loop (rec (if jump.isNone then .ready else .done) jump))) /\
     W3.heap[w.heap.size+1]?=some (.loop { rec .ready none with state := .busy }) /\
     (W3.putObj (w.heap.size+1) (.loop (rec (if jump.isNone then .ready else .done) jump))).heap[w.heap.size+1]?=some (.loop (rec (if jump.isNone then .ready else .done) jump)) /\
     (W3.putObj (w.heap.size+1) (.loop (rec (if jump.isNone then .ready else .done) jump))).heap[w.heap.size]?=some (.deferred (some [])):=fun jump W3 hk3=>by
    have hl3:=hk3.same _ _ hl2 rfl;have:=run_endRound (P:=P) jump hl3;rw[hrec] at this ⊢;exact⟨this,by rw[hrec] at hl3; exact hl3,World.putObj_heap_same (fI.1 hl3).1,(World.putObj_heap_other aI).trans (hk3.same _ _ hk2 rfl)⟩
   rintro e a3 W3 hp;cases e with
   |normal =>
    obtain⟨hk3,hkp3,hi3⟩:=hp;obtain⟨hr,hl3,hl4,hk4⟩:=fin none W3 hk3;exact⟨_,_,hr,.inl ⟨rfl,⟨hI.putObj _ hi3 aI hl3 rfl,hl4,hk4⟩,hKt (hKt hw2 hkp3) (hKb _ _ _ _ aI hl3 rfl rfl)⟩⟩
   |ret =>
    obtain⟨hk3,hi3⟩:=hp;obtain⟨hr,hl3,hl4,hk4⟩:=fin (some .ret) W3 hk3;exact⟨_,_,hr,.inr ⟨rfl,.ret,(hIx _).putObj _ hi3 aI hl3 rfl,hl4,hk4⟩⟩
   |exit id =>
    obtain⟨hk3,hi3⟩:=hp;obtain⟨hr,hl3,hl4,hk4⟩:=fin (some (.exit id)) W3 hk3;exact⟨_,_,hr,.inr ⟨rfl,.exit id,(hIx _).putObj _ hi3 aI hl3 rfl,hl4,hk4⟩⟩
   |goto t =>
    obtain⟨hk3,hi3⟩:=hp;obtain⟨hr,hl3,hl4,hk4⟩:=fin (some (.goto t)) W3 hk3;exact⟨_,_,hr,.inr ⟨rfl,.goto t,(hIx _).putObj _ hi3 aI hl3 rfl,hl4,hk4⟩⟩
   |panic ch=>exact hp.elim
   |outgrown=>exact hp.elim
  ·rintro e W2 ⟨⟨v,rfl⟩,(⟨xs,hS,hi,hl,hk⟩|⟨pre,hSp,c,hi,hl,hk⟩)⟩
   ·exact⟨none,_,by have:=run_endLoop (P:=P) hl (by rw[hrec]; simp); rw[hrec] at this; exact this,hdone _ xs _ (av _) hS (hI.putObj _ hi aI hl rfl) ((World.putObj_heap_other aI).trans hk)⟩
   ·exact⟨some c,_,by have:=run_endLoop (P:=P) hl (by rw[hrec]; simp); rw[hrec] at this; exact this,hstop _ c pre _ (av _) hSp ((hIx c).putObj _ hi aI hl rfl) ((World.putObj_heap_other aI).trans hk)⟩
def Nh:J:=⟨fun _=>none,fun _ _=>False⟩
def WR(w:World):Rel Nh [] w where
 inj:=fun _ _ _ h=>by cases h
 lt:=fun _ _ h=>by cases h
 fix:=fun _ _ h=>by cases h
 tick:=fun _ _ _ _ h=>by cases h
 arr:=fun _ _ _ _ h=>by cases h
 vj:=fun _ _ h=>by cases h
 AD:=fun _ _ h=>h.elim
@[reducible] def G0:kH:={ g:=fun _=>none }
def ahh:@pg G0 Tryz.prog (Fo [] f198) f198=some I0:=fy
def ahi:@pg G0 Tryz.prog (Fo [] f275) f275=some M7:=fy
def ahj:@pg G0 Tryz.prog (Fo [] f302) f302=some M8:=fy
def ahk:@pg G0 Tryz.prog (Fo [] f325) f325=some I1:=fy
def Ht{α:Type}{x:α}{P:Prop}(h:(none:Option α)=some x):P:=by cases h
def alZ(w:World):@sQ G0 Nh [] w:=@sQ.mk G0 _ _ _ (fun b vs k v h=>Ht (show(none:Option (List Value))=some vs from h)) (fun b vs h=>Ht (show(none:Option (List Value))=some vs from h)) (fun b p h=>Ht (show(none:Option (Value->Prop))=some p from h))
def abO:Nat->Option eH
 |198=>some I0
 |275=>some M7
 |302=>some M8
 |325=>some I1
 |_=>none
noncomputable def EM:zB:=⟨abO,fun _=>none⟩
def abl:@vn G0 Tryz.prog EM:=by
 refine @vn.mk G0 _ _ (fun f fn h=>?_) (fun f g h=>by cases h)
 simp only[EM] at h;unfold abO at h;split at h
 ·cases h; exact⟨_,_,func198,ahh⟩
 ·cases h; exact⟨_,_,func275,ahi⟩
 ·cases h; exact⟨_,_,func302,ahj⟩
 ·cases h; exact⟨_,_,func325,ahk⟩
 ·cases h
def ahO:@nP G0 Tryz.prog (aq EM):=@qU G0 _ fy _ abl
section
attribute [local irreducible] eX fM lC gK dX kr aq aU cr bJ
def VT{s:Bytes}(hs:s.length<=100000)(ha:pk s){k:List K}{R:Bool->Option (ag×aC)}
  (hx:∀e p,kr (aq EM) [.tmp 2] 0 k ⟨.exit 0,e,[.oa s p]⟩=R true) (hr:∀p,kr (aq EM) [.tmp 2] 0 k ⟨.ret,[(2,.bool false)],[.oa s p]⟩=R false) :
  ∀(q:Nat)(l pre:Bytes),l.length<=q->s=pre++l->eX (aq EM) [.tmp 2] 0 k (.loop [21] Nn) [(21,.j8 0)] [.oa s pre.length]=R (l.all sW):=by
 intro q;induction q with
 |zero =>
  intro l pre hq h;have h0:l=[]:=dC aI;subst h0;rw[bG];have cL:(pre.length<s.length)=False:=by rw[h]; simp
  simp only[wM,cL,EN,seval];exact hx _ _
 |succ q ih =>
  intro l pre hq h;cases l with
  |nil =>
   rw[bG];have cL:(pre.length<s.length)=False:=by rw[h]; simp
   simp only[wM,cL,EN,seval];exact hx _ _
  |cons n r =>
   rw[bG];have cL:(pre.length<s.length)=True:=by rw[h]; simp
   rcases MI h with ⟨hn,hd⟩|⟨c,m,r',hm,hne,hb,hc,hc2,hd⟩
   ·have hi:=ih r (pre++[n]) (by simp at hq; omega) (by rw[h]; simp)
    simp only[aA,au,aw,aJ] at hi;simp only[wM,cL,hd,EN,seval]
    repeat' ((first|apply bC|apply bU|apply dK)<;>intro hb<;>simp only[hb,wM,hd,EV,seval])
    all_goals first
     |(refine(hr _).trans ?_; congr 1; symm; clear hi ih hx hr hd h; simp_all [sW]; done)
     |(refine hi.trans ?_; congr 1; symm; clear hi ih hx hr hd h; simp_all [sW]; done)
   ·have hml:0<m.length:=gP.2 hne;have hl2:(n::r).length=m.length+r'.length:=by rw[hm]; simp
    have hi:=ih r' (pre++m) (by simp at hq hl2; omega) (by rw[h,hm]; simp)
    simp only[aA] at hi;have h32:decide ((c:Int)<32)=false:=gm;have h47:((c:Int)==47)=false:=by rw[jl]; omega
    rw[hm,oM,all_true hb,dZ];simp only[wM,cL,hd,h32,h47,EN,seval];exact hi
def akL(s:Bytes)(hs:s.length<=100000)(ha:pk s):aq EM 198 [.str s] []=some (.bool (fY s),[]):=by
 refine aB ?_;simp only[I0,wM,EN,seval];have hl:=fun k hx hr=>VT (k:=k) (R:=fun b=>some (ag.bool b,[])) hs ha hx hr s.length s [] (av _) rfl
 have he:(s==[])=decide ((s.length:Int)<1):=by cases s<;>simp; omega
 rw[he]
 repeat' ((first|apply bC|apply bU|apply dK)<;>intro hb<;>simp only[hb,EN,wM,seval])
 all_goals first
  |(clear hl he; simp_all [fY]; done)
  |(refine(hl _ (fun e p=>by simp only[wM,EN,seval]) (fun p=>by simp only[wM,EN,seval])).trans ?_; clear hl he; simp_all [fY]; done)
end
def Eu{f:Nat}{args:List ag}{r:ag}(h:aq EM f args []=some (r,[]))(hp:r.jo=false)(w:World)(vs:Array Value)(hl:args.length=vs.size)(hv:∀(i:Nat)(c:ag)(v:Value),args[i]?=some c->vs[i]?=some v->gn Nh [] w c v) :
  Calls Tryz.prog f vs w fun e w'=>∃v j',e = .returned v/\w.grownBy w' none/\gn j' [] w' r v:=by
 refine((ahO f args [] _ h).2 Nh w vs (WR w) (alZ w) hl hv).mono ?_;intro e w' hce;obtain⟨v,rfl,j',_,hx,hr⟩:=hce.ret hp;exact⟨v,j',rfl,⟨hx.os,hx.tape,hx.output,hx.size,fun k hk _=>(hx.um k hk fun i hi=>by cases hi).1⟩,hr⟩
def WZ(s:Bytes)(hs:s.length<=100000)(ha:pk s)(w:World):Calls Tryz.prog 198 #[.string (bs s)] w fun e w'=>e = .returned (.bool (fY s))/\w.grownBy w' none:=by
 refine(Eu (akL s hs ha) rfl w #[.string (bs s)] rfl ?_).mono ?_
 ·intro i c v h1 h2
  match i with
  |0=>cases h1; cases h2; exact .plain (.str _)
  |i+1=>cases h1
 ·rintro e w' ⟨v,j',rfl,hg,hr⟩;rw[hr.jD];exact⟨rfl,hg⟩
set_option maxHeartbeats 1000000 in
set_option maxRecDepth 100000 in
def SI(a:ByteArray)(c:Int)(w:World) :
  Calls Tryz.prog 303 #[.string a,.int .u8 c] w fun e w'=>e = .returned (.int .i64 (Lib.indexByte a.data.toList c.toNat.toUInt8))/\w'=w:=by
 go_enter func303,ntmps303
 go_wp2
 rw[run_callFunc_extern func326 fy fy fy (e:=Extern.BytealgIndexByte.indexByte) fy,Lib.run_indexByteString];simp only[Result.andThen];rw[Oper.upon_value]
 go_wp2
 go_ret
 exact⟨rfl,rfl⟩
set_option maxHeartbeats 1000000 in
set_option maxRecDepth 100000 in
def SH(a:ByteArray)(c:Int)(w:World) :
  Calls Tryz.prog 276 #[.string a,.int .u8 c] w fun e w'=>e = .returned (.int .i64 (Lib.indexByte a.data.toList c.toNat.toUInt8))/\w'=w:=by
 go_enter func276,ntmps276
 go_wp2_with (go_at_call 303; refine(SI _ _ _).mono ?_; rintro e w' ⟨rfl,rfl⟩)
 go_ret
 exact⟨rfl,rfl⟩
section ev
attribute [local irreducible] eX fM lC gK dX kr aq aU cr bJ
def tY:Bytes->Bytes×Bool
 |b::r=>if b=47 then (r,true) else (b::r,false)
 | []=>([],false)
def Pm:Bytes->Bool
 |b::_=>b==47
 | []=>false
def arP(s:Bytes):aq EM 325 [.str s,.str [47]] []=some (.bool (Pm s),[]):=by
 refine aB ?_;cases s with
 |nil =>
  have h0:decide (((1:Nat):Int)<=((0:Nat):Int))=false:=mr;simp only[I1,X8,h0,EN,seval];simp only[Pm,X8,h0,EN,seval]
 |cons b r =>
  have h1:(1:Int)<=(r.length:Int)+1:=aI;simp only[I1,X8,EN,seval];simp[Pm,h1,gz,X8,EN,seval]
  try (cases hb:(b==47)<;>simp_all)
def amE s:=cP (arP s)
def arO(s:Bytes):aq EM 302 [.str s,.str [47]] []=some (.tuple [.str (tY s).1,.bool (tY s).2],[]):=by
 refine aB ?_;simp only[M8,X7,amE,EN,seval];cases s with
 |nil=>simp only[Pm,X7,amE,EN,seval]; rfl
 |cons b r =>
  by_cases hb:b=47
  ·have h1:(1:Int)<=(r.length:Int)+1:=aI;have h2:(0:Int)<=(r.length:Int)+1:=aI;simp[Pm,hb,X7,tY,gz,h1,h2,EN,seval]
  ·have hb':(b==47)=false:=by simpa using hb
   simp only[Pm,hb',X7,EN,seval];simp[tY,hb]
def as9 s:=cP (arO s)
def arJ(s:Bytes):aq EM 275 [.str s,.str [47]] []=some (.tuple [.str (tY s).1,.bool (tY s).2],[]):=by
 refine aB ?_;simp only[M7,ao6,as9,EN,seval]
end ev
def ae0(s:Bytes)(w:World):Calls Tryz.prog 275 #[.string (bs s),.string ⟨#[47]⟩] w fun e w'=>e = .returned (.tuple #[.string (bs (tY s).1),.bool (tY s).2])/\w.grownBy w' none:=by
 refine(Eu (arJ s) rfl w #[.string (bs s),.string ⟨#[47]⟩] rfl ?_).mono ?_
 ·intro i c v h1 h2
  match i with
  |0=>cases h1; cases h2; exact .plain (.str _)
  |1=>cases h1; cases h2; exact .plain (.str [47])
  |i+2=>cases h1
 ·rintro e w' ⟨v,j',rfl,hg,hr⟩;obtain⟨vs,rfl,hl,hv⟩:=hr.tN;obtain⟨l⟩:=vs
  match l,hl with
  | [u1,u2],_ =>
   rw[(hv 0 _ u1 rfl rfl).kG,(hv 1 _ u2 rfl rfl).jD];exact⟨rfl,hg⟩
def IB(s:Bytes):Nat:=if Lib.indexByte s 47<0 then s.length else (Lib.indexByte s 47).toNat
def uq(s:Bytes):Bytes×Bool:=((tY s).1.take (IB (tY s).1),(tY s).2)
def sL(s:Bytes):Bytes:=(tY s).1.drop (IB (tY s).1)
def wm:Nat->Bytes->List (Bytes×Bool)
 |0,_=>[]
 |n+1,s=>match s with
  | []=>[]
  |b::r=>uq (b::r)::wm n (sL (b::r))
def index_le(l:Bytes)(c:UInt8):Lib.indexByte l c<=l.length:=by
 induction l with
 |nil=>simp[Lib.indexByte]
 |cons b r ih =>
  simp only[Lib.indexByte];split
  ·simp; omega
  ·split
   ·simp; omega
   ·simp; omega
def Rv(s:Bytes):(tY s).1.length<=s.length:=by
 cases s with
 |nil=>simp[tY]
 |cons b r=>simp only[tY]; split<;>simp
def Ez{s:Bytes}(h:s≠[]):(sL s).length<s.length:=by
 cases s with
 |nil=>exact absurd rfl h
 |cons b r =>
  unfold sL;rw[hU]
  by_cases hb:b=47
  ·have:tY (b::r)=(r,true):=by simp[tY,hb]
   rw[this]; simp; omega
  ·have e:tY (b::r)=(b::r,false):=by simp[tY,hb]
   rw[e]
   have:0<IB (b::r):=by
    unfold IB;have hb':(b==47)=false:=by simpa using hb
    have hg:=Lib.indexByte_ge r 47;split
    ·simp
    ·rename_i hn;simp only[Lib.indexByte,hb',af,aD] at hn ⊢;split
     ·rename_i he; simp[he] at hn
     ·rename_i he;have:Lib.indexByte r 47 ≠ -1:=by simpa using he
      omega
   simp only[au];omega
def Hv:∀(n m:Nat)(s:Bytes),s.length<=n->s.length<=m->wm n s=wm m s:=by
 intro n;induction n with
 |zero =>
  intro m s h _;have:s=[]:=by cases s with|nil=>rfl|cons b r=>simp at h
  subst this;cases m<;>rfl
 |succ n ih =>
  intro m s h h';cases s with
  |nil=>cases m<;>rfl
  |cons b r =>
   cases m with
   |zero=>simp at h'
   |succ m =>
    have:=Ez (s:=b::r) dv;simp only[wm];rw[ih m _ aI aI]
def nw(s:Bytes):List (Bytes×Bool):=wm s.length s
def Ah{s:Bytes}(h:s≠[]):nw s=uq s::nw (sL s):=by
 cases s with
 |nil=>exact absurd rfl h
 |cons b r =>
  have:=Ez (s:=b::r) dv;unfold nw;rw[show(b::r).length=r.length+1 from rfl,wm]
  rw[Hv r.length (sL (b::r)).length _ (by simp at this; omega) aI]
def BS{s:Bytes}(h:pk s):pk (uq s).1:=trivial
def De{s:Bytes}(h:pk s):pk (sL s):=trivial
def P9(s:Bytes):(uq s).1.length<=s.length:=by
 have:=Rv s;unfold uq;rw[cp];omega
abbrev PA:={ x:Bytes×Bool // pk x.1/\x.1.length<=100000 }
abbrev YG(x:PA):Array Value := #[.string (bs x.1.1),.bool x.1.2]
def GX(b0:Nat)(w:World):Nat:=match w.cell? ⟨b0,0,none⟩ with
 |some (.string s)=>s.size
 |_=>0
section
attribute [local go_sem] Oper.semAt_some
set_option maxHeartbeats 1000000 in
def Qa(n:Nat)(s:Bytes)(w:World) :
  CallsIn Fence.wide n Tryz.prog 231 #[.string (bs s)] w fun e w'=>e = .returned (.func (.func 274) #[] #[.pointer (some ⟨w.heap.size,0,none⟩)])/\w'=w.alloc (.cells #[.string (bs s)] 9):=by
 refine callsIn_of_wp func231 rfl trivial ?_ rfl;simp only[ntmps231,cY,au,aw,Nat.reduceAdd,Nat.reduceSub,jN,jO,lx,kd,aQ,aG]
 gi_wp2
 go_ret
 exact⟨rfl,rfl⟩
def Mz(c:Bytes)(n:Nat):bs (c.drop n)=(bs c).extract n (bs c).size:=by
 rw[yT,show(bs c).size=c.length from rfl,bF]
def vZ{b0:Nat}{w:World}{s:Bytes}(h:Boxed w b0 9 (.string (bs s))):GX b0 w=s.length:=by
 unfold GX;rw[h.cell];rfl
set_option maxRecDepth 100000 in
set_option maxHeartbeats 1000000 in
def Y6(n:Nat)(hn:3<=n)(l b0 N:Nat)(s0:Bytes)(ha:pk s0)(hs:s0.length<=100000)(hN:(nw s0).length<=N)(J Jx:List PA->World->Prop)(W:World)(hJ:AbidesFrom W.heap.size J)(hJc:∀s A v,J s A->J s (A.setCell ⟨b0,0,none⟩ v))
  (hY:∀pre x W1,J pre W1->pre.length<N->YieldAt Fence.wide (n-1) Tryz.prog l (YG x) W1 fun e W' =>
   (e = .returned (.bool true)/\J (pre++[x]) W'/\W'.heap[b0]?=W1.heap[b0]?)\/(e = .returned (.bool false)/\Jx (pre++[x]) W'))
  (hB:Boxed W b0 9 (.string (bs s0))) (h0:J [] W) :
  CallsIn Fence.wide n Tryz.prog 274 #[.func (.yield l) #[] #[],.pointer (some ⟨b0,0,none⟩)] W fun e W'=>(∃v,e = .returned v) /\
   ((∃xs:List PA,xs.map (·.1)=nw s0/\J xs W')\/(∃pre:List PA,pre.map (·.1) <+: nw s0/\Jx pre W')):=by
 refine callsIn_of_wp func274 rfl trivial ?_ rfl;simp only[ntmps274,cY,au,aw,Nat.reduceAdd,Nat.reduceSub,jN,jO,lx,kd,aQ,aG]
 gi_wp2
 gi_loopw [3] (fun _ wr=>∃(pre:List PA) (rest:Bytes),Boxed wr b0 9 (.string (bs rest))/\pk rest/\rest.length<=100000/\nw s0=pre.map (·.1)++nw rest/\J pre wr)
  (fun _ wr=>GX b0 wr)
 case atStart =>
  exact⟨[],s0,hB,ha,hs,rfl,h0⟩
 case round =>
  obtain⟨pre,rest,hb,hra,hrl,hp,hJs⟩:=hrel;have hf:=hb.frozen;cases rest with
  |nil =>
   have hc:wr.cell? ⟨b0,0,none⟩=some (.string ⟨#[]⟩):=hb.cell
   gi_wp2
   go_end0
   exact⟨⟨_,rfl⟩,.inl ⟨pre,by rw[hp]; simp[nw,wm],hJs⟩⟩
  |cons x rest =>
   have hc:=hb.cell;have hne:(!(bs (x::rest)).toList.isEmpty)=true:=by simp[bs]
   gi_wp2
   refine⟨trivial,fun h=>(by cases h),(callsIn_wide.2 (ae0 _ _)).mono ?_⟩
   rintro e w1 ⟨rfl,hg⟩;have hb1:Boxed w1 b0 9 (.string (bs (x::rest))):=hb.kept hg dv;have hJ1:J pre w1:=hJ pre wr w1 none hJs hg (fun r e=>by cases e)
   have hbr:=hb;clear hb hc hf hJs;have hc1:=hb1.cell;have hf1:=hb1.frozen
   gi_wp2
   refine⟨trivial,fun h=>(by cases h),(callsIn_wide.2 (SH _ _ _)).mono ?_⟩
   rintro e w2 ⟨rfl,rfl⟩
   have dD:pre.length<N:=by
    have:=congrArg List.length hp;rw[Ah (s:=x::rest) dv] at this;simp at this;omega
   have hpl:=P9 (x::rest);have hrest:=Ez (s:=x::rest) dv;obtain⟨fn,tmps,assign,body,hy,hR⟩:=hY pre ⟨uq (x::rest),BS hra,aI⟩ w2 hJ1 dD
   have hpn:nw s0=(pre++[⟨uq (x::rest),BS hra,aI⟩]:List PA).map (·.1)++nw (sL (x::rest)):=by
    rw[hp,Ah dv]; simp
   obtain⟨c,hc⟩:∃c,(tY (x::rest)).1=c:=⟨_,rfl⟩;have hix:=index_le c 47
   by_cases hi:Lib.indexByte c 47<0
   ·have he:uq (x::rest)=(c,(tY (x::rest)).2):=by simp[uq,hc,IB,hi]
    have hre:sL (x::rest)=[]:=by simp[sL,hc,IB,hi]
    simp only[YG,he] at hy;rw[hc];have hi':Lib.indexByte (bs c).data.toList 47<0:=hi
    gi_wp2
    refine⟨fun h=>(by cases h),hR.mono ?_⟩
    rintro e W3 (⟨rfl,hJ3,hk3⟩|⟨rfl,hJx3⟩)
    ·have hb3:Boxed W3 b0 9 (.string (bs (x::rest))):=hk3.trans hb1;have hc3:=hb3.cell;have hf3:=hb3.frozen
     gi_wp2
     go_roundw
     case rel =>
      exact⟨_,sL (x::rest),(by rw[hre]; exact(hb3.set _)),De hra,aI,hpn,hJc _ _ _ hJ3⟩
     case measure =>
      rw[vZ (s:=sL (x::rest)) (by rw[hre]; exact(hb3.set _)),vZ hbr]
      exact hrest
    ·gi_wp2
     refine bodyPost_ret (results_none rfl _ _ _) rfl ?_;exact⟨⟨_,rfl⟩,.inr ⟨_,⟨nw (sL (x::rest)),hpn.symm⟩,hJx3⟩⟩
   ·have hi0:0<=Lib.indexByte c 47:=aI;have he:uq (x::rest)=(c.take (Lib.indexByte c 47).toNat,(tY (x::rest)).2):=by simp[uq,hc,IB,hi]
    have hre:sL (x::rest)=c.drop (Lib.indexByte c 47).toNat:=by simp[sL,hc,IB,hi]
    simp only[YG,he] at hy;rw[show bs (c.take (Lib.indexByte c 47).toNat)=(bs c).extract 0 (Lib.indexByte (bs c).data.toList 47).toNat by rw[yT]; rfl] at hy
    rw[hc];have hi':¬Lib.indexByte (bs c).data.toList 47<0:=hi;have hi2:Lib.indexByte (bs c).data.toList 47<=(bs c).size:=hix
    gi_wp2
    refine⟨fun h=>(by cases h),hR.mono ?_⟩
    rintro e W3 (⟨rfl,hJ3,hk3⟩|⟨rfl,hJx3⟩)
    ·have hb3:Boxed W3 b0 9 (.string (bs (x::rest))):=hk3.trans hb1;have hc3:=hb3.cell;have hf3:=hb3.frozen
     gi_wp2
     go_roundw
     case rel =>
      exact⟨_,sL (x::rest),(by rw[hre,Mz]; exact(hb3.set _)),De hra,aI,hpn,hJc _ _ _ hJ3⟩
     case measure =>
      rw[vZ (s:=sL (x::rest)) (by rw[hre,Mz]; exact(hb3.set _)),vZ hbr]
      exact hrest
    ·gi_wp2
     refine bodyPost_ret (results_none rfl _ _ _) rfl ?_;exact⟨⟨_,rfl⟩,.inr ⟨_,⟨nw (sL (x::rest)),hpn.symm⟩,hJx3⟩⟩
def E2(x:Bytes×Bool)(n:Nat):Bool := !x.2 || !fY x.1||n==12
def qK:List (Bytes×Bool)->Nat->Option (List Bytes)
 | [],_=>some []
 |x::r,n=>if E2 x n then none else (qK r (n+1)).map (x.1 :: ·)
def BE:∀(a b:List (Bytes×Bool)) (n:Nat),qK (a++b) n=(qK a n).bind fun l=>(qK b (n+a.length)).map (l ++ ·):=by
 intro a;induction a with
 |nil=>intro b n; simp[qK]
 |cons x r ih =>
  intro b n;simp only[aG,qK];split
  ·rfl
  ·rw[ih,show n+1+r.length=n+(x::r).length by simp; omega]
   cases qK r (n+1) with
   |none=>rfl
   |some l=>simp; rfl
def gD(s:Bytes):List Bytes×Int:=if s=[47] then ([],0) else match qK (nw s) 0 with
 |none=>([],60)
 |some []=>([],60)
 |some l=>(l,0)
def Na(pre:List PA):Prop:=qK (pre.map (·.1)) 0=some (pre.map (·.1.1))/\pre.length<=12
def Lx{pre:List PA}{x:PA}(h:Na pre)(hb:E2 x.1 pre.length=false):Na (pre++[x]):=by
 refine⟨?_,?_⟩
 ·rw[aW,BE,h.1];simp[qK,hb]
 ·have:pre.length≠12:=by intro e; rw[e] at hb; simp[E2] at hb
  have:=h.2;simp; omega
def AI{pre:List PA}{x:PA}(h:Na pre)(hb:E2 x.1 pre.length=true):qK ((pre++[x]).map (·.1)) 0=none:=by
 rw[aW,BE,h.1];simp[qK,hb]
def Qi{a l:List (Bytes×Bool)}(h:a <+: l)(hn:qK a 0=none):qK l 0=none:=by
 obtain⟨b,rfl⟩:=h;rw[BE,hn]; rfl
def al7:(Tryz.prog.info? 9).map (fun i=>(i.zero,i.size,i.bytes))=some (some (.string ⟨#[]⟩),1,16):=fy
abbrev G9(b:Bytes):Value := .string (bs b)
def appended{W w1:World}{n₀ B:Nat}{v v':Value}{k m:Nat}{xs ys:List Value}{tmp:Obj}
  (hv:Boxed W B 44 v) (hrow:W.ownsRow n₀ 9 1 v k xs) (hown':w1.ownsRow n₀ 9 1 v' m ys) (hgrow:(W.alloc tmp).grownBy w1 v.ownBlock) :
  Boxed w1 B 44 v/\Boxed (w1.setCell ⟨B,0,none⟩ v') B 44 v'/\(w1.setCell ⟨B,0,none⟩ v').ownsRow n₀ 9 1 v' m ys/\KeepsOthers W (w1.setCell ⟨B,0,none⟩ v') /\
  (w1.setCell ⟨B,0,none⟩ v').os=W.os/\(w1.setCell ⟨B,0,none⟩ v').tape=W.tape/\(w1.setCell ⟨B,0,none⟩ v').output=W.output/\W.heap.size<=(w1.setCell ⟨B,0,none⟩ v').heap.size /\
  ∀q,q<n₀->q<W.heap.size->q≠B->(w1.setCell ⟨B,0,none⟩ v').heap[q]?=W.heap[q]?:=by
 have hv1:Boxed w1 B 44 v:=(hv.alloc tmp).kept hgrow (hv.not_row mr hrow);have hs:=grownBy_setCell' w1 B v';refine⟨hv1,hv1.set v',hown'.kept hs (.inr (hv1.not_row mr hown').symm),?_,?_,?_,?_,?_,?_⟩
 ·refine((KeepsOthers.alloc W tmp).trans (KeepsOthers.of_grownBy hgrow fun j o ej hj=>?_)).trans (KeepsOthers.setCell _ _ _)
  rcases(hrow.alloc tmp).2 with ⟨rfl,_⟩|⟨g,cap,cur,rfl,_,hgb,_⟩
  ·simp[Value.ownBlock] at ej
  ·obtain rfl:g=j:=by simpa[Value.ownBlock] using ej
   rw[hgb] at hj; cases hj; rfl
 ·exact hs.os.trans hgrow.os
 ·exact hs.tape.trans hgrow.tape
 ·exact hs.output.trans hgrow.output
 ·have h1:=hgrow.size;have h2:=hs.size;simp at h1;omega
 ·intro q hq hqw hqB;have cL:q<(W.alloc tmp).heap.size:=gm;rw[hs.block q (bz cL hgrow.size) (fun e=>hqB (by cases e; rfl)),hgrow.block q cL ?_]
  ·exact Below.heap_alloc _ _ _ hqw
  ·intro e;rcases hrow.2 with ⟨rfl,_⟩|⟨g,cap,cur,rfl,hb,_,_⟩
   ·simp[Value.ownBlock] at e
   ·obtain rfl:q=g:=by simpa[Value.ownBlock] using e
    omega
structure E0(w:World)(pre:List PA)(W:World):Prop where
 He:Na pre
 r0:Boxed W w.heap.size 44 (.slice none 0 0)
 r1:Boxed W (w.heap.size+1) 43 (.int .i64 0)
 row:∃v,Boxed W (w.heap.size+2) 44 v/\W.ownsRow (w.heap.size+4) 9 1 v pre.length (pre.map fun x=>G9 x.1.1)
 below:Below w.heap.size w W
 sz:w.heap.size+4<=W.heap.size
structure GS(w:World)(c:Code)(pre:List PA)(W:World):Prop where
 ret:c = .ret
 bad:qK (pre.map (·.1)) 0=none
 r0:Boxed W w.heap.size 44 (.slice none 0 0)
 r1:Boxed W (w.heap.size+1) 43 (.int .i64 60)
 below:Below w.heap.size w W
def tV{W W':World}{row:Option Nat}{B k:Nat}{t:TypeId}{v:Value}(h:Boxed W B t v)(hg:W.grownBy W' row)(hr:∀r,row=some r->k<=r/\∃o:Obj,W.heap[r]?=some o/\o.isCells=false):Boxed W' B t v :=
 h.kept hg fun e=>by obtain⟨_,o,ho,hc⟩:=hr B e.symm; rw[show W.heap[B]?=_ from h] at ho; cases ho; cases hc
def E0.own{w:World}:OwnFrom (w.heap.size+4) (E0 w):=fun s A B row hs hg hr=>by
 obtain⟨v,hv,hrow⟩:=hs.row;exact⟨hs.He,tV hs.r0 hg hr,tV hs.r1 hg hr,⟨v,tV hv hg hr,((holdsRow_own (β:=Unit) (w.heap.size+4) (w.heap.size+2) 44 9 1 (fun _=>s.length) (fun _=>s.map fun x=>G9 x.1.1) (fun _ u=>u=v)) () A B row ⟨v,hv,hrow,rfl⟩ hg (fun r e=>(hr r e).2)).elim fun u hu=>hu.2.2▸hu.2.1⟩,ownFrom_below (β:=Unit) (av _) aI () A B row hs.below hg hr,aZ hs.sz hg.size⟩
def GS.own{w:World}(c:Code):OwnFrom (w.heap.size+4) (GS w c):=fun s A B row hs hg hr =>
 ⟨hs.ret,hs.bad,tV hs.r0 hg hr,tV hs.r1 hg hr,ownFrom_below (β:=Unit) (av _) aI () A B row hs.below hg hr⟩
def E0.cell{w:World}(s:List PA)(A:World)(u:Value)(hs:E0 w s A):E0 w s (A.setCell ⟨w.heap.size+3,0,none⟩ u):=by
 obtain⟨v,hv,hrow⟩:=hs.row;have hg:=grownBy_setCell' A (w.heap.size+3) u;refine⟨hs.He,hs.r0.other aI _,hs.r1.other aI _,⟨v,hv.other aI _,hrow.kept hg ?_⟩,hs.below.setCell (p:=⟨w.heap.size+3,0,none⟩) dv _,aZ hs.sz hg.size⟩;rcases hrow.2 with ⟨rfl,_⟩|⟨g,cap,cur,rfl,hb,_,_⟩
 ·exact .inl rfl
 ·refine .inr fun e=>?_
  have:g=w.heap.size+3:=by simpa[Value.ownBlock] using e
  omega
def GS.made{w W:World}{pre:List PA}(h0:Boxed W w.heap.size 44 (.slice none 0 0))(h1:Boxed W (w.heap.size+1) 43 (.int .i64 0))(hb:Below w.heap.size w W)(hbad:qK (pre.map (·.1)) 0=none) :
  KeepsOthers W ((W.setCell ⟨w.heap.size,0,none⟩ (.slice none 0 0)).setCell ⟨w.heap.size+1,0,none⟩ (.int .i64 60))/\GS w .ret pre ((W.setCell ⟨w.heap.size,0,none⟩ (.slice none 0 0)).setCell ⟨w.heap.size+1,0,none⟩ (.int .i64 60)):=by
 refine⟨(KeepsOthers.setCell _ _ _).trans (KeepsOthers.setCell _ _ _),rfl,hbad,(h0.set _).other aI _,?_,(hb.setCell (p:=⟨w.heap.size,0,none⟩) (av _) _).setCell (p:=⟨w.heap.size+1,0,none⟩) dv _⟩;exact(h1.other aI _).set _
def BB{W:World}{n₀ k:Nat}{v:Value}{xs:List Value}(h:W.ownsRow n₀ 9 1 v k xs):∃p cap,v = .slice p k cap:=by
 rcases h.2 with ⟨rfl,rfl⟩|⟨g,cap,cur,rfl,_⟩
 ·exact⟨_,_,rfl⟩
 ·exact⟨_,_,rfl⟩
def abf{W:World}{n₀ n₁ k D:Nat}{v:Value}{xs:List Value}{x:Option (List Deferred)}{o:Obj}(h:W.ownsRow n₀ 9 1 v k xs)(hn:n₁<=n₀)(hD:W.heap[D]?=some (.deferred x)):(W.putObj D o).ownsRow n₁ 9 1 v k xs:=by
 refine⟨h.1,?_⟩;rcases h.2 with h0|⟨g,cap,cur,e,hb,hg,hr⟩
 ·exact .inl h0
 ·refine .inr ⟨g,cap,cur,e,aI,?_,hr⟩;exact(World.putObj_heap_other (fun e=>by subst e; rw[hD] at hg; cases hg)).trans hg
def JV{W:World}{n₀ k B:Nat}{v:Value}{xs:List Value}(h:W.ownsRow n₀ 9 1 v k xs)(hB:B<n₀)(u:Value):(W.setCell ⟨B,0,none⟩ u).ownsRow n₀ 9 1 v k xs:=by
 refine⟨h.1,?_⟩;rcases h.2 with h0|⟨g,cap,cur,e,hb,hg,hr⟩
 ·exact .inl h0
 ·exact .inr ⟨g,cap,cur,e,hb,(Below.heap_setCell _ _ _ _ (by show _≠B; omega)).trans hg,hr⟩
def tD{W:World}{B D:Nat}{t:TypeId}{v:Value}{x:Option (List Deferred)}{o:Obj}(h:Boxed W B t v)(hD:W.heap[D]?=some (.deferred x)):Boxed (W.putObj D o) B t v :=
 (World.putObj_heap_other (fun e=>by subst e; rw[show W.heap[B]?=_ from h] at hD; cases hD)).trans h
def AK{w W:World}{D:Nat}{o:Obj}(h:Below w.heap.size w W)(hD:w.heap.size<=D):Below w.heap.size w (W.putObj D o) :=
 ⟨h.os,h.tape,h.output,by simpa[World.putObj] using h.size,fun k hk=>(World.putObj_heap_other aI).trans (h.block k hk)⟩
def ye{W:World}{B D:Nat}{o:Obj}{u:Value}(h:W.heap[D]?=some o)(hB:D≠B):(W.setCell ⟨B,0,none⟩ u).heap[D]?=some o:=(Below.heap_setCell _ _ _ _ (by show _≠B; omega)).trans h
def results165{W:World}{b:Nat}{v u:Value}{tmps:Array Value}(h2:tmps[2]?=some (.pointer (some ⟨b,0,none⟩)))(h3:tmps[3]?=some (.pointer (some ⟨b+1,0,none⟩)))(hv:Boxed W b 44 v)(hu:Boxed W (b+1) 43 u):(results f165 tmps).run Tryz.prog W = .ok (.tuple #[v,u]) W:=by
 have c0:=hv.cell;have c1:=hu.cell;simp[results,f165,go_sem,c0,c1,h2,h3]
def xl{F:Fence}{n:Nat}{P:Program}{fn:Func}{tmps:Array Value}{R:Ending->World->Prop}{D:Nat}{W W':World}{v:Value}(hD:(Instr.takeDeferred D).run P W = .ok [] W')(hv:(results fn tmps).run P W' = .ok v W')(hR:R (.returned v) W') :
  LeavesInM F n P fn tmps R [{ target := .collected D,args := #[] }] .returning W :=
 ⟨dv,.inl ⟨D,W',rfl,hD,⟨v,hv,hR⟩⟩⟩
set_option maxRecDepth 100000 in
set_option maxHeartbeats 2000000 in
def Xm(n:Nat)(hn:6<=n)(s:Bytes)(ha:pk s)(hs:s.length<=100000)(w:World) :
  CallsIn Fence.wide n Tryz.prog 165 #[.string (bs s)] w fun e W'=>∃v,e = .returned (.tuple #[v,.int .i64 (gD s).2])/\W'.ownsRow w.heap.size 9 1 v (gD s).1.length ((gD s).1.map G9)/\Below w.heap.size w W':=by
 have h1:1<=n:=aI;obtain⟨i0,hi,hz0,hz1,hz2⟩:=info_parts al7;refine callsIn_of_wp_marks func165 rfl trivial ?_ rfl;simp only[ntmps165,cY,au,aw,Nat.reduceAdd,Nat.reduceSub,jN,jO,lx,kd,aQ,aG];have b0:=Boxed.new w 44 (.slice none 0 0);have b1:=Boxed.new (w.alloc (.cells #[.slice none 0 0] 44)) 43 (.int .i64 0);have b2:=Boxed.new ((w.alloc (.cells #[.slice none 0 0] 44)).alloc (.cells #[.int .i64 0] 43)) 44 (.slice none 0 0);have b3:=Boxed.new (((w.alloc (.cells #[.slice none 0 0] 44)).alloc (.cells #[.int .i64 0] 43)).alloc (.cells #[.slice none 0 0] 44)) 9 (.string (bs s));simp only[World.size_alloc] at b1 b2 b3;have hB2:Below w.heap.size w ((w.alloc (.cells #[.slice none 0 0] 44)).alloc (.cells #[.int .i64 0] 43)):=((Below.refl _ w).alloc (av _) _).alloc dv _;have hB4:=(hB2.alloc gm (.cells #[.slice none 0 0] 44)).alloc gm (.cells #[.string (bs s)] 9)
 by_cases hs47:s=[47]
 ·subst hs47;have ht:((bs [47]).toList==[47])=true:=by rw[vq]; rfl
  gi_wp2
  have c0:=(b0.alloc (.cells #[.int .i64 0] 43)).cell;have c1:=b1.cell;refine⟨.tuple #[.slice none 0 0,.int .i64 0],?_,_,rfl,World.ownsRow_nil _ _ _ _,hB2⟩;simp[results,f165,go_sem,c0,c1]
 have ht:((bs s).toList==[47])=false:=by rw[vq]; simpa using hs47
 gi_wp2
 refine⟨trivial,(Qa _ s _).mono ?_⟩;rintro e w' ⟨rfl,rfl⟩
 gi_wp2
 obtain⟨W4,hW4⟩:∃W4,(((w.alloc (.cells #[.slice none 0 0] 44)).alloc (.cells #[.int .i64 0] 43)).alloc (.cells #[.slice none 0 0] 44)).alloc (.cells #[.string (bs s)] 9)=W4:=⟨_,rfl⟩;have hsz:W4.heap.size=w.heap.size+4:=by rw[<-hW4]; simp
 have e0:Boxed W4 w.heap.size 44 (.slice none 0 0):=by rw[<-hW4]; exact((b0.alloc _).alloc _).alloc _
 have e1:Boxed W4 (w.heap.size+1) 43 (.int .i64 0):=by rw[<-hW4]; exact(b1.alloc _).alloc _
 have e2:Boxed W4 (w.heap.size+2) 44 (.slice none 0 0):=by rw[<-hW4]; exact b2.alloc _
 rw[hW4] at b3 hB4 ⊢
 have hseq:Fm (w.heap.size+3) Fence.wide (n-1) Tryz.prog 274 #[.pointer (some ⟨w.heap.size+3,0,none⟩)] YG (fun A B=>B.heap[w.heap.size+3]?=A.heap[w.heap.size+3]?) (fun xs=>xs.map (·.1)=nw s) (fun pre=>pre.map (·.1) <+: nw s) (nw s).length W4 :=
  fun l J Jx W hW hJ hJx hJc hY h0=>Y6 (n-1) aI l _ _ s ha hs (av _) J Jx W hJ hJc hY ((hW.block _ aI).trans b3) h0
 refine yt (b0:=w.heap.size+3) aI rfl h1 (gf:=274) (lb := #[.pointer (some ⟨w.heap.size+3,0,none⟩)]) rfl trivial (enters_of func274 fy rfl) hseq
  (fun h k=>k.trans h) (fun W l o o' hl _ _ _=>World.putObj_heap_other aI) (Below.refl _ _) (fun _=>rfl)
  (E0 w) (GS w) (by rw[hsz]; exact E0.own) (fun c=>by rw[hsz]; exact GS.own c) E0.cell
  ⟨⟨rfl,dv⟩,e0,e1,⟨_,e2,World.ownsRow_nil _ _ _ _⟩,hB4,aI⟩
  (fun x=>{ tmps := #[.string (bs s),undef,.pointer (some ⟨w.heap.size,0,none⟩),.pointer (some ⟨w.heap.size+1,0,none⟩),.pointer (some ⟨w.heap.size+1+1,0,none⟩),.string (bs x.1.1),.bool x.1.2,.string (bs s),.bool false,.string (bs s),.func (.func 274) #[] #[.pointer (some ⟨w.heap.size+1+1+1,0,none⟩)],.string (bs x.1.1),.bool x.1.2,
   undef,undef,undef,undef,undef,undef,undef,undef,undef,undef,undef,undef,undef,undef,undef,undef,undef,undef,undef,undef],defers:=[] }) ?assign ?body ?done ?stop
 case assign =>
  intro l x W K hK
  gi_wp2
  exact hK
 case body =>
  rintro l pre ⟨⟨nm,ok⟩,hxa,hxl⟩ W hInv cL;obtain⟨v,hv,hrow⟩:=hInv.row;have hc0:=hInv.r0.cell;have hf0:=hInv.r0.frozen;have hc1:=hInv.r1.cell;have hf1:=hInv.r1.frozen;cases ok with
  |false =>
   gi_wp2
   refine⟨trivial,?_⟩
   gi_wp2
   exact GS.made hInv.r0 hInv.r1 hInv.below (AI hInv.He (by simp[E2]))
  |true =>
   gi_wp2
   refine⟨trivial,fun h=>(by cases h),(CallsIn.inRound l (callsIn_wide.2 (WZ nm hxl hxa W))).mono ?_⟩
   rintro e W5 ⟨rfl,hg5⟩;have hInv5:E0 w pre W5:=E0.own pre W W5 none hInv hg5 (fun r e=>by cases e)
   have hK5:KeepsOthers W W5:=KeepsOthers.of_grownBy hg5 (fun j o e=>by cases e)
   clear hc0 hf0 hc1 hf1 hrow hv v;obtain⟨v,hv,hrow⟩:=hInv5.row;have hc0:=hInv5.r0.cell;have hf0:=hInv5.r0.frozen;have hc1:=hInv5.r1.cell;have hf1:=hInv5.r1.frozen;have hc2:W5.cell? ⟨w.heap.size+1+1,0,none⟩=some v:=hv.cell;have hf2:W5.frozen? ⟨w.heap.size+1+1,0,none⟩=false:=hv.frozen;cases hnm:fY nm with
   |false =>
    gi_wp2
    have:=GS.made hInv5.r0 hInv5.r1 hInv5.below (AI (x:=⟨(nm,true),hxa,hxl⟩) hInv5.He (by simp[E2,hnm]))
    exact⟨hK5.trans this.1,this.2⟩
   |true =>
    obtain⟨p,cap,rfl⟩:=BB hrow
    by_cases hl:pre.length=12
    ·have hl':((pre.length:Int)==12)=true:=by simp[hl]
     gi_wp2
     have:=GS.made hInv5.r0 hInv5.r1 hInv5.below (AI (x:=⟨(nm,true),hxa,hxl⟩) hInv5.He (by simp[E2,hnm,hl]))
     exact⟨hK5.trans this.1,this.2⟩
    ·have hl':((pre.length:Int)==12)=false:=gm
     gi_wp2_with (gi_at_builtin; generalize hX:wpListIn _ _ _ _ _ _ _ _=X)
     subst hX;refine wpListIn_append_own _ rfl _ _ 44 rfl (w.heap.size+4) 9 i0 (.string ⟨#[]⟩) 1 16 underlying44 hi hz0 hz1 hz2 rfl mr _ _ _ rfl (hrow.alloc _) ⟨W5.heap.size,0,none⟩ 1 1 [G9 nm] rfl rfl (cell_one_new _ _ _) (by simp[Value.oneCell']) (by have:=hInv5.He.2; simp[maxLen]; omega) (by have:=hInv5.He.2; omega) (by have:=hv.lt; simp; omega) ?_
     intro v' w1 hown' hgrow hiff;obtain⟨q0,q1,q2,q3,q4,q5,q6,q7,q8⟩:=appended hv hrow hown' hgrow;have hc2':w1.cell? ⟨w.heap.size+1+1,0,none⟩=some (.slice p pre.length cap):=q0.cell;have hf2':w1.frozen? ⟨w.heap.size+1+1,0,none⟩=false:=q0.frozen;obtain⟨p',cap',rfl⟩:=BB hown'
     gi_wp2
     refine⟨hK5.trans q3,(q8 _ aI (by have:=hInv5.sz; omega) aI).trans (hg5.block _ (by have:=hInv.sz; omega) dv),?_⟩
     refine⟨Lx hInv5.He (by simp[E2,hnm,hl]),(q8 _ aI hInv5.r0.lt aI).trans hInv5.r0,(q8 _ aI hInv5.r1.lt aI).trans hInv5.r1,⟨_,q1,by simpa using q2⟩,?_,aZ hInv5.sz q7⟩
     exact hInv5.below.trans ⟨q4,q5,q6,q7,fun q hq=>q8 q aI (by have:=hInv5.below.size; omega) aI⟩
 case done =>
  rintro D ys W hD hys hInv hK;obtain⟨v,hv,hrow⟩:=hInv.row;have hc0:=hInv.r0.cell;have hf0:=hInv.r0.frozen;have hc1:=hInv.r1.cell;have hf1:=hInv.r1.frozen;have hc2:W.cell? ⟨w.heap.size+1+1,0,none⟩=some v:=hv.cell;have hf2:W.frozen? ⟨w.heap.size+1+1,0,none⟩=false:=hv.frozen;obtain⟨p,cap,rfl⟩:=BB hrow
  by_cases hl:ys.length=0
  ·have hl':((ys.length:Int)==0)=true:=by simp[hl]
   have hy:ys=[]:=dP.1 hl
   have hsp:gD s=([],60):=by
    rw[hy] at hys;simp[gD,hs47,<-hys,qK]
   gi_wp2
   have hm:=ye (u := .int .i64 60) (ye (u := .slice none 0 0) hK (B:=w.heap.size) aI) (B:=w.heap.size+1) aI;have k0:Boxed ((W.setCell ⟨w.heap.size,0,none⟩ (.slice none 0 0)).setCell ⟨w.heap.size+1,0,none⟩ (.int .i64 60)) w.heap.size 44 (.slice none 0 0):=(hInv.r0.set _).other aI _;have k1:Boxed ((W.setCell ⟨w.heap.size,0,none⟩ (.slice none 0 0)).setCell ⟨w.heap.size+1,0,none⟩ (.int .i64 60)) (w.heap.size+1) 43 (.int .i64 60):=(hInv.r1.other aI _).set _;refine xl (run_takeDeferred hm) (results165 rfl rfl (tD k0 hm) (tD k1 hm)) ⟨_,rfl,World.ownsRow_nil _ _ _ _,AK ((hInv.below.setCell (p:=⟨w.heap.size,0,none⟩) (av _) _).setCell (p:=⟨w.heap.size+1,0,none⟩) dv _) aI⟩
  ·have hl':((ys.length:Int)==0)=false:=by rw[jl]; omega
   have hsp:gD s=(ys.map (·.1.1),0):=by
    have h0:=hInv.He.1;rw[hys] at h0;cases ys with
    |nil=>simp at hl
    |cons y ys=>simp[gD,hs47,h0]
   gi_wp2
   have hm:=ye (u := .int .i64 0) (ye (u := .slice p ys.length cap) hK (B:=w.heap.size) aI) (B:=w.heap.size+1) aI;have k0:Boxed ((W.setCell ⟨w.heap.size,0,none⟩ (.slice p ys.length cap)).setCell ⟨w.heap.size+1,0,none⟩ (.int .i64 0)) w.heap.size 44 (.slice p ys.length cap):=(hInv.r0.set _).other aI _;have k1:Boxed ((W.setCell ⟨w.heap.size,0,none⟩ (.slice p ys.length cap)).setCell ⟨w.heap.size+1,0,none⟩ (.int .i64 0)) (w.heap.size+1) 43 (.int .i64 0):=(hInv.r1.other aI _).set _;refine xl (run_takeDeferred hm) (results165 rfl rfl (tD k0 hm) (tD k1 hm)) ⟨_,rfl,?_,AK ((hInv.below.setCell (p:=⟨w.heap.size,0,none⟩) (av _) _).setCell (p:=⟨w.heap.size+1,0,none⟩) dv _) aI⟩;have:=abf (JV (JV hrow (by omega:w.heap.size<_) (.slice p ys.length cap)) (by omega:w.heap.size+1<_) (.int .i64 0)) (by omega:w.heap.size<=_) hm (o := .deferred none)
   simpa[Function.comp_def] using this
 case stop =>
  rintro D c pre W hD hpre hOut hK;obtain rfl:=hOut.ret;have hsp:gD s=([],60):=by simp[gD,hs47,Qi hpre hOut.bad]
  gi_wp2
  refine xl (run_takeDeferred hK) (results165 rfl rfl (tD hOut.r0 hK) (tD hOut.r1 hK)) ⟨_,rfl,World.ownsRow_nil _ _ _ _,AK hOut.below aI⟩
def Xl(s:Bytes)(ha:pk s)(hs:s.length<=100000)(w:World) :
  Calls Tryz.prog 165 #[.string (bs s)] w fun e W'=>∃v,e = .returned (.tuple #[v,.int .i64 (gD s).2])/\W'.ownsRow w.heap.size 9 1 v (gD s).1.length ((gD s).1.map G9)/\Below w.heap.size w W' :=
 callsIn_wide.1 (Xm 6 aI s ha hs w)
end
end
instance (s:Bytes):Decidable (pk s):=inferInstanceAs (Decidable True)
def En:List ag->aC->Option (ag×aC)
 | [.str s],M=>if pk s/\s.length<=100000 then some (.tuple [.slice .sh ((gD s).1.map .str),.int .i64 (gD s).2],M) else none
 |_,_=>none
def Qj{args:List ag}{M:aC}{x:ag×aC}(h:En args M=some x):dh Tryz.prog 165 args M x:=by
 unfold En at h;split at h
 ·rename_i s;split at h
  ·rename_i hs;cases h;refine nQ.call ?_;intro j w vs hr hG hl hv;obtain⟨u,rfl⟩:=C1 hl;have h1:=(hv 0 _ u rfl rfl).kG;subst h1;refine(Xl s hs.1 hs.2 w).mono ?_;rintro e w' ⟨v,rfl,⟨dD,hown⟩,hb⟩;refine⟨_,j,rfl,hr.grow hb.size hb.os hb.tape hb.output hb.block,Ext.grow hb.size hb.os hb.tape hb.output hb.block,.tuple rfl ?_⟩;intro i c v' hi hv'
   match i with
   |0 =>
    cases hi; cases hv';refine .plain ?_;rcases hown with ⟨rfl,h0⟩|⟨g,cap,cur,rfl,hg,hg',hn1,_,hcs,htk⟩
    ·rw[dP.1 h0];exact fS.nil _ _ _
    ·refine .slice _ _ _ _ g 0 1 (fun k=>G9 ((gD s).1.getD k [])) dv (by simpa using hn1) (fun _=>rfl) ?_ ?_ ?_
     ·intro x hx;obtain⟨b,_,rfl⟩:=eK.1 hx;rfl
     ·intro i x k c hx hc;rw[aY] at hx;obtain⟨b,hb',rfl⟩:=aV.1 hx
      match k with
      |0 =>
       have hi:i<(gD s).1.length:=(aj.1 hb').1;refine⟨?_,?_,?_,?_⟩
       ·have h1:cur.toList[i]?=some (G9 b):=by
         have:(cur.toList.take ((gD s).1.length*1))[i]?=some (G9 b):=by rw[htk,aY,hb']; rfl
         rwa[bH aI] at this
        have h2:cur[i]?=some (G9 b):=by simpa using h1
        have h3:(gD s).1.getD i []=b:=by simp[List.getD,hb']
        simp only[pP,db,aJ];rw[h3];simp[World.cell?,hg',h2]
       ·exact lt_of_block hg'
       ·intro id hid hji;have:=hr.lt id g hid hji; omega
       ·intro hx; have:=hr.AD g _ hx; omega
      |k+1=>cases hc
     ·intro i x k c hx hc;rw[aY] at hx;obtain⟨b,hb',rfl⟩:=aV.1 hx
      match k with
      |0 =>
       cases hc;have h3:(gD s).1.getD i []=b:=by simp[List.getD,hb']
       simp only[pP,db];rw[h3];exact .str _
      |k+1=>cases hc
   |1=>cases hi; cases hv'; exact .plain (.int _ _)
   |i+2=>cases hi
  ·cases h
 ·cases h
section
attribute [local irreducible] eX fM lC gK dX kr aq aU cr bJ
def rL:∀a:Bytes,strLt a a=false
 | []=>rfl
 |a::x=>by simp[strLt,rL x,oU]
def xK:∀ {a b c:Bytes},strLt a b=true->strLt b c=true->strLt a c=true
 | [],b,[],_,h2=>by cases b<;>simp[strLt] at h2
 | [],_,_::_,_,_=>rfl
 |_::_,[],_,h1,_=>by simp[strLt] at h1
 |_::_,_::_,[],_,h2=>by simp[strLt] at h2
 |a::x,b::y,c::z,h1,h2=>by
  simp only[strLt,cS,bt,bj,eu] at h1 h2 ⊢;simp only[lf] at h1 h2 ⊢;rcases h1 with h1|⟨h1,h1'⟩
  ·rcases h2 with h2|⟨h2,_⟩
   ·left; omega
   ·left; rw[<-h2]; exact h1
  ·rcases h2 with h2|⟨h2,h2'⟩
   ·left; rw[h1]; exact h2
   ·right; exact⟨h1.trans h2,xK h1' h2'⟩
def sj{l:List gM}(h:ri l)(s:Bytes):Oo l s (mD l s):=by
 unfold mD;induction l with
 |nil=>exact⟨dv,fun h n hn=>by simp at hn⟩
 |cons a r ih =>
  obtain⟨h1,h2⟩:=dj.1 h;obtain⟨i1,i2⟩:=ih h2
  by_cases ha:strLt a.name s=true
  ·rw[iu,aX ha];refine⟨by simpa using i1,fun k n hn=>?_⟩
   cases k with
   |zero=>simp at hn; subst hn; simp[ha]
   |succ k=>rw[i2 k n (by simpa using hn)]; simp
  ·rw[iu,aL ha];refine⟨dv,fun k n hn=>?_⟩
   simp only[aw,jL,iff_false];cases k with
   |zero=>simp at hn; subst hn; exact ha
   |succ k=>exact fun hc=>ha (xK (h1 n (aK (by simpa using hn))) hc)
def j4{l:List gM}{s:Bytes}{e:gM}(h:gv l s=some e):e∈l/\e.name=s:=by
 unfold gv at h;exact⟨iA h,by simpa using List.find?_some h⟩
def w8{l:List gM}(h:ri l)(s:Bytes):(zZ l s (mD l s)=true/\∃n,l[mD l s]?=some n/\gv l s=some n/\n.name=s)\/(zZ l s (mD l s)=false/\gv l s=none):=by
 obtain⟨l1,l2⟩:=sj h s;cases hf:gv l s with
 |some n =>
  left;obtain⟨hm,he⟩:=j4 hf;obtain⟨k,hk⟩:=bV hm;have hkb:¬k<mD l s:=fun hc=>by have:=(l2 k n hk).2 hc; rw[he,rL] at this; cases this
  have hb:mD l s<l.length:=by have:=(aj.1 hk).1; omega
  have hx:=ai hb;have hnl:¬strLt l[mD l s].name s=true:=fun hc=>ib _ ((l2 _ _ hx).1 hc)
  have hke:k=mD l s:=by
   rcases bD (mD l s) k with cL|hge
   ·have hkl:=(aj.1 hk).1;have h3:=cm.1 h _ _ hb hkl cL;have h4:l[k]=n:=by rw[ai hkl] at hk; injection hk
    rw[h4,he] at h3;exact absurd h3 hnl
   ·omega
  subst hke;exact⟨by unfold zZ; rw[hk]; simp[he],n,hk,rfl,he⟩
 |none =>
  right;refine⟨?_,rfl⟩;unfold zZ;split
  ·rename_i n hn;have:=fu.1 hf n (aK hn);simpa using this
  ·rfl
structure rS(t:Tree):Prop where
 mB:o4 t.ae
 bc:∀n,n∈t.ae->ri n.bc
def rS.dir{t:Tree}(h:rS t)(ar:Int):ri (gW t.ae ar).1.bc:=by
 unfold gW;split
 ·exact List.Pairwise.nil
 ·rename_i n hn;split
  ·exact h.bc n (cD hn).1
  ·exact List.Pairwise.nil
def aqf(t:Tree)(ar:Int)(s:Bytes)(ht:Small t)(hr:rS t)(hs:s.length<=100000)(ha:pk s):aq bW 151 [br t,aH ar,.str s] []=some (.tuple [aH (fh t.ae ar s).1,aH (fh t.ae ar s).2],[]):=by
 obtain⟨ae,next,ak⟩:=t
 have hn:ae.length<=100000:=ht.ae;have hd:(gW ae ar).1.bc.length<=100000:=tF ht ar;have hE:ri (gW ae ar).1.bc:=hr.dir ar;have hk:=fun b M=>Zb ae next ak ar hr.mB hn 1 (b :: cv [ba ae,aH next,aH ak]::M) rfl
 refine aB ?_;simp only[acr,Ks,br,aN,hk,bL,aM,EN,seval];unfold fh;refine bC (fun hb=>?_) (fun hb=>?_)
 ·simp only[Ks,EN,seval];clear hk;simp_all
 ·simp only[Ks,afC,hs,ha,EN,seval];refine bC (fun hb'=>?_) (fun hb'=>?_)
  ·simp only[Ks,EN,seval];clear hk;simp_all
  ·have hk2:=fun a b c d u M=>SX a b c d (gW ae ar).1.bc u s _ (sj hE s) hd M
   simp only[Ks,hk2,EN,seval];rcases w8 hE s with ⟨h1,e,h2,h3,_⟩|⟨h1,h2⟩
   ·simp only[Ks,h1,h2,fU,EN,seval];clear hk hk2;simp_all
   ·simp only[Ks,h1,EN,seval];clear hk hk2;simp_all
def Y9(ae:List Node)(next ak ar:Int)(s:Bytes)(ht:Small ⟨ae,next,ak⟩)(hr:rS ⟨ae,next,ak⟩)(hs:s.length<=100000)(ha:pk s)(M:aC):aU (aq bW) 151 [.agg [ba ae,aH next,aH ak],aH ar,.str s] M =
  some (.tuple [aH (fh ae ar s).1,aH (fh ae ar s).2],M):=cO (aqf ⟨ae,next,ak⟩ ar s ht hr hs ha) M
def aqO(t:Tree)(ar:Int)(ht:Small t)(hr:rS t):aq bW 191 [br t,aH ar] []=some (.tuple [bL (bl t.ae ar),.bool (find t.ae ar).isSome],[]):=by
 obtain⟨ae,next,ak⟩:=t
 have hn:ae.length<=100000:=ht.ae;have hk:=fun b c M=>Fc ae next ak ar hr.mB hn 2 (b::c :: cv [ba ae,aH next,aH ak]::M) rfl
 refine aB ?_;simp only[acK,aoE,br,aN,hk,bL,aM,EN,seval]
abbrev mZ(n:Int):ag := .int .i64 n
def uC(l:List Int):wid (l.map mZ) 1=True:=by
 simp only[fG,ja];intro x hx;obtain⟨n,_,rfl⟩:=eK.1 hx;rfl
def uA(ae:List Node):Nat->Int->List Int->List Int
 |0,_,out=>out
 |m+1,ar,out=>if ar != 1 then (if !(find ae ar).isSome||(bl ae ar).kind != 2 then out else uA ae m (bl ae ar).up (out++[(bl ae ar).up])) else out
def uH(ae:List Node)(ar:Int):List Int:=uA ae ae.length ar [ar]
def aan{ae:List Node}{next ak:Int}(h:o4 ae)(hn:ae.length<=100000){k:List K}{R:List Int->Option (ag×aC)}
  (hx:∀(out:List Int) v q,kr (aq bW) [.tmp 4] 1 k ⟨.exit 0,[(0,cu 0),(1,v),(5,.slice (.own 1) (out.map mZ)),(22,q)],[cv [ba ae,aH next,aH ak],.tick 1 out.length]⟩=R out)
  (hr:∀(out:List Int) b,kr (aq bW) [.tmp 4] 1 k ⟨.ret,[(4,.slice (.own 1) (out.map mZ))],[cv [ba ae,aH next,aH ak],.tick 1 out.length,b]⟩=R out) :
  ∀(m:Nat)(ar:Int)(out:List Int),out.length+m=ae.length+1->eX (aq bW) [.tmp 4] 1 k (.loop [0,1,5] ZW) [(0,cu 0),(1,aH ar),(5,.slice (.own 1) (out.map mZ))] [cv [ba ae,aH next,aH ak],.tick 1 out.length]=R (uA ae m ar out):=by
 intro m;induction m with
 |zero =>
  intro ar out ho;rw[bG];have hd':((out.length:Int)<=(ae.length:Int))=False:=gm;simp only[CB,EN,seval]
  repeat' ((first|apply bC|apply bU|apply dK)<;>intro hb<;>simp only[hb,EN,CB,hd',seval])
  all_goals exact hx _ _ _
 |succ m ih =>
  intro ar out ho;rw[bG];have hd':((out.length:Int)<=(ae.length:Int))=True:=gm;have r1:cq (out.length+1) 8=True:=qM;have hk:=fun M=>Fc ae next ak ar h hn 0 (cv [ba ae,aH next,aH ak]::M) rfl
  have hi:=ih (bl ae ar).up (out++[(bl ae ar).up]) gm;simp only[aW,aF,aR,aA,au,aw,aJ] at hi;rw[uA];simp only[CB,EN,seval];refine bU (fun hb=>?_) (fun hb=>?_)
  ·simp only[CB,hb,hd',hk,bL,aM,EN,seval];refine bU (fun hb1=>?_) (fun hb1=>?_)
   ·simp only[CB,hb1,EN,seval];refine bC (fun hb2=>?_) (fun hb2=>?_)
    ·simp only[CB,hb2,hb1,er,cT,EN,seval];exact hr _ _
    ·simp only[CB,hb2,hb1,r1,uC,fE,af,EN,seval];exact hi
   ·simp only[CB,hb1,dJ,EN,seval];exact hr _ _
  ·simp only[CB,hb,af,EN,seval];exact hx _ _ _
def aqT(ae:List Node)(next ak ar:Int)(h:o4 ae)(hn:ae.length<=100000):aq bW 200 [cu 0,aH ar] [cv [ba ae,aH next,aH ak]] =
  some (gU ((uH ae ar).map mZ),[cv [ba ae,aH next,aH ak]]):=by
 refine aB ?_;simp only[Sh,CB,EN,seval];exact aan (R:=fun out=>some (gU (out.map mZ),[cv [ba ae,aH next,aH ak]])) h hn (fun out v q=>by simp only[CB,EN,seval]) (fun out b=>by simp only[CB,EN,seval]) ae.length ar [ar] gm
def afD ae next ak ar h hn p M hM:=cM (p:=p) (M:=M) hM (aqT ae next ak ar h hn)
def ym(ae:List Node):∀(m:Nat)(ar:Int)(out:List Int),out.length<=(uA ae m ar out).length/\(uA ae m ar out).length<=out.length+m
 |0,_,out=>⟨av _,av _⟩
 |m+1,ar,out=>by
  rw[uA];split
  ·split
   ·exact⟨av _,aI⟩
   ·have:=ym ae m (bl ae ar).up (out++[(bl ae ar).up]);simp at this;omega
  ·exact⟨av _,aI⟩
def uB(ae:List Node)(ar:Int):1<=(uH ae ar).length/\(uH ae ar).length<=ae.length+1:=by
 have:=ym ae ae.length ar [ar];simp at this;unfold uH;omega
def arl(ae:List Node)(next ak ar:Int)(h:o4 ae)(hn:ae.length<=100000):aq bW 239 [cu 0,aH ar] [cv [ba ae,aH next,aH ak]] =
  some (aH (((uH ae ar).length-1:Nat):Int),[cv [ba ae,aH next,aH ak]]):=by
 refine aB ?_;have hk:=fun M=>afD ae next ak ar h hn 0 (cv [ba ae,aH next,aH ak]::M) rfl
 have hl:=uB ae ar;have hw:IntKind.i64.wrap (((uH ae ar).length:Int)-1)=(((uH ae ar).length-1:Nat):Int):=by rw[gw aI aI]; omega
 simp only[ade,aoS,hk,hw,EN,seval]
def amB ae next ak ar h hn p M hM:=cM (p:=p) (M:=M) hM (arl ae next ak ar h hn)
def BQ(n:Node)(rest:List Node):∀(pre out:List Node),(∀m,m∈pre->m.ar<n.ar)->oI n (pre++rest) out false=oI n rest (out++pre) false
 | [],out,_=>dv
 |m::r,out,h=>by
  have hm:=h m (bE ..);have h1:¬n.ar<=m.ar:=aI;have h2:¬m.ar=n.ar:=aI;rw[aG,oI];simp only[qe,h1,h2,decide_false,dV,fE,af,aD];rw[BQ n rest r _ fun x hx=>h x (bw _ hx)]
  simp
def zw(n:Node):∀(rest out:List Node),(∀m,m∈rest->n.ar<m.ar)->oI n rest out true=(out++rest,true)
 | [],out,_=>by simp[oI]
 |m::r,out,h=>by
  have hm:=h m (bE ..);have h2:¬m.ar=n.ar:=aI;rw[oI];simp only[cU,dW,h2,dJ,af,aD];rw[zw n r _ fun x hx=>h x (bw _ hx)]
  simp
def vP{ae:List Node}{ar:Int}{b:Nat}(h:Ya ae ar b):∀m,m∈ae.take b->m.ar<ar:=fun m hm=>by
 obtain⟨k,hk⟩:=bV hm;rw[fx] at hk;split at hk
 ·rename_i cL; exact(h.lt k m hk).2 cL
 ·cases hk
def FD{ae:List Node}{ar:Int}{b:Nat}(h:Ya ae ar b):∀m,m∈ae.drop b->ar<=m.ar:=fun m hm=>by
 obtain⟨k,hk⟩:=bV hm;rw[cI] at hk;have:=h.lt _ m hk;have hn:¬b+k<b:=aI;have:=fun hc=>hn (this.1 hc)
 omega
def yn{ae:List Node}(h:o4 ae){n:Node}(hf:find ae n.ar=none):eT ae n=ae.take (mq ae n.ar)++n::ae.drop (mq ae n.ar):=by
 have hl:=uT h n.ar
 have hd:∀m,m∈ae.drop (mq ae n.ar)->n.ar<m.ar:=fun m hm=>by
  have h1:=FD hl m hm;have h2:=fu.1 hf m (dx hm);have:¬m.ar=n.ar:=by simpa using h2
  omega
 unfold eT;rw[show oI n ae [] false=oI n (ae.take (mq ae n.ar)++ae.drop (mq ae n.ar)) [] false by rw[cC]]
 rw[BQ n _ _ _ (vP hl)];generalize ae.drop (mq ae n.ar)=rest at hd;cases rest with
 |nil=>simp[oI]
 |cons m r =>
  have hm:=hd m (bE ..);have h1:n.ar<=m.ar:=aI;have h2:¬m.ar=n.ar:=aI;rw[oI];simp only[qe,h1,h2,decide_true,ew,gG,er,aE,aD];rw[zw n r _ fun x hx=>hd x (bw _ hx)]
  simp
def tP{ae:List Node}(h:o4 ae){n o:Node}(ho:ae[mq ae n.ar]?=some o)(he:o.ar=n.ar):eT ae n=ae.set (mq ae n.ar) n:=by
 have hl:=uT h n.ar;have cL:=(aj.1 ho).1
 have hdr:ae.drop (mq ae n.ar)=o::ae.drop (mq ae n.ar+1):=by
  rw[du cL];rw[ai cL] at ho; injection ho with ho; rw[ho]
 have hd:∀m,m∈ae.drop (mq ae n.ar+1)->n.ar<m.ar:=fun m hm=>by
  obtain⟨k,hk⟩:=bV hm;rw[cI] at hk;have hkl:=(aj.1 hk).1;have h3:=cm.1 h _ _ cL hkl aI;have h4:ae[mq ae n.ar+1+k]=m:=by rw[ai hkl] at hk; injection hk
  have h5:ae[mq ae n.ar]=o:=by rw[ai cL] at ho; injection ho
  rw[h4,h5] at h3;omega
 unfold eT;rw[show oI n ae [] false=oI n (ae.take (mq ae n.ar)++ae.drop (mq ae n.ar)) [] false by rw[cC]]
 rw[BQ n _ _ _ (vP hl),hdr,oI];simp only[qe,he,dN,decide_true,ew,gG,er,aE,c8];rw[zw n _ _ hd,ju,aX cL];simp
def p85{ae:List Node}(h0:ae≠[])(hn:ae.length<=100000)(M:aC):aq bW 241 [ba ae] M=some (.cz M.length 0 6 0 ae.length,M++[.arr 6 0 (ae.map bL)]):=by
 refine fg (g:=mU 6 80) rfl ?_;obtain⟨a,r,rfl⟩:=fj h0;have hw:wid ((a::r).map bL) 6:=by have:=GF (a::r); simpa using this
 have hr:cq ((a::r).map bL).length 80:=by have:=sq (a:=(a::r).length) (b:=80) aI aI; simpa using this
 unfold mU;simp only[aF] at hw hr ⊢;rw[fi ⟨hw,hr⟩];simp
def p86{ae:List Node}{b:Nat}(hb:b<=ae.length)(hn:ae.length<=100000)(n:Node)(c0 c1:cJ) :
  aq bW 242 [.cz 2 0 6 0 ae.length,aH b,gU [.agg (aM n)]] [c0,c1,.arr 6 0 (ae.map bL)]=some (.cz 2 1 6 0 (ae.length+1),[c0,c1,.arr 6 1 ((ae.take b++n::ae.drop b).map bL)]):=by
 refine fg (g:=lj 6 80) rfl ?_;have hr:cq ((ae.map bL).length+1) 80:=by have:=sq (a:=ae.length+1) (b:=80) aI aI; simpa using this
 unfold lj;simp only[nth];rw[fi ⟨trivial,trivial,trivial,dv,aI,by simpa using hb,rfl,hr⟩]
 simp[iP,bL]
def Xb(ae:List Node)(b:Nat)(o n:Node)(h:ae[b]?=some o):(iP (ae.map bL) b (putCells (bL o) 0 (aM n)))=(ae.set b n).map bL:=by
 have:putCells (bL o) 0 (aM n)=bL n:=rfl;rw[this,fe,gj]
def aqH(ae:List Node)(next ak:Int)(n:Node)(h:o4 ae)(h0:ae≠[])(hn:ae.length<=100000):aq bW 182 [cu 0,bL n] [cv [ba ae,aH next,aH ak]] =
  some (.tuple [],[cv [ba (eT ae n),aH next,aH ak]]):=by
 refine aB ?_;have hk:=fun M=>afF ae next ak n.ar h hn 0 (cv [ba ae,aH next,aH ak]::M) rfl
 have hp:=fun M=>p85 h0 hn M
 have hle:=(uT h n.ar).le;simp only[Sb,aec,bL,aM,hk,hp,EN,seval];rcases tj h n.ar with ⟨h1,o,h2,h3,h4⟩|⟨h1,h2⟩
 ·have cL:((mq ae n.ar:Int)<(ae.length:Int))=True:=by have:=(aj.1 h2).1; simp; omega
  simp only[aec,h1,h2,cL,bK,gq,cW,EN,seval];have e:=Xb ae _ o n h2;simp only[aM] at e;rw[e,tP h h2 h4,bB dv]
 ·have hi:=fun c0 c1=>p86 hle hn n c0 c1
  simp only[aM] at hi;simp only[aec,h1,hi,gq,cW,EN,seval];rw[yn h h2,bB gm]
def LD(ae:List Node)(next ak a b c:Int)(d:Bytes)(e:List gM)(u:Int)(h:o4 ae)(h0:ae≠[])(hn:ae.length<=100000)(p:Nat)(M:aC)(hM:nth M p=some (cv [ba ae,aH next,aH ak])) :
  aU (aq bW) 182 [cu p,.agg [aH a,aH b,aH c,cV d,jb e,aH u]] M=some (.tuple [],iP M p (cv [ba (eT ae ⟨a,b,c,d,e,u⟩),aH next,aH ak])) :=
 tn hM (aqH ae next ak ⟨a,b,c,d,e,u⟩ h h0 hn) rfl rfl rfl rfl rfl rfl rfl rfl rfl rfl
def FZ:(∀M cs,ag.qX M (.agg cs) = .agg (cs.map (ag.nY M)))/\(∀M i o,ag.qX M (.ptr i o) = .ptr i o)/\(∀M k n,ag.qX M (.int k n) = .int k n)/\(∀M s,ag.qX M (.str s) = .str s) /\
  (∀M k n,ag.nY M (.int k n) = .int k n)/\(∀M s,ag.nY M (.str s) = .str s)/\(∀M tk xs,ag.nY M (.slice tk xs) = .slice tk xs)/\(∀M b,ag.nY M (.bool b) = .bool b) /\
  (∀M id ver sz lo hi,ag.nY M (.cz id ver sz lo hi)=match nth M id with
   |some (.arr _ v xs)=>if v=ver then gU ((xs.take hi).drop lo) else .any
   |_ => .any)/\(∀i a b c d,ag.nJ (.cz i a b c d)=[i]):=by
 refine⟨?_,?_,?_,?_,?_,?_,?_,?_,?_,?_⟩<;>intros<;>rfl
def AB{ae:List Node}(h:o4 ae){ar:Int}{o:Node}(ho:ae[mq ae ar]?=some o)(he:o.ar=ar):fR ae ar=ae.take (mq ae ar)++ae.drop (mq ae ar+1):=by
 have hl:=uT h ar;have cL:=(aj.1 ho).1
 have hd:∀m,m∈ae.drop (mq ae ar+1)->ar<m.ar:=fun m hm=>by
  obtain⟨k,hk⟩:=bV hm;rw[cI] at hk;have hkl:=(aj.1 hk).1;have h3:=cm.1 h _ _ cL hkl aI;have h4:ae[mq ae ar+1+k]=m:=by rw[ai hkl] at hk; injection hk
  have h5:ae[mq ae ar]=o:=by rw[ai cL] at ho; injection ho
  rw[h4,h5] at h3;omega
 have hdr:ae.drop (mq ae ar)=o::ae.drop (mq ae ar+1):=by
  rw[du cL];rw[ai cL] at ho; injection ho with ho; rw[ho]
 unfold fR;rw[show ae.filter (fun n=>n.ar != ar)=(ae.take (mq ae ar)++ae.drop (mq ae ar)).filter (fun n=>n.ar != ar) by rw[cC]]
 rw[iK,hdr,eZ];simp only[he,az,af,aD];rw[ji.2 fun m hm=>by have:=vP hl m hm; simp; omega,ji.2 fun m hm=>by have:=hd m hm; simp; omega]
def yJ{ae:List Node}{ar:Int}(hf:find ae ar=none):fR ae ar=ae :=
 ji.2 fun m hm=>by simpa using fu.1 hf m hm
def atY{ae:List Node}{b:Nat}(hb:b<ae.length)(hn:ae.length<=100000)(c0:cJ) :
  aq bW 283 [.cz 1 0 6 0 ae.length,aH b,aH ((b+1:Nat):Int)] [c0,.arr 6 0 (ae.map bL)]=some (.cz 1 1 6 0 (ae.length-1),[c0,.arr 6 1 ((ae.take b++ae.drop (b+1)).map bL)]):=by
 refine fg (g:=lN 6) rfl ?_;unfold lN;simp only[nth];rw[fi ⟨trivial,trivial,trivial,dv,aI,by simpa using hb,aI,gm⟩]
 simp[iP]
def aro(ae:List Node)(next ak ar:Int)(h:o4 ae)(hn:ae.length<=100000):aq bW 244 [cu 0,aH ar] [cv [ba ae,aH next,aH ak]] =
  some (.tuple [],[cv [ba (fR ae ar),aH next,aH ak]]):=by
 refine aB ?_;have hk:=fun M=>afF ae next ak ar h hn 0 (cv [ba ae,aH next,aH ak]::M) rfl
 simp only[Sl,aej,hk,EN,seval];rcases tj h ar with ⟨h1,o,h2,h3,h4⟩|⟨h1,h2⟩
 ·have cL:=(aj.1 h2).1;have h0:ae≠[]:=by rintro rfl; simp at h2
  have hp:=fun M=>p85 h0 hn M
  have hd:=fun c0=>atY cL hn c0
  have hw:IntKind.i64.wrap ((mq ae ar:Int)+1)=((mq ae ar+1:Nat):Int):=by rw[gw aI aI]; rfl
  simp only[aej,h1,hp,hd,hw,gq,cW,EN,seval];rw[AB h h2 h4,bB gm]
 ·simp only[aej,h1,EN,seval];rw[yJ h2]
def amC(ae:List Node)(next ak ar:Int)(h:o4 ae)(hn:ae.length<=100000)(p:Nat)(M:aC)(hM:nth M p=some (cv [ba ae,aH next,aH ak])) :
  aU (aq bW) 244 [cu p,aH ar] M=some (.tuple [],iP M p (cv [ba (fR ae ar),aH next,aH ak])) :=
 tn hM (aro ae next ak ar h hn) rfl rfl rfl rfl rfl rfl rfl rfl rfl rfl
def Mn{a b:Bytes}(h:strLt a b=true):strLt b a=false:=by
 cases hb:strLt b a with
 |false=>rfl
 |true=>have:=xK h hb; rw[rL] at this; cases this
def xJ:∀(a b:Bytes),strLt a b=true\/a=b\/strLt b a=true
 | [],[] => .inr (.inl rfl)
 | [],_::_ => .inl rfl
 |_::_,[] => .inr (.inr rfl)
 |a::x,b::y=>by
  simp only[strLt,cS,bt,bj,eu,kO,lf];rcases xJ x y with h|h|h
  ·rcases iY a.toNat b.toNat with h1|h1|h1
   ·exact .inl (.inl h1)
   ·exact .inl (.inr ⟨kQ.1 h1,h⟩)
   ·exact .inr (.inr (.inl h1))
  ·rcases iY a.toNat b.toNat with h1|h1|h1
   ·exact .inl (.inl h1)
   ·exact .inr (.inl ⟨kQ.1 h1,h⟩)
   ·exact .inr (.inr (.inl h1))
  ·rcases iY a.toNat b.toNat with h1|h1|h1
   ·exact .inl (.inl h1)
   ·exact .inr (.inr (.inr ⟨(kQ.1 h1).symm,h⟩))
   ·exact .inr (.inr (.inl h1))
def Ph{a b:Bytes}(h:strLt a b=true):gtB a b=false:=by simp[gtB,h]
def Pg{a b:Bytes}(h:strLt b a=true):gtB a b=true:=by
 have h1:=Mn h;have h2:¬a=b:=by rintro rfl; rw[rL] at h; cases h
 simp[gtB,h1,h2]
def Jd(e:gM)(rest:List gM):∀(pre out:List gM),(∀m,m∈pre->strLt m.name e.name=true)->vE e (pre++rest) out false=vE e rest (out++pre) false
 | [],out,_=>dv
 |m::r,out,h=>by
  rw[aG,vE,Ph (h m (bE ..))];simp only[dV,fE,af,aD];rw[Jd e rest r _ fun x hx=>h x (bw _ hx)]
  simp
def F1(e:gM):∀(rest out:List gM),vE e rest out true=(out++rest,true)
 | [],out=>by simp[vE]
 |m::r,out=>by
  rw[vE];simp only[cU,dW,dJ,af,aD];rw[F1 e r];simp
def BJ{l:List gM}{s:Bytes}{b:Nat}(h:Oo l s b):∀m,m∈l.take b->strLt m.name s=true:=fun m hm=>by
 obtain⟨k,hk⟩:=bV hm;rw[fx] at hk;split at hk
 ·rename_i cL; exact(h.lt k m hk).2 cL
 ·cases hk
def Dy{l:List gM}{s:Bytes}{b:Nat}(h:Oo l s b):∀m,m∈l.drop b->strLt m.name s=false:=fun m hm=>by
 obtain⟨k,hk⟩:=bV hm;rw[cI] at hk;have:=h.lt _ m hk;have hn:¬b+k<b:=aI;cases hc:strLt m.name s with
 |false=>rfl
 |true=>exact absurd (this.1 hc) hn
def vD{l:List gM}(h:ri l){e:gM}(hf:gv l e.name=none):zb l e=l.take (mD l e.name)++e::l.drop (mD l e.name):=by
 have hl:=sj h e.name
 have hd:∀m,m∈l.drop (mD l e.name)->strLt e.name m.name=true:=fun m hm=>by
  have h1:=Dy hl m hm;have h2:=fu.1 hf m (dx hm);have h3:¬m.name=e.name:=by simpa using h2
  rcases xJ m.name e.name with h4|h4|h4
  ·rw[h1] at h4; cases h4
  ·exact absurd h4 h3
  ·exact h4
 unfold zb;rw[show vE e l [] false=vE e (l.take (mD l e.name)++l.drop (mD l e.name)) [] false by rw[cC]]
 rw[Jd e _ _ _ (BJ hl)];generalize l.drop (mD l e.name)=rest at hd;cases rest with
 |nil=>simp[vE]
 |cons m r =>
  rw[vE,Pg (hd m (bE ..))];simp only[ew,gG,er,aE];rw[F1];simp
def FC{l:List gM}(h:ri l){s:Bytes}{o:gM}(ho:l[mD l s]?=some o)(he:o.name=s):jI l s=l.take (mD l s)++l.drop (mD l s+1):=by
 have hl:=sj h s;have cL:=(aj.1 ho).1
 have hdr:l.drop (mD l s)=o::l.drop (mD l s+1):=by
  rw[du cL];rw[ai cL] at ho; injection ho with ho; rw[ho]
 have hd:∀m,m∈l.drop (mD l s+1)->strLt s m.name=true:=fun m hm=>by
  obtain⟨k,hk⟩:=bV hm;rw[cI] at hk;have hkl:=(aj.1 hk).1;have h3:=cm.1 h _ _ cL hkl aI;have h4:l[mD l s+1+k]=m:=by rw[ai hkl] at hk; injection hk
  have h5:l[mD l s]=o:=by rw[ai cL] at ho; injection ho
  rw[h4,h5,he] at h3;exact h3
 have ne:∀ {a b:Bytes},strLt a b=true->¬a=b:=fun {a b} h=>by rintro rfl; rw[rL] at h; cases h
 unfold jI;rw[show l.filter (fun n=>n.name != s)=(l.take (mD l s)++l.drop (mD l s)).filter (fun n=>n.name != s) by rw[cC]]
 rw[iK,hdr,eZ];simp only[he,az,af,aD];rw[ji.2 fun m hm=>by simpa using ne (BJ hl m hm),ji.2 fun m hm=>by simpa using fun hc=>ne (hd m hm) hc.symm]
def Lc{l:List gM}{s:Bytes}(hf:gv l s=none):jI l s=l :=
 ji.2 fun m hm=>by simpa using fu.1 hf m hm
def p58{l:List gM}(h0:l≠[])(hn:l.length<=100000)(M:aC):aq bW 205 [jb l] M=some (.cz M.length 0 3 0 l.length,M++[.arr 3 0 (l.map iG)]):=by
 refine fg (g:=mU 3 32) rfl ?_;obtain⟨a,r,rfl⟩:=fj h0;have hw:wid ((a::r).map iG) 3:=by have:=Kg (a::r); simpa using this
 have hr:cq ((a::r).map iG).length 32:=by have:=sq (a:=(a::r).length) (b:=32) aI aI; simpa using this
 unfold mU;simp only[aF] at hw hr ⊢;rw[fi ⟨hw,hr⟩];simp
def anu(M:aC):aq bW 205 [gU []] M=some (.slice .c0 [],M):=fg (g:=mU 3 32) rfl rfl
def p87{l:List gM}{b:Nat}(hb:b<=l.length)(hn:l.length<=100000)(e:gM)(c0 c1:cJ) :
  aq bW 243 [.cz 2 0 3 0 l.length,aH b,gU [.agg (fU e)]] [c0,c1,.arr 3 0 (l.map iG)]=some (.cz 2 1 3 0 (l.length+1),[c0,c1,.arr 3 1 ((l.take b++e::l.drop b).map iG)]):=by
 refine fg (g:=lj 3 32) rfl ?_;have hr:cq ((l.map iG).length+1) 32:=by have:=sq (a:=l.length+1) (b:=32) aI aI; simpa using this
 unfold lj;simp only[nth];rw[fi ⟨trivial,trivial,trivial,dv,aI,by simpa using hb,rfl,hr⟩]
 simp[iP,iG]
def at0(e:gM)(M:aC):aq bW 243 [.slice .c0 [],aH 0,gU [.agg (fU e)]] M=some (.cz M.length 0 3 0 1,M++[.arr 3 0 [.agg (fU e)]]):=by
 refine fg (g:=lj 3 32) rfl ?_
 show cr ((0:Int)=0/\(ag.agg (fU e)).cells.length=3) _=_
 exact fi ⟨rfl,rfl⟩
def p84{l:List gM}{b:Nat}(hb:b<l.length)(hn:l.length<=100000)(c0 c1:cJ) :
  aq bW 248 [.cz 2 0 3 0 l.length,aH b,aH ((b+1:Nat):Int)] [c0,c1,.arr 3 0 (l.map iG)]=some (.cz 2 1 3 0 (l.length-1),[c0,c1,.arr 3 1 ((l.take b++l.drop (b+1)).map iG)]):=by
 refine fg (g:=lN 3) rfl ?_;unfold lN;simp only[nth];rw[fi ⟨trivial,trivial,trivial,dv,aI,by simpa using hb,aI,gm⟩]
 simp[iP]
def Mq{ae:List Node}(h:o4 ae){n:Node}(hf:find ae n.ar=some n):eT ae n=ae:=by
 rcases tj h n.ar with ⟨_,o,h2,h3,h4⟩|⟨_,h2⟩
 ·rw[hf] at h3; cases h3;rw[tP h h2 rfl];apply ct;intro i
  by_cases e:mq ae n.ar=i
  ·subst e; rw[fa (aj.1 h2).1,h2]
  ·rw[eJ e]
 ·rw[hf] at h2; cases h2
def aqI(ae:List Node)(next ak dir:Int)(s:Bytes)(ar:Int)(h:o4 ae)(hn:ae.length<=100000){n:Node}(hf:find ae dir=some n)(hE:ri n.bc)(hl:n.bc.length<=99999)(hs:gv n.bc s=none) :
  aq bW 183 [cu 0,aH dir,.str s,aH ar] [cv [ba ae,aH next,aH ak]]=some (.tuple [],[cv (aN (im ⟨ae,next,ak⟩ dir s ar))]):=by
 refine aB ?_;have h0:ae≠[]:=by rintro rfl; simp[find] at hf
 have hnn:bl ae dir=n:=by simp[bl,hf]
 have hk:=fun M=>Fc ae next ak dir h hn 0 (cv [ba ae,aH next,aH ak]::M) rfl
 have hk2:=fun a b c d u M=>SX a b c d n.bc u s _ (sj hE s) aI M
 have hle:=(sj hE s).le
 have hres:im ⟨ae,next,ak⟩ dir s ar=⟨eT ae { n with bc:=n.bc.take (mD n.bc s)++⟨s,ar,ak⟩::n.bc.drop (mD n.bc s) },next,nz (ak+1)⟩:=by
  have:=vD hE (e:=⟨s,ar,ak⟩) hs;simp only[im,hf,bm,this]
 rw[hres,aN];have hp:=fun a b c d e u M=>LD ae next (nz (ak+1)) a b c d e u h h0 hn 0 (cv [ba ae,aH next,aH (nz (ak+1))]::M) rfl
 simp only[Sc,QP,hk,hnn,bL,aM,hk2,EN,seval]
 by_cases hne:n.bc=[]
 ·have hlow:mD n.bc s=0:=by rw[hne]; rfl
  have hi:=fun M=>at0 ⟨s,ar,ak⟩ M
  simp only[fU] at hi;have hlow0:mD [] s=0:=rfl;have hc0:((0:Nat):Int)=0:=rfl;simp only[QP,hne,hlow0,hc0,jb,anu,hi,FZ,pw,EN,seval];rw[show gU [ag.agg [.str s,aH ar,aH ak]]=jb [⟨s,ar,ak⟩] from rfl]
  simp only[QP,hp,EN,seval]
 ·have hc:=fun M=>p58 hne (show n.bc.length<=100000 by omega) M
  have hi:=fun c0 c1=>p87 hle (show n.bc.length<=100000 by omega) ⟨s,ar,ak⟩ c0 c1
  simp only[fU] at hi;simp only[QP,hc,hi,FZ,pw,EN,seval];have ht:List.take (n.bc.length+1) (List.map iG (List.take (mD n.bc s) n.bc++⟨s,ar,ak⟩::List.drop (mD n.bc s) n.bc))=List.map iG (List.take (mD n.bc s) n.bc++⟨s,ar,ak⟩::List.drop (mD n.bc s) n.bc):=bB gm;rw[ht];simp only[QP,hp,EN,seval]
def Za(ae:List Node)(next ak dir:Int)(s:Bytes)(ar:Int)(h:o4 ae)(hn:ae.length<=100000){n:Node}(hf:find ae dir=some n)(hE:ri n.bc)(hl:n.bc.length<=99999)(hs:gv n.bc s=none)(p:Nat)(M:aC)(hM:nth M p=some (cv [ba ae,aH next,aH ak])) :
  aU (aq bW) 183 [cu p,aH dir,.str s,aH ar] M=some (.tuple [],iP M p (cv (aN (im ⟨ae,next,ak⟩ dir s ar)))) :=
 tn hM (aqI ae next ak dir s ar h hn hf hE hl hs) rfl rfl rfl rfl rfl rfl rfl rfl rfl rfl
def aqQ(ae:List Node)(next ak dir:Int)(s:Bytes)(h:o4 ae)(hn:ae.length<=100000){n:Node}(hf:find ae dir=some n)(hE:ri n.bc)(hl:n.bc.length<=99999) :
  aq bW 195 [cu 0,aH dir,.str s] [cv [ba ae,aH next,aH ak]]=some (.tuple [],[cv [ba (dr ae dir s),aH next,aH ak]]):=by
 refine aB ?_;have h0:ae≠[]:=by rintro rfl; simp[find] at hf
 have hnn:bl ae dir=n:=by simp[bl,hf]
 have hino:n.ar=dir:=(cD hf).2;have hk:=fun M=>Fc ae next ak dir h hn 0 (cv [ba ae,aH next,aH ak]::M) rfl
 have hk2:=fun a b c d u M=>SX a b c d n.bc u s _ (sj hE s) aI M
 have hp:=fun a b c d e u M=>LD ae next ak a b c d e u h h0 hn 0 (cv [ba ae,aH next,aH ak]::M) rfl
 have hres:dr ae dir s=eT ae { n with bc:=jI n.bc s }:=by simp only[dr,hf,bm]
 rw[hres];simp only[Sg,X2,hk,hnn,bL,aM,hk2,EN,seval];rcases w8 hE s with ⟨h1,o,h2,h3,h4⟩|⟨h1,h2⟩
 ·have cL:=(aj.1 h2).1;have hne:n.bc≠[]:=by intro hc; rw[hc] at h2; simp at h2
  have hc:=fun M=>p58 hne (show n.bc.length<=100000 by omega) M
  have hd:=fun c0 c1=>p84 cL (show n.bc.length<=100000 by omega) c0 c1
  have hw:IntKind.i64.wrap ((mD n.bc s:Int)+1)=((mD n.bc s+1:Nat):Int):=by rw[gw aI aI]; rfl
  simp only[X2,h1,hc,hd,hw,FZ,pw,EN,seval];have ht:List.take (n.bc.length-1) (List.map iG (List.take (mD n.bc s) n.bc++List.drop (mD n.bc s+1) n.bc))=List.map iG (List.take (mD n.bc s) n.bc++List.drop (mD n.bc s+1) n.bc):=bB gm;rw[ht];simp only[X2,hp,EN,seval];rw[FC hE h2 h4]
 ·simp only[X2,h1,EN,seval];rw[Lc h2];have:eT ae n=ae:=Mq h (by rw[hino]; exact hf)
  rw[show({ n with bc:=n.bc }:Node)=n from rfl,this]
def afB(ae:List Node)(next ak dir:Int)(s:Bytes)(h:o4 ae)(hn:ae.length<=100000){n:Node}(hf:find ae dir=some n)(hE:ri n.bc)(hl:n.bc.length<=99999)(p:Nat)(M:aC)(hM:nth M p=some (cv [ba ae,aH next,aH ak])) :
  aU (aq bW) 195 [cu p,aH dir,.str s] M=some (.tuple [],iP M p (cv [ba (dr ae dir s),aH next,aH ak])) :=
 tn hM (aqQ ae next ak dir s h hn hf hE hl) rfl rfl rfl rfl rfl rfl rfl rfl rfl rfl
def kM(ae:List Node)(n:Node):List Node:=if n.kind==2 then fR ae n.ar else eT ae { n with eo:=nz (n.eo-1) }
def c196(ae:List Node)(next ak:Int)(n:Node)(h:o4 ae)(h0:ae≠[])(hn:ae.length<=100000) :
  aq bW 196 [cu 0,bL n] [cv [ba ae,aH next,aH ak]]=some (.tuple [],[cv [ba (kM ae n),aH next,aH ak]]):=by
 refine aB ?_;have hp:=fun a b c d e u M=>LD ae next ak a b c d e u h h0 hn 0 (cv [ba ae,aH next,aH ak]::M) rfl
 have hd:=fun M=>amC ae next ak n.ar h hn 0 (cv [ba ae,aH next,aH ak]::M) rfl
 simp only[acO,aee,bL,aM,EN,seval];unfold kM;refine bC (fun hb=>?_) (fun hb=>?_)
 ·simp only[aee,hb,hd,EN,seval]
 ·simp only[aee,hb,hp,af,EN,seval]
def amr(ae:List Node)(next ak a b c:Int)(d:Bytes)(e:List gM)(u:Int)(h:o4 ae)(h0:ae≠[])(hn:ae.length<=100000)(p:Nat)(M:aC)(hM:nth M p=some (cv [ba ae,aH next,aH ak])) :
  aU (aq bW) 196 [cu p,.agg [aH a,aH b,aH c,cV d,jb e,aH u]] M=some (.tuple [],iP M p (cv [ba (kM ae ⟨a,b,c,d,e,u⟩),aH next,aH ak])) :=
 tn hM (c196 ae next ak ⟨a,b,c,d,e,u⟩ h h0 hn) rfl rfl rfl rfl rfl rfl rfl rfl rfl rfl
def sr(ae:List Node)(ar:Int):Nat:=(uH ae ar).length-1
def pj(t:Tree)(dir:Int)(s:Bytes):Int :=
 if (gW t.ae dir).2 != 0 then (gW t.ae dir).2 else if !fY s then 60 else if (gv (gW t.ae dir).1.bc s).isSome=true then 71 else
 if decide ((64:Int)<=(gW t.ae dir).1.bc.length)||(decide ((12:Int)<=sr t.ae dir)||decide ((1099511627776:Int)<=t.ak)) then 76 else 0
def aqG(ae:List Node)(next ak dir:Int)(s:Bytes)(ht:Small ⟨ae,next,ak⟩)(hr:rS ⟨ae,next,ak⟩)(hs:s.length<=100000)(ha:pk s) :
  aq bW 181 [cu 0,aH dir,.str s] [cv [ba ae,aH next,aH ak]]=some (aH (pj ⟨ae,next,ak⟩ dir s),[cv [ba ae,aH next,aH ak]]):=by
 have hn:ae.length<=100000:=ht.ae;have hd:(gW ae dir).1.bc.length<=100000:=tF ht dir;have hE:ri (gW ae dir).1.bc:=hr.dir dir;have hk:=fun M=>Zb ae next ak dir hr.mB hn 0 (cv [ba ae,aH next,aH ak]::M) rfl
 have hk2:=fun a b c d u M=>SX a b c d (gW ae dir).1.bc u s _ (sj hE s) hd M
 have hk3:∀M,aU (aq bW) 239 [cu 0,aH dir] (cv [ba ae,aH next,aH ak]::M)=some (aH (sr ae dir),cv [ba ae,aH next,aH ak]::M):=fun M=>amB ae next ak dir hr.mB hn 0 (cv [ba ae,aH next,aH ak]::M) rfl
 refine aB ?_;simp only[acG,HS,hk,bL,aM,EN,seval];refine bC (fun hb=>?_) (fun hb=>?_)
 ·simp only[HS,hb,EN,seval];clear hk hk2 hk3;simp_all only[pj,qB,↓reduceIte,reduceCtorEq,az]
 simp only[HS,hb,afC,hs,ha,EN,seval];refine bC (fun hb1=>?_) (fun hb1=>?_)
 ·simp only[HS,hb1,EN,seval];clear hk hk2 hk3;simp_all only[pj,qB,↓reduceIte,reduceCtorEq,az]
 simp only[HS,hb1,hk2,EN,seval];rcases w8 hE s with ⟨h1,o,h2,h3,h4⟩|⟨h1,h2⟩
 ·simp only[HS,h1,EN,seval];clear hk hk2 hk3;simp_all only[pj,bX,qB,↓reduceIte,reduceCtorEq,az]
 ·simp only[HS,h1,EN,seval]
  repeat' ((first|apply bC|apply bU|apply dK)<;>intro hb<;>simp only[hb,EN,HS,hk3,seval])
  all_goals (clear hk hk2 hk3; simp_all only[pj,dp,qB,↓reduceIte,reduceCtorEq,az]; done)
def amo ae next ak dir s ht hr hs ha p M hM:=cM (p:=p) (M:=M) hM (aqG ae next ak dir s ht hr hs ha)
def Ae(x y:Node):Int:=if x.kind==2&&y.kind != 2 then 73 else if x.kind != 2&&y.kind==2 then 72 else if decide ((0:Int)<y.bc.length) then 74 else 0
def aqV(x y:Node):aq bW 202 [bL x,bL y] []=some (aH (Ae x y),[]):=by
 refine aB ?_;simp only[acS,air,bL,aM,EN,seval]
 repeat' ((first|apply bC|apply bU|apply dK)<;>intro hb<;>simp only[hb,EN,air,seval])
 all_goals (simp_all only[Ae,qB,↓reduceIte,reduceCtorEq,az]; done)
def aqL(t:Tree)(ar:Int)(ht:Small t)(hr:rS t):aq bW 187 [br t,aH ar] []=some (.tuple [br (kK t ar).1,aH (kK t ar).2],[]):=by
 obtain⟨ae,next,ak⟩:=t
 have hn:ae.length<=100000:=ht.ae;refine aB ?_;have hk:=fun b c M=>Fc ae next ak ar hr.mB hn 2 (b::c :: cv [ba ae,aH next,aH ak]::M) rfl
 have hd:=fun b c M=>amC ae next ak ar hr.mB hn 2 (b::c :: cv [ba ae,aH next,aH ak]::M) rfl
 simp only[acI,aiq,br,aN,hk,bL,aM,EN,seval]
 repeat' ((first|apply bC|apply bU|apply dK)<;>intro hb<;>simp only[hb,EN,aiq,hd,seval])
 all_goals (clear hk hd; simp_all only[kK,br,aN,qB,↓reduceIte,reduceCtorEq,az]; done)
def ast(data:Bytes)(hd:data.length<=100000)(M:aC):aU (aq bW) 160 [cV data] M=some (cV data,M):=by
 refine cO (fg (g:=pCC 1 1) rfl ?_) M;have hw:wid (data.map pf) 1:=by have:=sg data; simpa using this
 have hr:cq (data.map pf).length 1:=by have:=sq (a:=data.length) (b:=1) aI aI; simpa using this
 exact fi ⟨hw,hr⟩
def aq9(t:Tree)(ar:Int)(data:Bytes)(ht:Small t)(hr:rS t)(hd:data.length<=100000):aq bW 225 [br t,aH ar,cV data] []=some (.tuple [br (rP t ar data).1,aH (rP t ar data).2],[]):=by
 obtain⟨ae,next,ak⟩:=t
 have hn:ae.length<=100000:=ht.ae;refine aB ?_;have hk:=fun b c M=>Fc ae next ak ar hr.mB hn 2 (b::c :: cv [ba ae,aH next,aH ak]::M) rfl
 simp only[ac7,X4,br,aN,hk,bL,aM,EN,seval];cases hf:find ae ar with
 |none =>
  simp only[X4,dp,EN,seval];clear hk;simp_all only[rP,br,aN,dp,qB,↓reduceIte,reduceCtorEq,az]
 |some n =>
  have h0:ae≠[]:=by rintro rfl; simp[find] at hf
  have hp:=fun x y a b c d e u M=>LD ae next ak a b c d e u hr.mB h0 hn 2 (x::y :: cv [ba ae,aH next,aH ak]::M) rfl
  have hc:=fun M=>ast data hd M
  simp only[X4,bX,EN,seval]
  repeat' ((first|apply bC|apply bU|apply dK)<;>intro hb<;>simp only[hb,EN,X4,hp,hc,seval])
  all_goals (clear hk hp hc; simp_all only[rP,br,aN,bX,qB,↓reduceIte,reduceCtorEq,az]; done)
end
def KE{ae:List Node}(h:o4 ae){a b:Node}(ha:a∈ae)(hb:b∈ae)(he:a.ar=b.ar):a=b:=by
 obtain⟨i,hi⟩:=bV ha;obtain⟨k,hk⟩:=bV hb;have hil:=(aj.1 hi).1;have hkl:=(aj.1 hk).1;have e1:ae[i]=a:=by rw[ai hil] at hi; injection hi
 have e2:ae[k]=b:=by rw[ai hkl] at hk; injection hk
 rcases iY i k with cL|heq|hgt
 ·have:=cm.1 h _ _ hil hkl cL;rw[e1,e2] at this; omega
 ·subst heq; rw[<-e1,<-e2]
 ·have:=cm.1 h _ _ hkl hil hgt;rw[e1,e2] at this; omega
def ig{ae:List Node}(h:o4 ae){i:Int}{m:Node}:find ae i=some m↔m∈ae/\m.ar=i:=by
 refine⟨cD,fun⟨h1,h2⟩=>?_⟩
 cases hf:find ae i with
 |none =>
  have:=fu.1 hf m h1;simp[h2] at this
 |some k =>
  obtain⟨k1,k2⟩:=cD hf;rw[KE h h1 k1 aI]
def qJ{ae:List Node}{i:Int}:find ae i=none↔∀m,m∈ae->m.ar≠i:=by
 unfold find;rw[fu];simp
def yi{ae:List Node}{b:Nat}{o n:Node}(ho:ae[b]?=some o):ae=ae.take b++o::ae.drop (b+1)/\ae.set b n=ae.take b++n::ae.drop (b+1):=by
 have cL:=(aj.1 ho).1;constructor
 ·rw[ai cL] at ho; injection ho with ho
  conv=>lhs; rw[<-cC b ae]
  rw[du cL,ho]
 ·rw[ju,aX cL]
def vF{ae:List Node}(h:o4 ae){n m:Node}:m∈eT ae n↔m=n\/(m∈ae/\m.ar≠n.ar):=by
 rcases tj h n.ar with ⟨_,o,h2,h3,h4⟩|⟨_,h2⟩
 ·rw[tP h h2 h4];obtain⟨s1,s2⟩:=yi (n:=n) h2;have hon:o∈ae:=(cD h3).1;constructor
  ·intro hm;rw[s2] at hm;rcases bo.1 hm with hm|hm
   ·have hmn:=dM hm;have:=vP (uT h n.ar) m hm;exact .inr ⟨hmn,aI⟩
   ·rcases bI.1 hm with rfl|hm
    ·exact .inl rfl
    ·refine .inr ⟨dx hm,fun he=>?_⟩
     have hp:=h;unfold o4 at hp;rw[s1,ft] at hp;have:=(dj.1 hp.2.1).1 m hm;omega
  ·rintro(rfl|⟨hm,hne⟩)
   ·rw[s2]; simp
   ·rw[s1] at hm;rw[s2];rcases bo.1 hm with hm|hm
    ·exact fq _ hm
    ·rcases bI.1 hm with rfl|hm
     ·exact absurd h4 hne
     ·exact iC _ (bw _ hm)
 ·rw[yn h h2];rw[qJ] at h2;constructor
  ·intro hm;rcases bo.1 hm with hm|hm
   ·have:=dM hm;exact .inr ⟨this,h2 m this⟩
   ·rcases bI.1 hm with rfl|hm
    ·exact .inl rfl
    ·have:=dx hm;exact .inr ⟨this,h2 m this⟩
  ·rintro(rfl|⟨hm,_⟩)
   ·simp
   ·rw[<-cC (mq ae n.ar) ae] at hm;rcases bo.1 hm with hm|hm
    ·exact fq _ hm
    ·exact iC _ (bw _ hm)
def lQ{ae:List Node}(h:o4 ae)(n:Node):o4 (eT ae n):=by
 have hl:=uT h n.ar;rcases tj h n.ar with ⟨_,o,h2,h3,h4⟩|⟨_,h2⟩
 ·rw[tP h h2 h4];obtain⟨s1,s2⟩:=yi (n:=n) h2;have hp:=h;unfold o4 at hp ⊢;rw[s1,ft] at hp;obtain⟨p1,p2,p3⟩:=hp;obtain⟨p4,p5⟩:=dj.1 p2;rw[s2,ft];refine⟨p1,dj.2 ⟨fun m hm=>by have:=p4 m hm; omega,p5⟩,fun a ha c hc=>?_⟩
  rcases bI.1 hc with rfl|hc
  ·exact vP hl a ha
  ·exact p3 a ha c (bw _ hc)
 ·rw[yn h h2];have hp:=h;unfold o4 at hp ⊢;rw[<-cC (mq ae n.ar) ae,ft] at hp;obtain⟨p1,p2,p3⟩:=hp;rw[qJ] at h2;rw[ft];refine⟨p1,dj.2 ⟨fun m hm=>?_,p2⟩,fun a ha c hc=>?_⟩
  ·have k1:=FD hl m hm;have k2:=h2 m (dx hm);omega
  ·rcases bI.1 hc with rfl|hc
   ·exact vP hl a ha
   ·exact p3 a ha c hc
def gr{ae:List Node}(h:o4 ae)(n:Node)(i:Int):find (eT ae n) i=if i=n.ar then some n else find ae i:=by
 split
 ·rename_i he;exact(ig (lQ h n)).2 ⟨(vF h).2 (.inl rfl),he.symm⟩
 ·rename_i hne;cases hf:find ae i with
  |none =>
   rw[qJ] at hf ⊢;intro m hm;rcases(vF h).1 hm with rfl|⟨hm,_⟩
   ·exact fun he=>hne he.symm
   ·exact hf m hm
  |some m =>
   obtain⟨h1,h2⟩:=cD hf;exact(ig (lQ h n)).2 ⟨(vF h).2 (.inr ⟨h1,aI⟩),h2⟩
def rM{ae:List Node}(h:o4 ae)(i:Int):o4 (fR ae i):=jR _ h
def mu{ae:List Node}(h:o4 ae)(k i:Int):find (fR ae k) i=if i=k then none else find ae i:=by
 split
 ·rename_i he;rw[qJ];intro m hm;have:=(ei.1 hm).2;simp at this;omega
 ·rename_i hne;cases hf:find ae i with
  |none =>
   rw[qJ] at hf ⊢;exact fun m hm=>hf m (ei.1 hm).1
  |some m =>
   obtain⟨h1,h2⟩:=cD hf;exact(ig (rM h k)).2 ⟨ei.2 ⟨h1,gm⟩,h2⟩
def SJ{l:List gM}(h:ri l){e:gM}(hf:gv l e.name=none):ri (zb l e):=by
 rw[vD h hf];have hl:=sj h e.name;have hp:=h;unfold ri at hp ⊢;rw[<-cC (mD l e.name) l,ft] at hp;obtain⟨p1,p2,p3⟩:=hp;rw[ft];refine⟨p1,dj.2 ⟨fun m hm=>?_,p2⟩,fun a ha c hc=>?_⟩
 ·have k1:=Dy hl m hm;have k2:¬m.name=e.name:=by simpa using fu.1 hf m (dx hm)
  rcases xJ m.name e.name with h4|h4|h4
  ·rw[k1] at h4; cases h4
  ·exact absurd h4 k2
  ·exact h4
 ·rcases bI.1 hc with rfl|hc
  ·exact BJ hl a ha
  ·exact p3 a ha c hc
def AR{l:List gM}(h:ri l)(s:Bytes):ri (jI l s):=jR _ h
def rS.with{t:Tree}(h:rS t){n:Node}(hn:ri n.bc)(next ak:Int):rS ⟨eT t.ae n,next,ak⟩ :=
 ⟨lQ h.mB n,fun m hm=>by
  rcases(vF h.mB).1 hm with rfl|⟨hm,_⟩
  ·exact hn
  ·exact h.bc m hm⟩
def rS.uY{t:Tree}(h:rS t)(i next ak:Int):rS ⟨fR t.ae i,next,ak⟩ :=
 ⟨rM h.mB i,fun m hm=>h.bc m (ei.1 hm).1⟩
def rS.node{t:Tree}(h:rS t)(i:Int):ri (bl t.ae i).bc:=by
 cases hf:find t.ae i with
 |none=>simp[bl,hf,Node.zero]; exact List.Pairwise.nil
 |some n=>simp[bl,hf]; exact h.bc n (cD hf).1
def rS.left{t:Tree}(h:rS t)(i:Int)(s:Bytes)(next ak:Int):rS ⟨dr t.ae i s,next,ak⟩ :=
 h.with (n:={ bl t.ae i with bc:=jI (bl t.ae i).bc s }) (AR (h.node i) s) next ak
def rS.nM{t:Tree}(h:rS t)(i:Int)(s:Bytes)(of:Int)(hf:gv (bl t.ae i).bc s=none):rS (im t i s of) :=
 h.with (n:={ bl t.ae i with bc:=zb (bl t.ae i).bc ⟨s,of,t.ak⟩ }) (SJ (h.node i) hf) t.next (nz (t.ak+1))
section
attribute [local irreducible] eX fM lC gK dX kr aq aU cr bJ
def yY{ae:List Node}{dir:Int}(h:(gW ae dir).2=0):∃d,find ae dir=some d/\d.kind=2/\gW ae dir=(d,0):=by
 unfold gW at h ⊢;split at h
 ·cases h
 ·rename_i d hd;split at h
  ·rename_i hk; exact⟨d,hd,hk,by simp[hd,hk]⟩
  ·cases h
def V2{t:Tree}{dir:Int}{s:Bytes}(h:(pj t dir s != 0)=false):∃d,find t.ae dir=some d/\d.kind=2/\fY s=true/\gv d.bc s=none/\d.bc.length<64/\sr t.ae dir<12/\t.ak<1099511627776:=by
 have h:pj t dir s=0:=by simpa using h
 unfold pj at h;split at h
 ·rename_i hc;rw[h] at hc; cases hc
 ·rename_i hc;obtain⟨d,h1,h2,h3⟩:=yY (by simpa using hc)
  rw[h3] at h;split at h
  ·cases h
  ·rename_i hk;split at h
   ·cases h
   ·rename_i hf;split at h
    ·cases h
    ·rename_i hm;simp at hk hf hm;exact⟨d,h1,h2,hk,hf,aI,aI,aI⟩
def KB(t:Tree)(ar:Int)(s:Bytes)(kind:Int):Tree×Int×Int :=
 if kind != 1&&kind != 2 then (t,0,1) else if pj t ar s != 0 then (t,0,pj t ar s) else
 if decide ((200:Int)<=t.ae.length)||decide ((1099511627776:Int)<=t.next) then (t,0,76) else
 (im ⟨eT t.ae ⟨t.next,kind,1,[],[],if kind==2 then ar else 0⟩,nz (t.next+1),t.ak⟩ ar s t.next,t.next,0)
def aqb(t:Tree)(dir:Int)(s:Bytes)(kind:Int)(hz:Sz 1000 t)(hr:rS t)(hs:s.length<=100000)(ha:pk s)(jw:∀m,m∈t.ae->m.ar<t.next) :
  aq bW 147 [br t,aH dir,.str s,aH kind] []=some (.tuple [br (KB t dir s kind).1,aH (KB t dir s kind).2.1,aH (KB t dir s kind).2.2],[]):=by
 obtain⟨ae,next,ak⟩:=t
 have ht:Small ⟨ae,next,ak⟩:=hz.small aI
 have hn:ae.length<=100000:=ht.ae;have hk:=fun b c M=>amo ae next ak dir s ht hr hs ha 2 (b::c :: cv [ba ae,aH next,aH ak]::M) rfl
 have last:(pj ⟨ae,next,ak⟩ dir s != 0)=false->∀u,ae≠[]/\∀b c M,aU (aq bW) 183 [cu 2,aH dir,.str s,aH next] (b::c :: cv [ba (eT ae ⟨next,kind,1,[],[],u⟩),aH (nz (next+1)),aH ak]::M) =
   some (.tuple [],b::c :: cv (aN (im ⟨eT ae ⟨next,kind,1,[],[],u⟩,nz (next+1),ak⟩ dir s next))::M):=fun hm u=>by
  obtain⟨d,d1,d2,d3,d4,d5,d6,d7⟩:=V2 hm;have dm:=cD d1;have cL:=jw d dm.1;simp only at cL;refine⟨by rintro rfl; simp[find] at d1,fun b c M=>?_⟩
  have hz1:Sz 1001 ⟨eT ae ⟨next,kind,1,[],[],u⟩,nz (next+1),ak⟩:=hz.with (n:=⟨next,kind,1,[],[],u⟩) dv dv (nz (next+1)) ak
  have hf:find (eT ae ⟨next,kind,1,[],[],u⟩) dir=some d:=by rw[gr hr.mB,aL gm]; exact d1
  exact Za (eT ae ⟨next,kind,1,[],[],u⟩) (nz (next+1)) ak dir s next (lQ hr.mB _) (hz1.small aI).ae hf (hr.bc d dm.1) aI d4 2 (b::c :: cv [ba (eT ae ⟨next,kind,1,[],[],u⟩),aH (nz (next+1)),aH ak]::M) rfl
 refine aB ?_;simp only[aco,ad5,br,aN,hk,EN,seval]
 repeat' ((first|apply bC|apply bU|apply dK)<;>intro hb<;>simp only[hb,EN,ad5,hk,seval])
 all_goals try (clear hk last; simp_all only[KB,br,aN,qB,↓reduceIte,reduceCtorEq,az]; done)
 all_goals
  have hm:(pj ⟨ae,next,ak⟩ dir s != 0)=false:=by assumption
  have h0:=(last hm 0).1
  have hp:∀u b c M,aU (aq bW) 182 [cu 2,.agg [aH next,aH kind,aH 1,gU [],gU [],aH u]] (b::c :: cv [ba ae,aH (nz (next+1)),aH ak]::M) =
    some (.tuple [],b::c :: cv [ba (eT ae ⟨next,kind,1,[],[],u⟩),aH (nz (next+1)),aH ak]::M):=fun u b c M=>LD ae (nz (next+1)) ak next kind 1 [] [] u hr.mB h0 hn 2 (b::c :: cv [ba ae,aH (nz (next+1)),aH ak]::M) rfl
  have hl:=fun u=>(last hm u).2
  simp only[ad5,hp,hl,aN,EN,seval];clear hk last hp hl;simp_all only[KB,br,aN,qB,↓reduceIte,reduceCtorEq,az]
def lnW(t:Tree)(ar to:Int)(s:Bytes):Tree×Int :=
 if !(find t.ae ar).isSome||((bl t.ae ar).kind==1&&(bl t.ae ar).eo==0) then (t,70) else if (bl t.ae ar).kind==2 then (t,72) else
 if pj t to s != 0 then (t,pj t to s) else
 (im ⟨eT t.ae { bl t.ae ar with eo:=nz ((bl t.ae ar).eo+1) },t.next,t.ak⟩ to s ar,0)
def aqd(t:Tree)(ar dir:Int)(s:Bytes)(hz:Sz 1000 t)(hr:rS t)(hs:s.length<=100000)(ha:pk s) :
  aq bW 149 [br t,aH ar,aH dir,.str s] []=some (.tuple [br (lnW t ar dir s).1,aH (lnW t ar dir s).2],[]):=by
 obtain⟨ae,next,ak⟩:=t
 have ht:Small ⟨ae,next,ak⟩:=hz.small aI
 have hn:ae.length<=100000:=ht.ae;have hg:=fun b c M=>Fc ae next ak ar hr.mB hn 2 (b::c :: cv [ba ae,aH next,aH ak]::M) rfl
 have hk:=fun b c M=>amo ae next ak dir s ht hr hs ha 2 (b::c :: cv [ba ae,aH next,aH ak]::M) rfl
 have last:(pj ⟨ae,next,ak⟩ dir s != 0)=false->(find ae ar).isSome=true->((bl ae ar).kind==2)=false->∀l,ae≠[]/\∀b c M,aU (aq bW) 183 [cu 2,aH dir,.str s,aH ar] (b::c :: cv [ba (eT ae { bl ae ar with eo:=l }),aH next,aH ak]::M) =
   some (.tuple [],b::c :: cv (aN (im ⟨eT ae { bl ae ar with eo:=l },next,ak⟩ dir s ar))::M):=fun hm hi hkd l=>by
  obtain⟨d,d1,d2,d3,d4,d5,d6,d7⟩:=V2 hm;have dm:=cD d1;refine⟨by rintro rfl; simp[find] at d1,fun b c M=>?_⟩
  have hfd:=hz.find ar;have hz1:Sz 1001 ⟨eT ae { bl ae ar with eo:=l },next,ak⟩:=hz.with (n:={ bl ae ar with eo:=l }) (iX hfd.1) hfd.2 next ak
  obtain⟨n,hfn⟩:=fz.1 hi;have hnn:bl ae ar=n:=by simp[bl,hfn]
  have hne:¬dir=(bl ae ar).ar:=fun he=>by
   rw[hnn] at he hkd;have h1:=(cD hfn).2;rw[he,h1,hfn] at d1;injection d1 with d1
   subst d1;simp[d2] at hkd
  have hf:find (eT ae { bl ae ar with eo:=l }) dir=some d:=by rw[gr hr.mB,aL hne]; exact d1
  exact Za (eT ae { bl ae ar with eo:=l }) next ak dir s ar (lQ hr.mB _) (hz1.small aI).ae hf (hr.bc d dm.1) aI d4 2 (b::c :: cv [ba (eT ae { bl ae ar with eo:=l }),aH next,aH ak]::M) rfl
 refine aB ?_;simp only[acp,ad6,br,aN,hg,bL,aM,EN,seval]
 repeat' ((first|apply bC|apply bU|apply dK)<;>intro hb<;>simp only[hb,EN,ad6,hk,seval])
 all_goals try (clear hk hg last; simp_all only[lnW,br,aN,qB,↓reduceIte,reduceCtorEq,az]; done)
 all_goals
  have hm:(pj ⟨ae,next,ak⟩ dir s != 0)=false:=by assumption
  have h2:((bl ae ar).kind==2)=false:=by assumption
  have h3:(!(find ae ar).isSome)=false:=by assumption
  have h3:(find ae ar).isSome=true:=by simpa using h3
  have h0:=(last hm h3 h2 0).1;have hp:=fun a b c d e u x y M=>LD ae next ak a b c d e u hr.mB h0 hn 2 (x::y :: cv [ba ae,aH next,aH ak]::M) rfl
  have hl:=fun l=>(last hm h3 h2 l).2
  simp only[ad6,hp,hl,aN,EN,seval];clear hk hg last hp hl;simp_all only[lnW,br,aN,qB,↓reduceIte,reduceCtorEq,az]
def look_ok{ae:List Node}{dir:Int}{s:Bytes}(h:((fh ae dir s).2 != 0)=false):∃d e,find ae dir=some d/\d.kind=2/\fY s=true/\gv d.bc s=some e/\fh ae dir s=(e.ar,0):=by
 have h:(fh ae dir s).2=0:=by simpa using h
 have h':=h;unfold fh at h;split at h
 ·rename_i hc; exact absurd h hc
 ·rename_i hc;obtain⟨d,h1,h2,h3⟩:=yY (by simpa using hc)
  rw[h3] at h;split at h
  ·cases h
  ·rename_i hk;split at h
   ·cases h
   ·rename_i e he;have hk:fY s=true:=by simpa using hk
    refine⟨d,e,h1,h2,hk,he,?_⟩;unfold fh;rw[h3];simp[hk,he]
def unW(t:Tree)(dir:Int)(s:Bytes):Tree×Int×Int :=
 if (fh t.ae dir s).2 != 0 then (t,0,(fh t.ae dir s).2) else if decide ((0:Int)<(bl t.ae (fh t.ae dir s).1).bc.length) then (t,0,74) else
 (⟨kM (dr t.ae dir s) (bl t.ae (fh t.ae dir s).1),t.next,t.ak⟩,(fh t.ae dir s).1,0)
def Jp{ae:List Node}(h:o4 ae){dir:Int}{s:Bytes}{d:Node}(hf:find ae dir=some d):dr ae dir s≠[]:=by
 intro hc
 have:({ d with bc:=jI d.bc s }:Node)∈dr ae dir s:=by
  unfold dr;rw[hf];exact(vF h).2 (.inl rfl)
 rw[hc] at this;cases this
def aqe(t:Tree)(dir:Int)(s:Bytes)(hz:Sz 1000 t)(hr:rS t)(hs:s.length<=100000)(ha:pk s) :
  aq bW 150 [br t,aH dir,.str s] []=some (.tuple [br (unW t dir s).1,aH (unW t dir s).2.1,aH (unW t dir s).2.2],[]):=by
 obtain⟨ae,next,ak⟩:=t
 have ht:Small ⟨ae,next,ak⟩:=hz.small aI
 have hn:ae.length<=100000:=ht.ae;have hg:=fun b c M=>Fc ae next ak (fh ae dir s).1 hr.mB hn 2 (b::c :: cv [ba ae,aH next,aH ak]::M) rfl
 have hl:=fun M=>Y9 ae next ak dir s ht hr hs ha M
 refine aB ?_;simp only[acq,QN,br,aN,hl,EN,seval];refine bC (fun hb=>?_) (fun hb=>?_)
 ·simp only[QN,hb,EN,seval];clear hg hl;simp_all only[unW,br,aN,qB,↓reduceIte,reduceCtorEq,az]
 obtain⟨d,e,d1,d2,d3,d4,d5⟩:=look_ok hb;have dm:=cD d1;have hde:d.bc.length<=1000:=hz.bc d dm.1;have hsz:Sz 1001 ⟨dr ae dir s,next,ak⟩:=hz.left dir s next ak
 have hv:=fun x y M=>afB ae next ak dir s hr.mB hn d1 (hr.bc d dm.1) aI 2 (x::y :: cv [ba ae,aH next,aH ak]::M) rfl
 have hu:=fun a b c d' e' u x y M=>amr (dr ae dir s) next ak a b c d' e' u (hr.left dir s next ak).mB (Jp hr.mB d1) (hsz.small aI).ae 2 (x::y :: cv [ba (dr ae dir s),aH next,aH ak]::M) rfl
 simp only[QN,hb,hg,bL,aM,EN,seval];refine bC (fun hb1=>?_) (fun hb1=>?_)
 ·simp only[QN,hb1,EN,seval];clear hg hl hv hu;simp_all only[unW,br,aN,qB,↓reduceIte,reduceCtorEq,az]
 ·simp only[QN,hb1,hv,hu,EN,seval];clear hg hl hv hu d5;simp_all only[unW,br,aN,qB,↓reduceIte,reduceCtorEq,az]
def Ly(x:Int):List Int->Nat->Int
 | [],_ => -1
 |n::r,i=>if x==n then i else Ly x r (i+1)
def Nc(x:Int):∀(l:List Int)(i:Nat),decide ((0:Int)<=Ly x l i)=l.contains x
 | [],i=>by simp[Ly]
 |n::r,i=>by
  unfold Ly
  by_cases h:x=n
  ·simp[h]
  ·simp only[eu,h,aD,Nc x r (i+1),List.contains_cons];simp[h]
def aas{l0:List Int}{x:Int}(hl:l0.length<=100000){k:List K}{R:Int->Option (ag×aC)}
  (hx:∀e,kr (aq bW) [.tmp 4] 0 k ⟨.exit 0,e,[]⟩=R (-1)) (hr:∀(i:Nat),kr (aq bW) [.tmp 4] 0 k ⟨.ret,[(4,aH i)],[]⟩=R i) :
  ∀(l pre:List Int),l0=pre++l->eX (aq bW) [.tmp 4] 0 k (.loop [0,1,7,8] Z3) [(0,gU (l0.map mZ)),(1,aH x),(7,aH l0.length),(8,aH pre.length)] []=R (Ly x l pre.length):=by
 intro l;induction l with
 |nil =>
  intro pre h;rw[bG];simp only[Ku,jM h,EN,seval];exact hx _
 |cons n r ih =>
  intro pre h;rw[bG];have dD:pre.length+1<=100000:=by rw[h] at hl; simp at hl; omega
  have hw:=zy pre n;have hi:=ih (pre++[n]) (by rw[h]; simp)
  simp only[aA,au,aw,aJ] at hi;rw[Ly];simp only[Ku,iM h,gQ h,EN,seval];refine bC (fun hb=>?_) (fun hb=>?_)
  ·simp only[Ku,hb,EN,seval];exact hr _
  ·simp only[Ku,hb,hw,af,EN,seval];exact hi
def arw(l:List Int)(x:Int)(hl:l.length<=100000):aq bW 252 [gU (l.map mZ),aH x] []=some (aH (Ly x l 0),[]):=by
 refine aB ?_;simp only[adl,Ku,EN,seval];exact aas (R:=fun z=>some (aH z,[])) hl (fun e=>by simp only[Ku,EN,seval]) (fun i=>by simp only[Ku,EN,seval]) l [] rfl
def asW l x hl:=cP (arw l x hl)
def aqU(l:List Int)(x:Int)(hl:l.length<=100000):aq bW 201 [gU (l.map mZ),aH x] []=some (.bool (l.contains x),[]):=by
 refine aB ?_;simp only[acR,aoG,asW,hl,Nc,EN,seval]
def ams l x hl:=cP (aqU l x hl)
def u9(ae:List Node)(at' own ar:Int)(n:Node):Bool :=
 n.kind==2&&((uH ae n.ar).contains ar&&(decide ((12:Int)<nz (nz (nz (at'+(uH ae n.ar).length)-1)-own))||(nz (nz (nz (at'+(uH ae n.ar).length)-1)-own)==12&&decide ((0:Int)<n.bc.length))))
abbrev td(ae:List Node)(next ak at' own ar:Int):aC:=[.cells [.ptr 4 0],.cells [.int .i64 at'],.cells [.int .i64 own],.cells [.int .i64 ar],.cells [ba ae,.int .i64 next,.int .i64 ak]]
def ary(ae:List Node)(next ak at' own ar:Int)(n:Node)(h:o4 ae)(hn:ae.length<=99999) :
  aq bW 254 [bL n,cu 0,cu 1,cu 2,cu 3] (td ae next ak at' own ar)=some (.bool (u9 ae at' own ar n),td ae next ak at' own ar):=by
 refine aB ?_;have hk:=fun a b c d M=>afD ae next ak n.ar h aI 4 (a::b::c::d :: cv [ba ae,aH next,aH ak]::M) rfl
 have hl:=uB ae n.ar;have hc:=fun M=>ams (uH ae n.ar) ar aI M
 simp only[adn,aix,td,bL,aM,EN,seval]
 repeat' ((first|apply bC|apply bU|apply dK)<;>intro hb<;>simp only[hb,EN,aix,hk,hc,seval])
 all_goals (clear hk hc; simp_all only[u9,nz,bne,gN,Bool.not_eq_false',qB,↓reduceIte,reduceCtorEq,az]; done)
end
def adN(ae:List Node)(next ak at' own ar:Int):j5 (td ae next ak at' own ar) (iw [0,1,2,3,4]) [0,1,2,3,4]=some (td ae next ak at' own ar):=rfl
def anz(ae:List Node)(next ak at' own ar:Int):j5 [cv [ba ae,aH next,aH ak],cv [cu 0],cv [aH ar],cv [aH at'],cv [aH own]] (iw [1,3,4,2,0]) [1,3,4,2,0]=some (td ae next ak at' own ar):=rfl
section
attribute [local irreducible] eX fM lC gK dX kr aq aU cr bJ
def asY(ae:List Node)(next ak at' own ar:Int)(n:Node)(h:o4 ae)(hn:ae.length<=99999) :
  aU (aq bW) 254 [.agg (aM n),cu 0,cu 1,cu 2,cu 3] (td ae next ak at' own ar)=some (.bool (u9 ae at' own ar n),td ae next ak at' own ar) :=
 ly (ids:=[0,1,2,3,4]) rfl rfl (adN ..) rfl rfl (ary ae next ak at' own ar n h hn) rfl rfl rfl rfl rfl
def arN(ae:List Node)(next ak at' own ar:Int)(h:o4 ae)(hn:ae.length<=99999):aq bW 287 [ba ae,.func 254 [cu 0,cu 1,cu 2,cu 3]] (td ae next ak at' own ar) =
  some (aH (qD (u9 ae at' own ar) ae 0),td ae next ak at' own ar) :=
 DL (N:=100000) (sz:=6) (e:=aM) fy rfl aI (fun _=>rfl) (fun _=>rfl) rfl rfl fun x _ => .inl ⟨_,_,rfl,asY ae next ak at' own ar x h hn⟩
def as7(ae:List Node)(next ak at' own ar:Int)(h:o4 ae)(hn:ae.length<=99999):aU (aq bW) 287 [ba ae,.func 254 [cu 0,cu 1,cu 2,cu 3]] (td ae next ak at' own ar) =
  some (aH (qD (u9 ae at' own ar) ae 0),td ae next ak at' own ar) :=
 ly (ids:=[0,1,2,3,4]) rfl rfl (adN ..) rfl rfl (arN ae next ak at' own ar h hn) rfl rfl rfl rfl rfl
def arx(ae:List Node)(next ak at' own ar:Int)(h:o4 ae)(hn:ae.length<=99999):aq bW 253 [ba ae,.func 254 [cu 0,cu 1,cu 2,cu 3]] (td ae next ak at' own ar) =
  some (.bool (ae.any (u9 ae at' own ar)),td ae next ak at' own ar):=by
 refine aB ?_;have hk:=as7 ae next ak at' own ar h hn
 simp only[td] at hk;simp only[adm,aoY,td,hk,xj,EN,seval]
def asX(ae:List Node)(next ak at' own ar:Int)(h:o4 ae)(hn:ae.length<=99999) :
  aU (aq bW) 253 [ba ae,.func 254 [cu 1,cu 3,cu 4,cu 2]] [cv [ba ae,aH next,aH ak],cv [cu 0],cv [aH ar],cv [aH at'],cv [aH own]] =
  some (.bool (ae.any (u9 ae at' own ar)),[cv [ba ae,aH next,aH ak],cv [cu 0],cv [aH ar],cv [aH at'],cv [aH own]]) :=
 ly (ids:=[1,3,4,2,0]) rfl rfl (anz ..) rfl rfl (arx ae next ak at' own ar h hn) rfl rfl rfl rfl rfl
def Iw(ae:List Node)(ar at':Int):Bool:=ae.any (u9 ae at' (sr ae ar) ar)
def aqW(ae:List Node)(next ak ar at':Int)(h:o4 ae)(hn:ae.length<=99999):aq bW 203 [cu 0,aH ar,aH at'] [cv [ba ae,aH next,aH ak]] =
  some (.bool (Iw ae ar at'),[cv [ba ae,aH next,aH ak]]):=by
 refine aB ?_;have hk:∀M,aU (aq bW) 239 [cu 0,aH ar] (cv [ba ae,aH next,aH ak]::M)=some (aH (sr ae ar),cv [ba ae,aH next,aH ak]::M):=fun M=>amB ae next ak ar h aI 0 (cv [ba ae,aH next,aH ak]::M) rfl
 have hd:=asX ae next ak at' (sr ae ar) ar h hn
 unfold Iw;simp only[acT,aoH,hk,hd,EN,seval]
def asH ae next ak ar at' h hn p M hM:=cM (p:=p) (M:=M) hM (aqW ae next ak ar at' h hn)
def B6(l:List gM)(s:Bytes):gv (jI l s) s=none:=by
 unfold gv jI;rw[fu];intro e he;have:=(ei.1 he).2;simpa using this
def vz{l:List gM}{s r:Bytes}(h:gv l r=none):gv (jI l s) r=none:=by
 unfold gv jI at *;rw[fu] at *;exact fun e he=>h e (ei.1 he).1
def kU{ae:List Node}(h:o4 ae){dir:Int}{s:Bytes}{d:Node}(hf:find ae dir=some d)(i:Int):find (dr ae dir s) i=if i=dir then some { d with bc:=jI d.bc s } else find ae i:=by
 have hd:=(cD hf).2;unfold dr;rw[hf];simp only[bm];rw[gr h,show({ d with bc:=jI d.bc s }:Node).ar=dir from hd]
def HK{ae:List Node}(h:o4 ae)(n:Node):o4 (kM ae n):=by
 unfold kM;split
 ·exact rM h _
 ·exact lQ h _
def E6{ae:List Node}(h:o4 ae)(n:Node){i:Int}(hi:i≠n.ar):find (kM ae n) i=find ae i:=by
 unfold kM;split
 ·rw[mu h,aL hi]
 ·rw[gr h,aL hi]
def Sz.kM{b:Nat}{t:Tree}(h:Sz b t){n:Node}(h1:n.bc.length<=b+1)(h2:n.data.length<=100000)(next ak:Int):Sz (b+1) ⟨kM t.ae n,next,ak⟩:=by
 unfold Go.Proofs.YteoamaffclmdbaaGreatDoor.kM;split
 ·exact(h.uY _ next ak).up aI
 ·exact h.with (n:={ n with eo:=nz (n.eo-1) }) h1 h2 next ak
def yD(t:Tree)(dir:Int)(s:Bytes)(to:Int)(nm:Bytes)(ar:Int)(x y:Node)(there:Bool):Tree :=
 im ⟨if x.kind==2 then eT (if there then kM (dr (dr t.ae dir s) to nm) y else dr t.ae dir s) { x with up:=to }
  else if there then kM (dr (dr t.ae dir s) to nm) y else dr t.ae dir s,t.next,t.ak⟩ to nm ar
set_option maxHeartbeats 1000000 in
def ahU(ae:List Node)(next ak dir:Int)(s:Bytes)(to:Int)(nm:Bytes)(ar:Int)(x y:Node)(there:Bool)(v5 v140:ag)(B0 Bd:cJ)(yr:List ag)(hyr:there=true->aH y.ar::yr=aM y)(hz:Sz 1000 ⟨ae,next,ak⟩)(hr:rS ⟨ae,next,ak⟩){dd dt:Node}(hdir:find ae dir=some dd)(hto:find ae to=some dt)
  (hth:there=false->gv dt.bc nm=none) (hx:(x.kind==2)=true->x.ar≠to) (hy:there=true->y.ar≠to) (hx1:x.bc.length<=1000) (hx2:x.data.length<=100000) (hy1:y.bc.length<=1000) (hy2:y.data.length<=100000) :
  eX (aq bW) [.dH 10 3,.tmp 11,.tmp 12] 0 [] NL [(1,aH dir),(2,.str s),(3,aH to),(4,.str nm),(5,v5),(10,cu 1),(13,aH ar),(15,cu 2),(17,cu 4),(19,cu 5),(21,.bool there),(140,v140)]
   [B0,.cells zT,cv [ba ae,aH next,aH ak],Bd,cv (aM x),cv (aH y.ar::yr)]=some (.tuple [br (yD ⟨ae,next,ak⟩ dir s to nm ar x y there),aH y.ar,aH 0],[]):=by
 have hasc:o4 ae:=hr.mB;have n1:=hz.left dir s next ak
 have a1:o4 (dr ae dir s):=(hr.left dir s next ak).mB
 have e1:ri dd.bc:=hr.bc dd (cD hdir).1;have e2:ri dt.bc:=hr.bc dt (cD hto).1;have l1:dd.bc.length<=1000:=hz.bc dd (cD hdir).1;have l2:dt.bc.length<=1000:=hz.bc dt (cD hto).1
 obtain⟨d1,f1,g1,m1,q1⟩:∃d1,find (dr ae dir s) to=some d1/\ri d1.bc/\d1.bc.length<=1000/\(gv dt.bc nm=none->gv d1.bc nm=none):=by
  rw[kU hasc hdir];split
  ·rename_i he;subst he;rw[hdir] at hto; cases hto;exact⟨_,rfl,AR e1 s,aZ (AU _ _) l1,vz⟩
  ·exact⟨dt,hto,e2,l2,id⟩
 have hv1:=fun a b M=>afB ae next ak dir s hasc (hz.small aI).ae hdir e1 aI 2 (a::b :: cv [ba ae,aH next,aH ak]::M) rfl
 have fin:∀(n3:List Node)(d3:Node),o4 n3->Sz 1003 ⟨n3,next,ak⟩->find n3 to=some d3->ri d3.bc->d3.bc.length<=1000->gv d3.bc nm=none ->
   (∀a b M,aU (aq bW) 183 [cu 2,aH to,.str nm,aH ar] (a::b :: cv [ba n3,aH next,aH ak]::M)=some (.tuple [],a::b :: cv (aN (im ⟨n3,next,ak⟩ to nm ar))::M)) /\
   ((x.kind==2)=true->(∀a b M,aU (aq bW) 182 [cu 2,.agg [aH x.ar,aH x.kind,aH x.eo,cV x.data,jb x.bc,aH to]] (a::b :: cv [ba n3,aH next,aH ak]::M) =
     some (.tuple [],a::b :: cv [ba (eT n3 { x with up:=to }),aH next,aH ak]::M)) /\
    ∀a b M,aU (aq bW) 183 [cu 2,aH to,.str nm,aH ar] (a::b :: cv [ba (eT n3 { x with up:=to }),aH next,aH ak]::M)=some (.tuple [],a::b :: cv (aN (im ⟨eT n3 { x with up:=to },next,ak⟩ to nm ar))::M)):=by
  intro n3 d3 b1 b2 b3 b4 b5 b6;have h0:n3≠[]:=by rintro rfl; simp[find] at b3
  refine⟨fun a b M=>Za n3 next ak to nm ar b1 (b2.small aI).ae b3 b4 aI b6 2 (a::b :: cv [ba n3,aH next,aH ak]::M) rfl,fun hk=>⟨fun a b M=>LD n3 next ak x.ar x.kind x.eo x.data x.bc to b1 h0 (b2.small aI).ae 2 (a::b :: cv [ba n3,aH next,aH ak]::M) rfl,fun a b M=>?_⟩⟩
  have b7:Sz 1004 ⟨eT n3 { x with up:=to },next,ak⟩:=b2.with (n:={ x with up:=to }) (aZ hx1 aI) hx2 next ak
  have b8:find (eT n3 { x with up:=to }) to=some d3:=by rw[gr b1,aL (fun he=>hx hk he.symm)]; exact b3
  exact Za (eT n3 { x with up:=to }) next ak to nm ar (lQ b1 _) (b7.small aI).ae b8 b4 aI b6 2 (a::b :: cv [ba (eT n3 { x with up:=to }),aH next,aH ak]::M) rfl
 cases hth':there with
 |false =>
  obtain⟨w1,w2⟩:=fin (dr ae dir s) d1 a1 (n1.up aI) f1 g1 m1 (q1 (hth hth'));cases hkx:(x.kind==2) with
  |false =>
   simp only[yL,hv1,zT,aM,hkx,w1,aN,EN,seval];simp only[yD,hkx,br,aN,qB,↓reduceIte,reduceCtorEq,az]
  |true =>
   obtain⟨w3,w4⟩:=w2 hkx;simp only[yL,hv1,zT,aM,hkx,w3,w4,aN,EN,seval];simp only[yD,hkx,br,aN,qB,↓reduceIte,reduceCtorEq,az]
 |true =>
  have hyr':yr=[aH y.kind,aH y.eo,cV y.data,jb y.bc,aH y.up]:=by have:=hyr hth'; simpa[aM] using this
  subst hyr';have a2:o4 (dr (dr ae dir s) to nm):=(rS.left (t:=⟨dr ae dir s,next,ak⟩) (hr.left dir s next ak) to nm next ak).mB
  have n2:=n1.left to nm next ak
  have f2:find (dr (dr ae dir s) to nm) to=some { d1 with bc:=jI d1.bc nm }:=by rw[kU a1 f1,aX rfl]
  have hv2:=fun a b M=>afB (dr ae dir s) next ak to nm a1 (n1.small aI).ae f1 g1 aI 2 (a::b :: cv [ba (dr ae dir s),aH next,aH ak]::M) rfl
  have hu:=fun a b M=>amr (dr (dr ae dir s) to nm) next ak y.ar y.kind y.eo y.data y.bc y.up a2 (Jp a1 f1) (n2.small aI).ae 2 (a::b :: cv [ba (dr (dr ae dir s) to nm),aH next,aH ak]::M) rfl
  have f3:find (kM (dr (dr ae dir s) to nm) y) to=some { d1 with bc:=jI d1.bc nm }:=by rw[E6 a2 y (fun he=>hy hth' he.symm)]; exact f2
  obtain⟨w1,w2⟩:=fin (kM (dr (dr ae dir s) to nm) y) { d1 with bc:=jI d1.bc nm } (HK a2 y) (n2.kM (aZ hy1 aI) hy2 next ak) f3 (AR g1 nm) (aZ (AU _ _) m1) (B6 _ _)
  cases hkx:(x.kind==2) with
  |false =>
   simp only[yL,hv1,hv2,hu,zT,aM,hkx,w1,aN,EN,seval];simp only[yD,hkx,br,aN,qB,↓reduceIte,reduceCtorEq,az]
  |true =>
   obtain⟨w3,w4⟩:=w2 hkx;simp only[yL,hv1,hv2,hu,zT,aM,hkx,w3,w4,aN,EN,seval];simp only[yD,hkx,br,aN,qB,↓reduceIte,reduceCtorEq,az]
def mF(ae:List Node)(l:List gM)(s:Bytes):Node:=match gv l s with
 |none=>Node.zero
 |some e=>bl ae e.ar
def D9(t:Tree)(dir to:Int)(bc:List gM)(there:Bool)(kind ar:Int):Bool :=
 ((!there&&to != dir)&&decide ((64:Int)<=bc.length))||(decide ((12:Int)<(uH t.ae to).length)||((kind==2&&Iw t.ae ar (uH t.ae to).length)||decide ((1099511627776:Int)<=t.ak)))
def Nz(t:Tree)(dir:Int)(s:Bytes)(to:Int)(nm:Bytes):Tree×Int×Int :=
 if (fh t.ae dir s).2 != 0 then (t,0,(fh t.ae dir s).2) else
 if (gW t.ae to).2 != 0 then (t,0,(gW t.ae to).2) else
 if !fY nm then (t,0,60) else
 if (mF t.ae (gW t.ae to).1.bc nm).ar==(fh t.ae dir s).1 then (t,0,0) else
 if (bl t.ae (fh t.ae dir s).1).kind==2&&(uH t.ae to).contains (fh t.ae dir s).1 then (t,0,75) else
 if (gv (gW t.ae to).1.bc nm).isSome&&Ae (bl t.ae (fh t.ae dir s).1) (mF t.ae (gW t.ae to).1.bc nm) != 0 then (t,0,Ae (bl t.ae (fh t.ae dir s).1) (mF t.ae (gW t.ae to).1.bc nm)) else
 if D9 t dir to (gW t.ae to).1.bc (gv (gW t.ae to).1.bc nm).isSome (bl t.ae (fh t.ae dir s).1).kind (fh t.ae dir s).1 then (t,0,76) else
 (yD t dir s to nm (fh t.ae dir s).1 (bl t.ae (fh t.ae dir s).1) (mF t.ae (gW t.ae to).1.bc nm) (gv (gW t.ae to).1.bc nm).isSome,(mF t.ae (gW t.ae to).1.bc nm).ar,0)
def amt(a b c:Int)(d:Bytes)(e:List gM)(u:Int)(a' b' c':Int)(d':Bytes)(e':List gM)(u':Int)(M:aC):aU (aq bW) 202 [.agg [aH a,aH b,aH c,cV d,jb e,aH u],.agg [aH a',aH b',aH c',cV d',jb e',aH u']] M=some (aH (Ae ⟨a,b,c,d,e,u⟩ ⟨a',b',c',d',e',u'⟩),M) :=
 cO (aqV ⟨a,b,c,d,e,u⟩ ⟨a',b',c',d',e',u'⟩) M
def XC(ae:List Node)(to:Int):(uH ae to).contains to=true:=by
 have key:∀(m:Nat)(ar:Int)(out:List Int),out.contains to=true->(uA ae m ar out).contains to=true:=by
  intro m;induction m with
  |zero=>intro ar out h; exact h
  |succ m ih =>
   intro ar out h;rw[uA];split
   ·split
    ·exact h
    ·exact ih _ _ (by simp at h ⊢; exact .inl h)
   ·exact h
 exact key _ _ _ dv
def V7{ae:List Node}{i:Int}(h:(bl ae i).kind=2):(bl ae i).ar=i:=by
 cases hf:find ae i with
 |none=>simp[bl,hf,Node.zero] at h
 |some n=>simp[bl,hf]; exact(cD hf).2
set_option maxHeartbeats 4000000 in
def aqg(t:Tree)(dir:Int)(s:Bytes)(to:Int)(nm:Bytes)(hz:Sz 1000 t)(hr:rS t)(hs:s.length<=100000)(ha:pk s)(hs':nm.length<=100000)(ha':pk nm)
  (XL:∀e,gv (gW t.ae to).1.bc nm=some e->(bl t.ae e.ar).ar≠to) :
  aq bW 152 [br t,aH dir,.str s,aH to,.str nm] []=some (.tuple [br (Nz t dir s to nm).1,aH (Nz t dir s to nm).2.1,aH (Nz t dir s to nm).2.2],[]):=by
 obtain⟨Q,hQ⟩:∃Q,NL=Q:=⟨_,rfl⟩;obtain⟨ae,next,ak⟩:=t
 have ht:Small ⟨ae,next,ak⟩:=hz.small aI
 have hn:ae.length<=100000:=ht.ae;have hasc:o4 ae:=hr.mB;have hl:=fun M=>Y9 ae next ak dir s ht hr hs ha M
 have hg:=fun i b c M=>Fc ae next ak i hasc hn 2 (b::c :: cv [ba ae,aH next,aH ak]::M) rfl
 have hd:=fun b c M=>Zb ae next ak to hasc hn 2 (b::c :: cv [ba ae,aH next,aH ak]::M) rfl
 have hup:=fun b c M=>afD ae next ak to hasc hn 2 (b::c :: cv [ba ae,aH next,aH ak]::M) rfl
 have hul:=uB ae to;have hn1:ae.length<=1000:=hz.ae;have hc:=fun x M=>ams (uH ae to) x aI M
 have hdp:=fun i a b c M=>asH ae next ak i a hasc aI 2 (b::c :: cv [ba ae,aH next,aH ak]::M) rfl
 have hE:ri (gW ae to).1.bc:=hr.dir to;have hde:(gW ae to).1.bc.length<=100000:=tF ht to;have hen:=fun a b c d u M=>SX a b c d (gW ae to).1.bc u nm _ (sj hE nm) hde M
 refine aB ?_;simp only[acs,yL,hQ,br,aN,hl,EN,seval];refine bC (fun hb0=>?_) (fun hb0=>?_)
 ·simp only[yL,hQ,hb0,EN,seval];clear hl hg hd hup hc hdp hen XL;simp_all only[Nz,br,aN,qB,↓reduceIte,reduceCtorEq,az]
 simp only[yL,hQ,hb0,hd,bL,aM,EN,seval];refine bC (fun hb1=>?_) (fun hb1=>?_)
 ·simp only[yL,hQ,hb1,EN,seval];clear hl hg hd hup hc hdp hen XL;simp_all only[Nz,br,aN,qB,↓reduceIte,reduceCtorEq,az]
 simp only[yL,hQ,hb1,afC,hs',ha',EN,seval];refine bC (fun hb2=>?_) (fun hb2=>?_)
 ·simp only[yL,hQ,hb2,EN,seval];clear hl hg hd hup hc hdp hen XL;simp_all only[Nz,br,aN,qB,↓reduceIte,reduceCtorEq,az]
 simp only[yL,hQ,hb2,hg,hen,bL,aM,EN,seval];obtain⟨dd,de,e1,e2,e3,e4,e5⟩:=look_ok hb0;obtain⟨dt,g1,g2,g3⟩:=yY (show(gW ae to).2=0 by simpa using hb1)
 have hx0:=hz.find (fh ae dir s).1;have tail:=fun there y yr hyr hth hy hy1 hy2 v5 v140 B0 Bd hxx=>ahU ae next ak dir s to nm (fh ae dir s).1 (bl ae (fh ae dir s).1) y there v5 v140 B0 Bd yr hyr hz hr e1 g1 hth hxx hy hx0.1 hx0.2 hy1 hy2
 have hxne:((bl ae (fh ae dir s).1).kind==2)=true->(uH ae to).contains (fh ae dir s).1=false->(bl ae (fh ae dir s).1).ar≠to:=fun h1 h2 h3=>by
  rw[V7 (by simpa using h1)] at h3
  rw[h3,XC] at h2; cases h2
 have hdte:dt.bc=(gW ae to).1.bc:=by rw[g3]
 rcases w8 hE nm with ⟨h1,o,h2,h3,h4⟩|⟨h1,h2⟩
 ·have hnu:mF ae (gW ae to).1.bc nm=bl ae o.ar:=by simp[mF,h3]
  have hy0:=hz.find o.ar;have tl:=tail true (bl ae o.ar) _ (fun _=>rfl) dv (fun _=>XL o h3) hy0.1 hy0.2
  simp only[aM,zT] at tl;simp only[yL,hQ,h1,h2,hg,bL,aM,fU,EN,seval]
  repeat' ((first|apply bC|apply bU|apply dK)<;>intro hb<;>simp only[hb,EN,yL,hQ,hup,hc,hdp,amt,seval])
  all_goals try (clear hl hg hd hup hc hdp hen XL tail tl hxne e5 g3; simp_all only[Nz,D9,br,aN,bX,qB,↓reduceIte,reduceCtorEq,az]; done)
  all_goals
   subst hQ;refine(tl _ _ _ _ (fun hk=>by first|exact hxne hk (by assumption)|(exfalso; simp_all; done))).trans ?_
   have hmv:Nz ⟨ae,next,ak⟩ dir s to nm=(yD ⟨ae,next,ak⟩ dir s to nm (fh ae dir s).1 (bl ae (fh ae dir s).1) (bl ae o.ar) true,(bl ae o.ar).ar,0):=by
    clear hl hg hd hup hc hdp hen XL tail tl hxne e5 g3;simp_all only[Nz,D9,bX,qB,↓reduceIte,reduceCtorEq,az]
   rw[hmv];rfl
 ·have hnu:mF ae (gW ae to).1.bc nm=Node.zero:=by simp[mF,h2]
  have tl:=tail false Node.zero [aH 0,aH 0,.slice .c0 [],.slice .c0 [],aH 0] dv (fun _=>by rw[hdte]; exact h2) dv (by simp[Node.zero]) (by simp[Node.zero])
  have hz0:Node.zero.ar=0:=rfl;simp only[aM,zT,hz0] at tl;simp only[yL,hQ,h1,EN,seval]
  repeat' ((first|apply bC|apply bU|apply dK)<;>intro hb<;>simp only[hb,EN,yL,hQ,hup,hc,hdp,amt,seval])
  all_goals try (clear hl hg hd hup hc hdp hen XL tail tl hxne e5 g3; simp_all only[Nz,D9,br,aN,dp,qB,↓reduceIte,reduceCtorEq,az]; done)
  all_goals
   subst hQ;refine(tl _ _ _ _ (fun hk=>by first|exact hxne hk (by assumption)|(exfalso; simp_all; done))).trans ?_
   have hmv:Nz ⟨ae,next,ak⟩ dir s to nm=(yD ⟨ae,next,ak⟩ dir s to nm (fh ae dir s).1 (bl ae (fh ae dir s).1) Node.zero false,0,0):=by
    clear hl hg hd hup hc hdp hen XL tail tl hxne e5 g3;simp_all only[Nz,D9,dp,qB,↓reduceIte,reduceCtorEq,az]
   rw[hmv];rfl
end
def rp(l:List gM)(i:Int):Nat:=l.countP fun e=>e.ar==i
def uM(ns:List Node)(i:Int):Nat:=(ns.map fun n=>rp n.bc i).sum
def zL(i:Int):rp [] i=0:=rfl
def zK(a b:List gM)(i:Int):rp (a++b) i=rp a i+rp b i:=List.countP_append
def Fz(e:gM)(l:List gM)(i:Int):rp (e::l) i=rp l i+(if e.ar=i then 1 else 0):=by simp[rp,lZ]
def x5(a b:List Node)(i:Int):uM (a++b) i=uM a i+uM b i:=by simp[uM]
def vu(n:Node)(l:List Node)(i:Int):uM (n::l) i=rp n.bc i+uM l i:=by simp[uM]
def vv{ns:List Node}(h:o4 ns)(n:Node)(i:Int):uM (eT ns n) i+rp (bl ns n.ar).bc i=uM ns i+rp n.bc i:=by
 rcases tj h n.ar with ⟨_,o,h2,h3,h4⟩|⟨_,h2⟩
 ·rw[tP h h2 h4];obtain⟨s1,s2⟩:=yi (n:=n) h2
  have e1:uM ns i=uM (ns.take (mq ns n.ar)) i+(rp o.bc i+uM (ns.drop (mq ns n.ar+1)) i):=by
   rw[<-vu,<-x5,<-s1]
  rw[s2,x5,vu,e1];simp only[bl,h3,bm];omega
 ·rw[yn h h2]
  have e1:uM ns i=uM (ns.take (mq ns n.ar)) i+uM (ns.drop (mq ns n.ar)) i:=by
   rw[<-x5,cC]
  rw[x5,vu,e1];simp only[bl,h2,iI,Node.zero,zL];omega
def G2{ns:List Node}(h:o4 ns)(k i:Int):uM (fR ns k) i+rp (bl ns k).bc i=uM ns i:=by
 rcases tj h k with ⟨_,o,h2,h3,h4⟩|⟨_,h2⟩
 ·rw[AB h h2 h4];obtain⟨s1,_⟩:=yi (n:=o) h2
  have e1:uM ns i=uM (ns.take (mq ns k)) i+(rp o.bc i+uM (ns.drop (mq ns k+1)) i):=by
   rw[<-vu,<-x5,<-s1]
  rw[x5,e1];simp only[bl,h3,bm];omega
 ·rw[yJ h2];simp only[bl,h2,iI,Node.zero,zL];omega
def Ir{l:List gM}{i:Int}:0<rp l i↔∃e,e∈l/\e.ar=i:=by simp[rp,List.countP_pos_iff]
def wa{i:Int}:∀ {ns:List Node},0<uM ns i↔∃n e,n∈ns/\e∈n.bc/\e.ar=i
 | []=>by simp[uM]
 |n::ns=>by
  rw[vu];constructor
  ·intro h;rcases gY (rp n.bc i) with h0|h0
   ·obtain⟨m,e,h1,h2,h3⟩:=(wa (i:=i) (ns:=ns)).1 aI;exact⟨m,e,bw _ h1,h2,h3⟩
   ·obtain⟨e,h1,h2⟩:=Ir.1 h0;exact⟨n,e,bE,h1,h2⟩
  ·rintro⟨m,e,h1,h2,h3⟩;rcases bI.1 h1 with rfl|h1
   ·have:=Ir.2 ⟨e,h2,h3⟩; omega
   ·have:=(wa (i:=i) (ns:=ns)).2 ⟨m,e,h1,h2,h3⟩; omega
def V3{l:List gM}(h:ri l){e:gM}(hf:gv l e.name=none){x:gM}:x∈zb l e↔x=e\/x∈l:=by
 rw[vD h hf];have:x∈l↔x∈l.take (mD l e.name)\/x∈l.drop (mD l e.name):=by rw[<-bo,cC]
 rw[this,bo,bI];constructor
 ·rintro(h|h|h)
  ·exact .inr (.inl h)
  ·exact .inl h
  ·exact .inr (.inr h)
 ·rintro(h|h|h)
  ·exact .inr (.inl h)
  ·exact .inl h
  ·exact .inr (.inr h)
def OV{l:List gM}(h:ri l){e:gM}(hf:gv l e.name=none)(i:Int):rp (zb l e) i=rp l i+(if e.ar=i then 1 else 0):=by
 rw[vD h hf,zK,Fz];have:rp l i=rp (l.take (mD l e.name)) i+rp (l.drop (mD l e.name)) i:=by rw[<-zK,cC]
 omega
def PJ{l:List gM}{s:Bytes}{x:gM}:x∈jI l s↔x∈l/\x.name≠s:=by simp[jI,ei]
def Mg{l:List gM}{b:Nat}{o:gM}(ho:l[b]?=some o):l=l.take b++o::l.drop (b+1):=by
 have cL:=(aj.1 ho).1;rw[ai cL] at ho; injection ho with ho
 conv=>lhs; rw[<-cC b l]
 rw[du cL,ho]
def K2{l:List gM}(h:ri l){s:Bytes}{o:gM}(hf:gv l s=some o)(i:Int):rp (jI l s) i+(if o.ar=i then 1 else 0)=rp l i:=by
 rcases w8 h s with ⟨_,o',h2,h3,h4⟩|⟨_,h2⟩
 ·rw[hf] at h3; cases h3;rw[FC h h2 h4]
  have e1:rp l i=rp (l.take (mD l s)) i+(rp (l.drop (mD l s+1)) i+(if o.ar=i then 1 else 0)):=by
   rw[<-Fz,<-zK,<-Mg h2]
  rw[zK,e1];omega
 ·rw[hf] at h2; cases h2
def yc{ns:List Node}(h:o4 ns){n o:Node}(hf:find ns n.ar=some o):(eT ns n).length=ns.length:=by
 rcases tj h n.ar with ⟨_,o,h2,h3,h4⟩|⟨_,h2⟩
 ·rw[tP h h2 h4,cG]
 ·rw[hf] at h2; cases h2
def Nm(s:Bytes):Prop:=fY s=true
structure dU(t:Tree)(dG:Int->Nat)(x:Int):Prop where
 lP:rS t
 root:∃r,find t.ae 1=some r/\r.kind=2/\r.up=1
 num:∀i n,find t.ae i=some n->1<=i/\i<t.next
 kind:∀i n,find t.ae i=some n->n.kind=1\/n.kind=2
 file:∀i n,find t.ae i=some n->n.kind=1->n.bc=[]/\n.up=0/\n.data.length<=4096
 dir:∀i n,find t.ae i=some n->n.kind=2->n.data=[]
 CG:∀i n e,find t.ae i=some n->e∈n.bc->1<=e.ak/\e.ak<t.ak/\e.ar≠1/\Nm e.name/\∃m,find t.ae e.ar=some m/\(m.kind=2->m.up=i)
 yo:∀i n,find t.ae i=some n->(n.bc.Pairwise fun a b=>a.ak≠b.ak)/\n.bc.length<=64
 eo:∀i n,find t.ae i=some n->n.eo=(uM t.ae i:Int)+(if i=x then 1 else 0)
 one:∀i n,find t.ae i=some n->n.kind=2->i≠1->n.eo=1
 CF:dG 1=0
 qI:∀i n,find t.ae i=some n->n.kind=2->i≠1->dG i=dG n.up+1/\∃p,find t.ae n.up=some p/\p.kind=2
 deep:∀i n,find t.ae i=some n->n.kind=2->dG i<=12/\(dG i=12->n.bc=[])
 ae:t.ae.length<=200
 next:t.next<=1099511627776
 ak:1<=t.ak/\t.ak<=1099511627776
def dU.ar{t:Tree}{dG:Int->Nat}{x:Int}(_:dU t dG x){i:Int}{n:Node}(hf:find t.ae i=some n):n.ar=i:=(cD hf).2
theorem dU.gF{t t':Tree}{dG:Int->Nat}{x x' d:Int}{n n':Node}(h:dU t dG x)(hs:rS t')(hd:find t.ae d=some n)
  (hf:∀i,find t'.ae i=if i=d then some n' else find t.ae i) (hk:n'.kind=n.kind) (hu:n'.up=n.up)
  (hfile:n.kind=1->n'.bc=[]/\n'.data.length<=4096) (hdir:n.kind=2->n'.data=[])
  (hent:∀e,e∈n'.bc->1<=e.ak/\e.ak<t'.ak/\e.ar≠1/\Nm e.name/\∃m,find t.ae e.ar=some m/\(m.kind=2->m.up=d))
  (hcook:(n'.bc.Pairwise fun a b=>a.ak≠b.ak)/\n'.bc.length<=64)
  (hc:∀i,1<=i->(uM t'.ae i:Int)+(if i=x' then 1 else 0)=uM t.ae i+(if i=x then 1 else 0)+(if i=d then n'.eo-n.eo else 0))
  (h1:n.kind=2->n'.eo=n.eo) (hdeep:dG d=12->n'.bc=[]) (hn:t'.ae.length<=200) (hnx:t'.next=t.next) (hck:t.ak<=t'.ak) (hck':t'.ak<=1099511627776):dU t' dG x':=by
 have pU:∀j m,find t.ae j=some m->∃m',find t'.ae j=some m'/\m'.kind=m.kind/\m'.up=m.up:=by
  intro j m hm;rw[hf];split
  ·rename_i he;subst he;rw[hd] at hm; cases hm;exact⟨n',rfl,hk,hu⟩
  ·exact⟨m,hm,rfl,rfl⟩
 have back:∀j m',find t'.ae j=some m'->(j=d/\m'=n')\/(j≠d/\find t.ae j=some m'):=by
  intro j m' hm;rw[hf] at hm;split at hm
  ·rename_i he; injection hm with hm; exact .inl ⟨he,hm.symm⟩
  ·rename_i he; exact .inr ⟨he,hm⟩
 refine⟨hs,?_,?_,?_,?_,?_,?_,?_,?_,?_,h.CF,?_,?_,hn,by rw[hnx]; exact h.next,⟨by have:=h.ak.1; omega,hck'⟩⟩
 ·obtain⟨r,h1,h2,h3⟩:=h.root;obtain⟨r',k1,k2,k3⟩:=pU _ _ h1;exact⟨r',k1,aI,aI⟩
 ·intro i m hm;rw[hnx];rcases back i m hm with ⟨rfl,rfl⟩|⟨_,hm⟩
  ·exact h.num _ _ hd
  ·exact h.num _ _ hm
 ·intro i m hm;rcases back i m hm with ⟨rfl,rfl⟩|⟨_,hm⟩
  ·rw[hk]; exact h.kind _ _ hd
  ·exact h.kind _ _ hm
 ·intro i m hm hk1;rcases back i m hm with ⟨rfl,rfl⟩|⟨_,hm⟩
  ·rw[hk] at hk1;exact⟨(hfile hk1).1,by rw[hu]; exact(h.file _ _ hd hk1).2.1,(hfile hk1).2⟩
  ·exact h.file _ _ hm hk1
 ·intro i m hm hk1;rcases back i m hm with ⟨rfl,rfl⟩|⟨_,hm⟩
  ·rw[hk] at hk1;exact hdir hk1
  ·exact h.dir _ _ hm hk1
 ·intro i m e hm he
  have key:∀m,find t.ae e.ar=some m/\(m.kind=2->m.up=i)->∃m,find t'.ae e.ar=some m/\(m.kind=2->m.up=i):=by
   rintro m ⟨k1,k2⟩;obtain⟨m',j1,j2,j3⟩:=pU _ _ k1;exact⟨m',j1,fun hk=>by rw[j3]; exact k2 aI⟩
  rcases back i m hm with ⟨rfl,rfl⟩|⟨_,hm⟩
  ·obtain⟨a1,a2,a3,a4,k,a5⟩:=hent e he;exact⟨a1,a2,a3,a4,key k a5⟩
  ·obtain⟨a1,a2,a3,a4,k,a5⟩:=h.CG _ _ e hm he;exact⟨a1,aI,a3,a4,key k a5⟩
 ·intro i m hm;rcases back i m hm with ⟨rfl,rfl⟩|⟨_,hm⟩
  ·exact hcook
  ·exact h.yo _ _ hm
 ·intro i m hm;rcases back i m hm with ⟨rfl,rfl⟩|⟨hne,hm⟩
  ·have:=hc i (h.num _ _ hd).1;have:=h.eo _ _ hd;simp only[↓reduceIte] at *;omega
  ·have:=hc i (h.num _ _ hm).1;have:=h.eo _ _ hm;simp only[hne,↓reduceIte] at *;omega
 ·intro i m hm hk1 hi;rcases back i m hm with ⟨rfl,rfl⟩|⟨_,hm⟩
  ·rw[hk] at hk1;rw[h1 hk1]; exact h.one _ _ hd hk1 hi
  ·exact h.one _ _ hm hk1 hi
 ·intro i m hm hk1 hi;rcases back i m hm with ⟨rfl,rfl⟩|⟨_,hm⟩
  ·rw[hk] at hk1;obtain⟨a,p,b,c⟩:=h.qI _ _ hd hk1 hi;obtain⟨p',k1,k2,_⟩:=pU _ _ b;rw[hu]; exact⟨a,p',k1,aI⟩
  ·obtain⟨a,p,b,c⟩:=h.qI _ _ hm hk1 hi;obtain⟨p',k1,k2,_⟩:=pU _ _ b;exact⟨a,p',k1,aI⟩
 ·intro i m hm hk1;rcases back i m hm with ⟨rfl,rfl⟩|⟨_,hm⟩
  ·rw[hk] at hk1;exact⟨(h.deep _ _ hd hk1).1,hdeep⟩
  ·exact h.deep _ _ hm hk1
def dU.left{t:Tree}{dG:Int->Nat}{d:Int}{n:Node}{s:Bytes}{e:gM}(h:dU t dG 0)(hd:find t.ae d=some n)(he:gv n.bc s=some e):dU ⟨dr t.ae d s,t.next,t.ak⟩ dG e.ar:=by
 have hE:ri n.bc:=h.lP.bc n (cD hd).1;have hi:n.ar=d:=h.ar hd;have hem:=j4 he;have hw:dr t.ae d s=eT t.ae { n with bc:=jI n.bc s }:=by simp[dr,hd]
 have hc:∀i,uM (dr t.ae d s) i+(if e.ar=i then 1 else 0)=uM t.ae i:=by
  intro i;have h1:=vv h.lP.mB { n with bc:=jI n.bc s } i
  have h2:=K2 hE he i;rw[hw];have h3:bl t.ae n.ar=n:=by simp only[bl,hi,hd,bm]
  simp only[h3] at h1;omega
 refine h.gF (h.lP.left d s t.next t.ak) hd (kU h.lP.mB hd) rfl rfl ?_ ?_ ?_ ?_ ?_ (fun _=>rfl) ?_ ?_ rfl (dN _) h.ak.2
 ·intro hk;obtain⟨h1,_,h3⟩:=h.file _ _ hd hk;exact⟨by simp[h1,jI],h3⟩
 ·exact h.dir _ _ hd
 ·intro x hx;exact h.CG _ _ x hd (PJ.1 hx).1
 ·exact⟨jR _ (h.yo _ _ hd).1,aZ (bT _ _) (h.yo _ _ hd).2⟩
 ·intro i h0;have h1:=hc i;rw[aL (show i≠0 by omega)]
  have e1:(if i=d then (n.eo-n.eo:Int) else 0)=0:=by split<;>omega
  simp only[e1]
  by_cases h0:i=e.ar
  ·subst h0;simp only[↓reduceIte] at h1 ⊢;omega
  ·rw[aL (fun hh=>h0 hh.symm)] at h1
   rw[aL h0];omega
 ·intro h12;have:=(h.deep _ _ hd ?_).2 h12
  ·simp[this,jI]
  ·rcases h.kind _ _ hd with hk|hk
   ·have:=(h.file _ _ hd hk).1;rw[this] at hem; cases hem.1
   ·exact hk
 ·show(dr t.ae d s).length<=200
  rw[hw,yc h.lP.mB (o:=n) (by simp only[hi]; exact hd)]
  exact h.ae
def dU.nM{t:Tree}{dG:Int->Nat}{x d:Int}{n m:Node}{s:Bytes}(h:dU t dG x)(hd:find t.ae d=some n)(hk:n.kind=2)(he:gv n.bc s=none)(h64:n.bc.length<64)(hnm:Nm s)
  (hx:find t.ae x=some m) (hx1:x≠1) (hup:m.kind=2->m.up=d) (hdp:dG d<12) (hck:t.ak<1099511627776):dU (im t d s x) dG 0:=by
 have hE:ri n.bc:=h.lP.bc n (cD hd).1;have hi:n.ar=d:=h.ar hd;have hcw:nz (t.ak+1)=t.ak+1:=gw (by have:=h.ak; omega) aI
 have hw:im t d s x=⟨eT t.ae { n with bc:=zb n.bc ⟨s,x,t.ak⟩ },t.next,t.ak+1⟩:=by simp only[im,hd,bm,hcw]
 have hfn:gv n.bc (gM.mk s x t.ak).name=none:=he
 have hc:∀i,uM (im t d s x).ae i=uM t.ae i+(if x=i then 1 else 0):=by
  intro i;have h1:=vv h.lP.mB { n with bc:=zb n.bc ⟨s,x,t.ak⟩ } i
  have h2:=OV hE hfn i;rw[hw];have h3:bl t.ae n.ar=n:=by simp only[bl,hi,hd,bm]
  simp only[h3] at h1 h2 ⊢;omega
 have hff:∀i,find (im t d s x).ae i=if i=d then some { n with bc:=zb n.bc ⟨s,x,t.ak⟩ } else find t.ae i:=by
  intro i;rw[hw];have:=gr h.lP.mB { n with bc:=zb n.bc ⟨s,x,t.ak⟩ } i
  rw[this];simp only[hi]
 refine h.gF (h.lP.nM d s x (by simp[bl,hd,he])) hd hff rfl rfl ?_ ?_ ?_ ?_ ?_ (fun _=>rfl) ?_ ?_ ?_ ?_ ?_
 ·intro hk1; omega
 ·exact h.dir _ _ hd
 ·intro e hem;rw[hw];rcases(V3 hE hfn).1 hem with rfl|hem
  ·exact⟨h.ak.1,by simp only; omega,hx1,hnm,m,hx,hup⟩
  ·obtain⟨a1,a2,a3,a4,a5⟩:=h.CG _ _ e hd hem;exact⟨a1,by simp only; omega,a3,a4,a5⟩
 ·refine⟨?_,by simp only[vD hE hfn,aA,au,cp,hU]; omega⟩
  rw[vD hE hfn];have hp:=(h.yo _ _ hd).1;rw[<-cC (mD n.bc s) n.bc,ft] at hp;obtain⟨p1,p2,p3⟩:=hp;rw[ft];refine⟨p1,dj.2 ⟨fun a ha=>?_,p2⟩,fun a ha c hc=>?_⟩
  ·have:=(h.CG _ _ a hd (dx ha)).2.1;simp only; omega
  ·rcases bI.1 hc with rfl|hc
   ·have:=(h.CG _ _ a hd (dM ha)).2.1;simp only; omega
   ·exact p3 a ha c hc
 ·intro i h0;have h1:=hc i;rw[aL (show i≠0 by omega)]
  have e1:(if i=d then (n.eo-n.eo:Int) else 0)=0:=by split<;>omega
  simp only[e1]
  by_cases h0:i=x
  ·subst h0;simp only[↓reduceIte] at h1 ⊢;omega
  ·rw[aL (fun hh=>h0 hh.symm)] at h1
   rw[aL h0];omega
 ·intro h12; omega
 ·rw[hw];simp only;rw[yc h.lP.mB (o:=n) (by simp only[hi]; exact hd)]
  exact h.ae
 ·rw[hw]
 ·rw[hw]; simp only; omega
 ·rw[hw]; simp only; omega
def dU.RR{t:Tree}{dG:Int->Nat}{x x' d:Int}{n n':Node}(h:dU t dG x)(hd:find t.ae d=some n)(hk:n.kind=1)(hi':n'.ar=d)(hk':n'.kind=1)(hu:n'.up=n.up)(he:n'.bc=n.bc)(hda:n'.data.length<=4096)
  (hx:∀i:Int,1<=i->(if i=x' then 1 else 0:Int)=(if i=x then 1 else 0)+(if i=d then n'.eo-n.eo else 0)):dU ⟨eT t.ae n',t.next,t.ak⟩ dG x':=by
 have hi:n.ar=d:=h.ar hd;have hE:ri n'.bc:=by rw[he]; exact h.lP.bc n (cD hd).1
 have hff:∀i,find (eT t.ae n') i=if i=d then some n' else find t.ae i:=by
  intro i;rw[gr h.lP.mB n' i,hi']
 obtain⟨f1,f2,f3⟩:=h.file _ _ hd hk;refine h.gF (h.lP.with hE t.next t.ak) hd hff aI hu ?_ ?_ ?_ ?_ ?_ ?_ ?_ ?_ rfl (dN _) h.ak.2
 ·intro _; exact⟨by rw[he]; exact f1,hda⟩
 ·intro h2; omega
 ·intro e hem; rw[he,f1] at hem; cases hem
 ·rw[he,f1]; exact⟨List.Pairwise.nil,dv⟩
 ·intro i h0;have h1:=vv h.lP.mB n' i;have h2:=hx i h0;simp only[bl,hi',hd,bm,he] at h1;simp only;omega
 ·intro h2; omega
 ·intro _; rw[he,f1]
 ·simp only;rw[yc h.lP.mB (o:=n) (by simp only[hi']; exact hd)]
  exact h.ae
def dU.named{t:Tree}{dG:Int->Nat}{x:Int}(h:dU t dG x){i:Int}{n:Node}(hi:find t.ae i=some n)(hk:n.kind=2)(h1:i≠1)(hx:i≠x):∃p e,find t.ae n.up=some p/\p.kind=2/\e∈p.bc/\e.ar=i:=by
 have a:=h.eo _ _ hi;have b:=h.one _ _ hi hk h1;rw[aL hx] at a;obtain⟨m,e,e1,e2,e3⟩:=wa.1 (show 0<uM t.ae i by omega)
 have hm:find t.ae m.ar=some m:=(ig h.lP.mB).2 ⟨e1,rfl⟩;obtain⟨_,_,_,_,k,k1,k2⟩:=h.CG _ _ e hm e2;rw[e3,hi] at k1; cases k1;obtain⟨_,p,p1,p2⟩:=h.qI _ _ hi hk h1;rw[k2 hk] at p1 ⊢;rw[hm] at p1; cases p1;exact⟨m,e,hm,p2,e2,e3⟩
def dU.drop{t:Tree}{dG:Int->Nat}{x k:Int}{n:Node}(h:dU t dG x)(hx:x=k\/x=0)(hk:find t.ae k=some n)(he:n.bc=[])(h1:k≠1)(hc:uM t.ae k=0):dU ⟨fR t.ae k,t.next,t.ak⟩ dG 0:=by
 have hff:∀i m,find (fR t.ae k) i=some m↔i≠k/\find t.ae i=some m:=by
  intro i m;rw[mu h.lP.mB];split<;>simp_all
 have hcn:∀i,uM (fR t.ae k) i=uM t.ae i:=by
  intro i;have:=G2 h.lP.mB k i;simp only[bl,hk,bm,he,zL] at this;omega
 have hno:∀i m e,find t.ae i=some m->e∈m.bc->e.ar≠k:=by
  intro i m e hm hem hh;have:=wa.2 ⟨m,e,(cD hm).1,hem,hh⟩;omega
 refine⟨h.lP.uY k t.next t.ak,?_,?_,?_,?_,?_,?_,?_,?_,?_,h.CF,?_,?_,?_,h.next,h.ak⟩
 ·obtain⟨r,r1,r2⟩:=h.root;exact⟨r,(hff _ _).2 ⟨fun hh=>h1 hh.symm,r1⟩,r2⟩
 ·intro i m hm; exact h.num _ _ ((hff _ _).1 hm).2
 ·intro i m hm; exact h.kind _ _ ((hff _ _).1 hm).2
 ·intro i m hm; exact h.file _ _ ((hff _ _).1 hm).2
 ·intro i m hm; exact h.dir _ _ ((hff _ _).1 hm).2
 ·intro i m e hm hem;have hm':=((hff _ _).1 hm).2;obtain⟨a1,a2,a3,a4,q,a5,a6⟩:=h.CG _ _ e hm' hem;exact⟨a1,a2,a3,a4,q,(hff _ _).2 ⟨hno _ _ e hm' hem,a5⟩,a6⟩
 ·intro i m hm; exact h.yo _ _ ((hff _ _).1 hm).2
 ·intro i m hm;obtain⟨m1,m2⟩:=(hff _ _).1 hm;have:=h.eo _ _ m2;have h0:=(h.num _ _ m2).1;rw[aL (show i≠0 by omega)]
  rw[aL (by rcases hx with rfl|rfl<;>omega)] at this
  simp only[hcn];exact this
 ·intro i m hm; exact h.one _ _ ((hff _ _).1 hm).2
 ·intro i m hm hk2 hi1;obtain⟨m1,m2⟩:=(hff _ _).1 hm;obtain⟨a,p,b,c⟩:=h.qI _ _ m2 hk2 hi1;refine⟨a,p,(hff _ _).2 ⟨fun hh=>?_,b⟩,c⟩
  have h0:=(h.num _ _ m2).1;obtain⟨q,e,q1,_,q3,_⟩:=h.named m2 hk2 hi1 (by rcases hx with rfl|rfl<;>omega)
  rw[hh,hk] at q1; cases q1;rw[he] at q3; cases q3
 ·intro i m hm; exact h.deep _ _ ((hff _ _).1 hm).2
 ·exact aZ (bT _ _) h.ae
def dU.anU{t:Tree}{dG dep':Int->Nat}{x to:Int}{n p:Node}(h:dU t dG x)(hx:find t.ae x=some n)(hk:n.kind=2)(hx1:x≠1)(hp:find t.ae to=some p)(hpk:p.kind=2)
  (h1:dep' 1=0) (hds:∀i m,find t.ae i=some m->m.kind=2->i≠1->i≠x->dep' i=dep' m.up+1) (hdx:dep' x=dep' to+1)
  (hdeep:∀i m,find t.ae i=some m->m.kind=2->dep' i<=12/\(dep' i=12->m.bc=[])):dU ⟨eT t.ae { n with up:=to },t.next,t.ak⟩ dep' x:=by
 have hi:n.ar=x:=h.ar hx
 have hff:∀i,find (eT t.ae { n with up:=to }) i=if i=x then some { n with up:=to } else find t.ae i:=by
  intro i;rw[gr h.lP.mB { n with up:=to } i]
  simp only[hi]
 have pU:∀j m,find t.ae j=some m->∃m',find (eT t.ae { n with up:=to }) j=some m'/\m'.kind=m.kind/\(j≠x->m'.up=m.up):=by
  intro j m hm;rw[hff];split
  ·rename_i he;subst he;rw[hx] at hm; cases hm;exact⟨_,rfl,rfl,fun hh=>absurd rfl hh⟩
  ·exact⟨m,hm,rfl,fun _=>rfl⟩
 have back:∀j m',find (eT t.ae { n with up:=to }) j=some m'->(j=x/\m'={ n with up:=to })\/(j≠x/\find t.ae j=some m'):=by
  intro j m' hm;rw[hff] at hm;split at hm
  ·rename_i he; injection hm with hm; exact .inl ⟨he,hm.symm⟩
  ·rename_i he; exact .inr ⟨he,hm⟩
 have hcn:∀i,uM (eT t.ae { n with up:=to }) i=uM t.ae i:=by
  intro i;have:=vv h.lP.mB { n with up:=to } i
  have h3:bl t.ae n.ar=n:=by simp only[bl,hi,hx,bm]
  simp only[h3] at this;omega
 have hc0:uM t.ae x=0:=by
  have a:=h.eo _ n hx;have b:=h.one _ n hx hk hx1;simp only[↓reduceIte] at a;omega
 have hno:∀i m e,find t.ae i=some m->e∈m.bc->e.ar≠x:=by
  intro i m e hm hem hh;have:=wa.2 ⟨m,e,(cD hm).1,hem,hh⟩;omega
 have hent:∀i m e,find t.ae i=some m->e∈m.bc->1<=e.ak/\e.ak<t.ak/\e.ar≠1/\Nm e.name/\∃m,find (eT t.ae { n with up:=to }) e.ar=some m/\(m.kind=2->m.up=i):=by
  intro i m e hm hem;obtain⟨a1,a2,a3,a4,q,a5,a6⟩:=h.CG _ _ e hm hem;obtain⟨q',j1,j2,j3⟩:=pU _ _ a5;exact⟨a1,a2,a3,a4,q',j1,fun hk=>by rw[j3 (hno _ _ e hm hem)]; exact a6 aI⟩
 refine⟨h.lP.with (n:={ n with up:=to }) (h.lP.bc n (cD hx).1) t.next t.ak,?_,?_,?_,?_,?_,?_,?_,?_,?_,h1,?_,?_,?_,h.next,h.ak⟩
 ·obtain⟨r,r1,r2,r3⟩:=h.root;obtain⟨r',k1,k2,k3⟩:=pU _ _ r1;exact⟨r',k1,aI,by rw[k3 (fun hh=>hx1 hh.symm)]; exact r3⟩
 ·intro i m hm;rcases back i m hm with ⟨rfl,rfl⟩|⟨_,hm⟩
  ·exact h.num _ n hx
  ·exact h.num _ _ hm
 ·intro i m hm;rcases back i m hm with ⟨rfl,rfl⟩|⟨_,hm⟩
  ·exact h.kind _ n hx
  ·exact h.kind _ _ hm
 ·intro i m hm hk1;rcases back i m hm with ⟨rfl,rfl⟩|⟨_,hm⟩
  ·simp only at hk1; omega
  ·exact h.file _ _ hm hk1
 ·intro i m hm hk1;rcases back i m hm with ⟨rfl,rfl⟩|⟨_,hm⟩
  ·exact h.dir _ n hx hk
  ·exact h.dir _ _ hm hk1
 ·intro i m e hm hem;rcases back i m hm with ⟨rfl,rfl⟩|⟨_,hm⟩
  ·exact hent _ n e hx hem
  ·exact hent _ _ e hm hem
 ·intro i m hm;rcases back i m hm with ⟨rfl,rfl⟩|⟨_,hm⟩
  ·exact h.yo _ n hx
  ·exact h.yo _ _ hm
 ·intro i m hm;simp only[hcn];rcases back i m hm with ⟨rfl,rfl⟩|⟨_,hm⟩
  ·exact h.eo _ n hx
  ·exact h.eo _ _ hm
 ·intro i m hm hk1 hi1;rcases back i m hm with ⟨rfl,rfl⟩|⟨_,hm⟩
  ·exact h.one _ n hx hk hi1
  ·exact h.one _ _ hm hk1 hi1
 ·intro i m hm hk1 hi1;rcases back i m hm with ⟨rfl,rfl⟩|⟨hne,hm⟩
  ·obtain⟨p',k1,k2,_⟩:=pU _ _ hp;exact⟨hdx,p',k1,aI⟩
  ·obtain⟨_,q,b,c⟩:=h.qI _ _ hm hk1 hi1;obtain⟨q',k1,k2,_⟩:=pU _ _ b;exact⟨hds _ _ hm hk1 hi1 hne,q',k1,aI⟩
 ·intro i m hm hk1;rcases back i m hm with ⟨rfl,rfl⟩|⟨_,hm⟩
  ·exact hdeep _ n hx hk
  ·exact hdeep _ _ hm hk1
 ·simp only;rw[yc h.lP.mB (o:=n) (by simp only[hi]; exact hx)]
  exact h.ae
def dU.made{t:Tree}{dG:Int->Nat}{d kind:Int}{p:Node}(h:dU t dG 0)(hp:find t.ae d=some p)(hpk:p.kind=2)(hk:kind=1\/kind=2)(hdp:dG d<12)(hl:t.ae.length<200)(hn:t.next<1099511627776) :
  dU ⟨eT t.ae ⟨t.next,kind,1,[],[],if kind==2 then d else 0⟩,t.next+1,t.ak⟩ (fun i=>if i=t.next then dG d+1 else dG i) t.next:=by
 have jw:find t.ae t.next=none:=by
  cases hz:find t.ae t.next with
  |none=>rfl
  |some m=>have:=h.num _ _ hz; omega
 have hnx:2<=t.next:=by
  obtain⟨r,r1,_⟩:=h.root;have:=(h.num _ _ r1).2; omega
 generalize hn':Node.mk t.next kind 1 [] [] (if kind==2 then d else 0)=n'
 have i1:n'.ar=t.next:=by rw[<-hn']
 have i2:n'.kind=kind:=by rw[<-hn']
 have i3:n'.eo=1:=by rw[<-hn']
 have i4:n'.data=[]:=by rw[<-hn']
 have i5:n'.bc=[]:=by rw[<-hn']
 have i6:n'.up=if kind==2 then d else 0:=by rw[<-hn']
 have hff:∀i,find (eT t.ae n') i=if i=t.next then some n' else find t.ae i:=by
  intro i;rw[gr h.lP.mB n' i,i1]
 have pU:∀j m,find t.ae j=some m->find (eT t.ae n') j=some m/\j≠t.next:=by
  intro j m hm;have:=(h.num _ _ hm).2;rw[hff,aL aI];exact⟨hm,aI⟩
 have back:∀j m',find (eT t.ae n') j=some m'->(j=t.next/\m'=n')\/(j≠t.next/\find t.ae j=some m'):=by
  intro j m' hm;rw[hff] at hm;split at hm
  ·rename_i he; injection hm with hm; exact .inl ⟨he,hm.symm⟩
  ·rename_i he; exact .inr ⟨he,hm⟩
 have hcn:∀i,uM (eT t.ae n') i=uM t.ae i:=by
  intro i;have:=vv h.lP.mB n' i;simp only[bl,i1,jw,iI,Node.zero,i5,zL] at this;omega
 have hc0:uM t.ae t.next=0:=by
  rcases gY (uM t.ae t.next) with h0|h0
  ·exact h0
  ·obtain⟨m,e,e1,e2,e3⟩:=wa.1 h0;obtain⟨_,_,_,_,k,k1,_⟩:=h.CG _ _ e ((ig h.lP.mB).2 ⟨e1,rfl⟩) e2;rw[e3,jw] at k1; cases k1
 refine⟨h.lP.with (n:=n') (by rw[i5]; exact List.Pairwise.nil) _ _,?_,?_,?_,?_,?_,?_,?_,?_,?_,?_,?_,?_,?_,?_,h.ak⟩
 ·obtain⟨r,r1,r2⟩:=h.root;exact⟨r,(pU _ _ r1).1,r2⟩
 ·intro i m hm;simp only;rcases back i m hm with ⟨rfl,rfl⟩|⟨_,hm⟩
  ·omega
  ·have:=h.num _ _ hm; omega
 ·intro i m hm;rcases back i m hm with ⟨rfl,rfl⟩|⟨_,hm⟩
  ·rw[i2]; exact hk
  ·exact h.kind _ _ hm
 ·intro i m hm hk1;rcases back i m hm with ⟨rfl,rfl⟩|⟨_,hm⟩
  ·rw[i2] at hk1;exact⟨i5,by rw[i6,hk1]; rfl,by rw[i4]; simp⟩
  ·exact h.file _ _ hm hk1
 ·intro i m hm hk1;rcases back i m hm with ⟨rfl,rfl⟩|⟨_,hm⟩
  ·exact i4
  ·exact h.dir _ _ hm hk1
 ·intro i m e hm hem;rcases back i m hm with ⟨rfl,rfl⟩|⟨_,hm⟩
  ·rw[i5] at hem; cases hem
  ·obtain⟨a1,a2,a3,a4,q,a5,a6⟩:=h.CG _ _ e hm hem;exact⟨a1,a2,a3,a4,q,(pU _ _ a5).1,a6⟩
 ·intro i m hm;rcases back i m hm with ⟨rfl,rfl⟩|⟨_,hm⟩
  ·rw[i5]; exact⟨List.Pairwise.nil,dv⟩
  ·exact h.yo _ _ hm
 ·intro i m hm;simp only[hcn];rcases back i m hm with ⟨rfl,rfl⟩|⟨hne,hm⟩
  ·rw[hc0,i3]; simp
  ·rw[aL hne];have:=h.eo _ _ hm;rw[aL (by have:=(h.num _ _ hm).1; omega)] at this
   exact this
 ·intro i m hm hk1 hi1;rcases back i m hm with ⟨rfl,rfl⟩|⟨_,hm⟩
  ·exact i3
  ·exact h.one _ _ hm hk1 hi1
 ·show(if (1:Int)=t.next then dG d+1 else dG 1)=0
  rw[aL aI]; exact h.CF
 ·intro i m hm hk1 hi1
  show(if i=t.next then dG d+1 else dG i)=(if m.up=t.next then dG d+1 else dG m.up)+1/\_
  rcases back i m hm with ⟨rfl,rfl⟩|⟨hne,hm⟩
  ·rw[i2] at hk1;have hu:m.up=d:=by rw[i6,hk1]; rfl
   rw[hu,aX rfl,aL (pU _ _ hp).2];exact⟨rfl,p,(pU _ _ hp).1,hpk⟩
  ·obtain⟨a,q,b,c⟩:=h.qI _ _ hm hk1 hi1;rw[aL hne,aL (pU _ _ b).2];exact⟨a,q,(pU _ _ b).1,c⟩
 ·intro i m hm hk1
  show(if i=t.next then dG d+1 else dG i)<=12/\((if i=t.next then dG d+1 else dG i)=12->_)
  rcases back i m hm with ⟨rfl,rfl⟩|⟨hne,hm⟩
  ·rw[aX rfl]; exact⟨aI,fun _=>i5⟩
  ·rw[aL hne]; exact h.deep _ _ hm hk1
 ·have:=GI t.ae n';simp only; omega
 ·simp only; omega
def cover:∀(k:Nat)(l:List Nat),(∀j,j<k->j∈l)->k<=l.length
 |0,_,_=>cQ _
 |k+1,l,h=>by
  have hk:=h k aI;have:=cover k (l.erase k) (fun j hj=>(List.mem_erase_of_ne aI).2 (h j aI))
  rw[List.length_erase_of_mem hk] at this;have:=List.length_pos_of_mem hk;omega
def dU.an0{t:Tree}{dG:Int->Nat}{x:Int}(h:dU t dG x):∀(m:Nat)(i:Int)(n:Node),find t.ae i=some n->n.kind=2->dG i=m->∀k,k<=m->∃j p,find t.ae j=some p/\dG j=k:=by
 intro m;induction m with
 |zero=>intro i n hi _ hm k hk; exact⟨i,n,hi,aI⟩
 |succ m ih =>
  intro i n hi hk2 hm k hk;rcases Nat.eq_or_lt_of_le hk with rfl|cL
  ·exact⟨i,n,hi,hm⟩
  ·have h1:i≠1:=fun hh=>by subst hh; have:=h.CF; omega
   obtain⟨a,p,b,c⟩:=h.qI _ _ hi hk2 h1;exact ih _ p b c aI k aI
def dU.Dw{t:Tree}{dG:Int->Nat}{x:Int}(h:dU t dG x){i:Int}{n:Node}(hi:find t.ae i=some n)(hk:n.kind=2):dG i<t.ae.length:=by
 have:=cover (dG i+1) (t.ae.map fun n=>dG n.ar) (fun j hj=>by
  obtain⟨a,p,h1,h2⟩:=h.an0 _ _ _ hi hk rfl j aI;rw[eK];exact⟨p,(cD h1).1,by rw[(cD h1).2,h2]⟩)
 rw[ef] at this;omega
def dU.K8{t:Tree}{dG:Int->Nat}{x:Int}(h:dU t dG x):∀(m:Nat)(i:Int)(d:Nat)(n:Node),find t.ae i=some n->n.kind=2->dG i<=m->wc t.ae m i d=d+dG i:=by
 intro m;induction m with
 |zero=>intro i d n _ _ hd; simp only[wc]; omega
 |succ m ih =>
  intro i d n hi hk hd;simp only[wc];split
  ·rename_i h1; subst h1; have:=h.CF; omega
  ·rename_i h1;obtain⟨a,p,b,c⟩:=h.qI _ _ hi hk h1;have hu:Qo t.ae i=n.up:=by simp[Qo,hi]
   rw[hu,ih _ _ p b c aI];omega
def dU.qm{t:Tree}{dG:Int->Nat}{x:Int}(h:dU t dG x){i:Int}{n:Node}(hi:find t.ae i=some n)(hk:n.kind=2):pS t.ae i=dG i:=by
 have:=h.K8 201 i 0 n hi hk (by have:=(h.deep _ _ hi hk).1; omega)
 simp only[pS,this]; omega
def dU.ym{t:Tree}{dG:Int->Nat}{x:Int}(h:dU t dG x):∀(m:Nat)(i:Int)(out:List Int)(n:Node),find t.ae i=some n->n.kind=2->dG i<=m->(uA t.ae m i out).length=out.length+dG i:=by
 intro m;induction m with
 |zero=>intro i out n _ _ hd; simp only[uA]; omega
 |succ m ih =>
  intro i out n hi hk hd;simp only[uA]
  by_cases h1:i=1
  ·subst h1; have:=h.CF; simp; omega
  ·obtain⟨a,p,b,c⟩:=h.qI _ _ hi hk h1;simp only[nC,ne_eq,h1,not_false_eq_true,↓reduceIte,bl,hi,bX,cU,bm,hk,az,fF,af];rw[ih _ _ p b c aI];simp only[aA,au,aw];omega
def dU.uB{t:Tree}{dG:Int->Nat}{x:Int}(h:dU t dG x){i:Int}{n:Node}(hi:find t.ae i=some n)(hk:n.kind=2):(uH t.ae i).length=dG i+1:=by
 have:=h.ym t.ae.length i [i] n hi hk (by have:=h.Dw hi hk; omega)
 simp only[uH,this,au,aw]; omega
def dU.XB{t:Tree}{dG:Int->Nat}{x:Int}(_:dU t dG x){i:Int}{n:Node}(hi:find t.ae i=some n):Qo t.ae i=n.up:=by simp[Qo,hi]
def dU.Dl{t:Tree}{dG:Int->Nat}{x:Int}(h:dU t dG x)(of:Int):∀(m:Nat)(i:Int)(n:Node),find t.ae i=some n->n.kind=2->dG i<m->nq t.ae of m i=nq t.ae of (dG i+1) i:=by
 intro m;induction m with
 |zero=>intro i n _ _ hd; omega
 |succ m ih =>
  intro i n hi hk hd
  by_cases h1:i=1
  ·subst h1; simp only[nq]; split<;>rfl
  ·obtain⟨a,p,b,c⟩:=h.qI _ _ hi hk h1;simp only[nq,h1,↓reduceIte,h.XB hi];rw[ih _ p b c aI,a]
theorem dU.oV{t:Tree}(i:Int):iL t.ae i i=true:=by simp[iL,nq]
theorem dU.qP{t:Tree}{of:Int}(h1:of≠1):iL t.ae 1 of=false:=by
 simp only[iL,nq];rw[aL (fun hh=>h1 hh.symm)]
 rfl
def dU.su{t:Tree}{dG:Int->Nat}{x:Int}(h:dU t dG x){of i:Int}{n:Node}(hi:find t.ae i=some n)(hk:n.kind=2)(h1:i≠1)(ho:i≠of):iL t.ae i of=iL t.ae n.up of:=by
 obtain⟨a,p,b,c⟩:=h.qI _ _ hi hk h1;have d1:=h.Dw b c;have d2:=h.Dw hi hk;simp only[iL];rw[h.Dl of _ _ p b c aI];rw[h.Dl of _ _ n hi hk aI]
 conv=>lhs; rw[nq]
 simp only[ho,h1,↓reduceIte,h.XB hi];rw[a]
def dU.AJ{t:Tree}{dG:Int->Nat}{x:Int}(h:dU t dG x){of:Int}:∀(m:Nat)(i:Int)(n:Node),find t.ae i=some n->n.kind=2->dG i=m->iL t.ae i of=true->dG of<=dG i:=by
 intro m;induction m with
 |zero =>
  intro i n hi hk hm hb
  by_cases h1:i=1
  ·by_cases h2:of=1
   ·subst h1; subst h2; exact av _
   ·subst h1; rw[dU.qP h2] at hb; cases hb
  ·obtain⟨a,_⟩:=h.qI _ _ hi hk h1;omega
 |succ m ih =>
  intro i n hi hk hm hb;have h1:i≠1:=fun hh=>by subst hh; have:=h.CF; omega
  obtain⟨a,p,b,c⟩:=h.qI _ _ hi hk h1
  by_cases ho:i=of
  ·subst ho; exact av _
  ·rw[h.su hi hk h1 ho] at hb;have:=ih _ p b c aI hb;omega
def JD{α:Type}[DecidableEq α]:∀(l k:List α),l.Nodup->(∀x,x∈l->x∈k)->l.length<=k.length
 | [],_,_,_=>cQ _
 |a::l,k,h,hs=>by
  have ha:=hs a bE;obtain⟨h1,h2⟩:=oO.1 h;have:=JD l (k.erase a) h2 (fun x hx=>(List.mem_erase_of_ne (by rintro rfl; exact h1 hx)).2 (hs x (bw _ hx)))
  rw[List.length_erase_of_mem ha] at this;have:=List.length_pos_of_mem ha;simp only[au];omega
def dU.O9{t:Tree}{dG:Int->Nat}{x:Int}(h:dU t dG x){i:Int}{n:Node}(hi:find t.ae i=some n):n.bc.length<=64:=(h.yo _ _ hi).2
def Rl(i:Int):∀(ns:List Node),(∀n,n∈ns->n.bc.length<=64)->uM ns i<=64*ns.length
 | [],_=>cQ _
 |n::ns,h=>by
  have h1:=Rl i ns (fun m hm=>h m (bw _ hm))
  have h2:rp n.bc i<=n.bc.length:=nA;have h3:=h n bE;rw[vu,au];omega
def dU.Rm{t:Tree}{dG:Int->Nat}{x:Int}(h:dU t dG x)(i:Int):uM t.ae i<=12800:=by
 have:=Rl i t.ae (fun n hn=>h.O9 ((ig h.lP.mB).2 ⟨hn,rfl⟩))
 have:=h.ae;omega
def dU.xh{t:Tree}{dG:Int->Nat}{x:Int}(h:dU t dG x){i:Int}{n:Node}(hi:find t.ae i=some n){e:gM}(he:e∈n.bc):e.ar≠i:=by
 intro hh;obtain⟨_,_,h1,_,m,hm,hu⟩:=h.CG _ _ e hi he;rw[hh,hi] at hm; cases hm
 have hk:n.kind=2:=by
  rcases h.kind _ _ hi with hk|hk
  ·rw[(h.file _ _ hi hk).1] at he; cases he
  ·exact hk
 have:=(h.qI _ _ hi hk aI).1;rw[hu hk] at this;omega
def IC{t:Tree}{ar:Int}{s:Bytes}(h:(o6 t ar s != 0)=false):∃d,find t.ae ar=some d/\d.kind=2/\fY s=true/\gv d.bc s=none/\d.bc.length<64/\pS t.ae ar<12/\t.ak<1099511627776:=by
 have h0:o6 t ar s=0:=by simpa using h
 unfold o6 at h0;split at h0
 ·rename_i h1; exact absurd h0 h1
 ·rename_i h1;obtain⟨d,d1,d2,d3⟩:=yY (show(gW t.ae ar).2=0 by omega)
  rw[d3] at h0;split at h0
  ·cases h0
  ·rename_i h2;split at h0
   ·cases h0
   ·rename_i h3;split at h0
    ·cases h0
    ·rename_i h4;simp only[DI,(cD d1).2,cS,bj,pb] at h4;refine⟨d,d1,d2,by simpa using h2,by simpa using h3,aI,aI,aI⟩
def dU.cw{t:Tree}{dG:Int->Nat}{x:Int}(h:dU t dG x)(hn:t.next<1099511627776):nz (t.next+1)=t.next+1:=gw (by
 obtain⟨r,r1,_⟩:=h.root;have:=h.num _ _ r1; omega) aI
def Q2{t:Tree}{dG:Int->Nat}(h:dU t dG 0)(ar:Int)(s:Bytes)(kind:Int)(hs:fY s=true->Nm s):∃dep',dU (rU t ar s kind).1 dep' 0:=by
 unfold rU;split
 ·exact⟨dG,h⟩
 ·rename_i hk;split
  ·exact⟨dG,h⟩
  ·rename_i he;split
   ·exact⟨dG,h⟩
   ·rename_i hb;obtain⟨d,d1,d2,d3,d4,d5,d6,d7⟩:=IC (by simpa using he)
    simp only[cS,bj,pb] at hb;have hn:t.next<1099511627776:=aI
    rw[h.qm d1 d2] at d6
    have hk':kind=1\/kind=2:=by
     simp only[bt,nC,ne_eq,not_and,Decidable.not_not] at hk
     by_cases h1:kind=1
     ·exact .inl h1
     ·exact .inr (hk h1)
    have hm:=h.made d1 d2 hk' d6 aI hn;rw[h.cw hn];have cL:=(h.num _ _ d1).2;have hne:ar≠t.next:=aI
    refine⟨_,hm.nM (d:=ar) (n:=d) (m:=⟨t.next,kind,1,[],[],if kind==2 then ar else 0⟩) ?_ d2 d4 (by simpa using d5) (hs d3) ?_ ?_ ?_ ?_ d7⟩
    ·simp only; rw[gr h.lP.mB]; simp only[hne,↓reduceIte]; exact d1
    ·simp only; rw[gr h.lP.mB]; simp only[↓reduceIte]
    ·have:=(h.num _ _ d1).1; omega
    ·intro h2;simp only at h2;simp[h2]
    ·simp only[hne,↓reduceIte]; exact d6
def Z6{t:Tree}{dG:Int->Nat}(h:dU t dG 0)(ar to:Int)(s:Bytes)(hs:fY s=true->Nm s):dU (CK t ar to s).1 dG 0:=by
 unfold CK;split
 ·exact h
 ·rename_i hf;split
  ·exact h
  ·rename_i hk;split
   ·exact h
   ·rename_i he;obtain⟨d,d1,d2,d3,d4,d5,d6,d7⟩:=IC (by simpa using he)
    rw[h.qm d1 d2] at d6;cases hi:find t.ae ar with
    |none=>simp[hi] at hf
    |some n =>
     simp only[bl,hi,bm] at hk ⊢
     have hk1:n.kind=1:=by
      rcases h.kind _ _ hi with h1|h1
      ·exact h1
      ·simp[h1] at hk
     have hlk:=h.eo _ _ hi;rw[aL (by have:=(h.num _ _ hi).1; omega)] at hlk
     have hcl:=h.Rm ar;have hw:nz (n.eo+1)=n.eo+1:=gw aI aI;rw[hw];obtain⟨f1,f2,f3⟩:=h.file _ _ hi hk1
     have hg:=h.RR (n':={ n with eo:=n.eo+1 }) (x':=ar) hi hk1 (cD hi).2 hk1 rfl rfl f3 (fun i h0=>by
      simp only;rw[aL (show i≠0 by omega)]
      split<;>omega)
     have hne:to≠ar:=fun hh=>by subst hh; rw[hi] at d1; cases d1; omega
     refine hg.nM (d:=to) (n:=d) (m:={ n with eo:=n.eo+1 }) ?_ d2 d4 (by simpa using d5) (hs d3) ?_ ?_ ?_ d6 d7
     ·simp only; rw[gr h.lP.mB]; simp only[h.ar hi,hne,↓reduceIte]; exact d1
     ·simp only; rw[gr h.lP.mB]; simp only[h.ar hi,↓reduceIte]
     ·intro hh; subst hh;obtain⟨r,r1,r2,_⟩:=h.root;rw[hi] at r1; cases r1; omega
     ·intro h2; simp only at h2; omega
def dU.unnamed{t:Tree}{dG:Int->Nat}{k:Int}{n:Node}(h:dU t dG k)(hk:find t.ae k=some n)(he:n.bc=[])(h1:k≠1):dU ⟨fm t.ae k,t.next,t.ak⟩ dG 0:=by
 unfold fm;simp only[bl,hk,bm];have hl:=h.eo _ _ hk;simp only[↓reduceIte] at hl;split
 ·rename_i h2;have:=h.one _ _ hk (by simpa using h2) h1
  exact h.drop (.inl rfl) hk he h1 aI
 ·rename_i h2
  have hk1:n.kind=1:=by
   rcases h.kind _ _ hk with h1|h1
   ·exact h1
   ·simp[h1] at h2
  have hcl:=h.Rm k;have hw:nz (n.eo-1)=n.eo-1:=gw aI aI;rw[hw];obtain⟨f1,f2,f3⟩:=h.file _ _ hk hk1
  exact h.RR (n':={ n with eo:=n.eo-1 }) (x':=0) hk hk1 (cD hk).2 hk1 rfl rfl f3 (fun i h0=>by
   simp only;rw[aL (show i≠0 by omega)]
   split<;>omega)
def dU.un{t:Tree}{dG:Int->Nat}(h:dU t dG 0){d:Int}{n m:Node}{s:Bytes}{e:gM}(hd:find t.ae d=some n)(he:gv n.bc s=some e)(hm:find t.ae e.ar=some m)(hm0:m.bc=[]):dU ⟨fm (dr t.ae d s) e.ar,t.next,t.ak⟩ dG 0:=by
 have hem:=(j4 he).1;have hl:=h.left hd he;refine hl.unnamed (n:=m) ?_ hm0 (h.CG _ _ e hd hem).2.2.1;simp only;rw[kU h.lP.mB hd,aL (h.xh hd hem)];exact hm
def abv{t:Tree}{dG:Int->Nat}(h:dU t dG 0)(ar:Int)(s:Bytes):dU (BN t ar s).1 dG 0:=by
 unfold BN;split
 ·exact h
 ·rename_i hl;obtain⟨d,e,d1,d2,d3,d4,d5⟩:=look_ok (by simpa using hl)
  rw[d5];split
  ·exact h
  ·rename_i h0;obtain⟨_,_,_,_,m,hm,_⟩:=h.CG _ _ e d1 (j4 d4).1;simp only[bl,hm,bm,bj] at h0;exact h.un d1 d4 hm (dP.1 aI)
def WJ{t:Tree}{dG:Int->Nat}(h:dU t dG 0)(ar:Int)(data:Bytes):dU (rP t ar data).1 dG 0:=by
 unfold rP;split
 ·exact h
 ·rename_i hf;split
  ·exact h
  ·rename_i hk;split
   ·exact h
   ·rename_i hd;cases hi:find t.ae ar with
    |none=>simp[hi] at hf
    |some n =>
     simp only[bl,hi,bm] at hk ⊢
     have hk1:n.kind=1:=by
      rcases h.kind _ _ hi with h1|h1
      ·exact h1
      ·simp[h1] at hk
     simp only[bj] at hd
     exact h.RR (n':={ n with data:=data }) (x':=0) hi hk1 (cD hi).2 hk1 rfl rfl (by simp only; omega) (fun i h0=>by
      simp only;rw[aL (show i≠0 by omega)]
      split<;>omega)
def FH{t:Tree}{dG:Int->Nat}(h:dU t dG 0)(ar:Int):dU (kK t ar).1 dG 0:=by
 unfold kK;split
 ·exact h
 ·rename_i hf;split
  ·exact h
  ·rename_i hk;split
   ·exact h
   ·rename_i hd;cases hi:find t.ae ar with
    |none=>simp[hi] at hf
    |some n =>
     simp only[bl,hi,bm] at hk hd
     have hk1:n.kind=1:=by
      rcases h.kind _ _ hi with h1|h1
      ·exact h1
      ·simp[h1] at hk
     simp only[bj] at hd;have hl:=h.eo _ _ hi;rw[aL (by have:=(h.num _ _ hi).1; omega)] at hl
     refine h.drop (.inr rfl) hi (h.file _ _ hi hk1).1 ?_ aI;intro hh; subst hh;obtain⟨r,r1,r2,_⟩:=h.root;rw[hi] at r1; cases r1; omega
def Mw:∀ {a b:List Node},o4 a->o4 b->(∀m,m∈a↔m∈b)->a=b
 | [],[],_,_,_=>rfl
 | [],y::b,_,_,h=>by have:=(h y).2 bE; cases this
 |x::a,[],_,_,h=>by have:=(h x).1 bE; cases this
 |x::a,y::b,ha,hb,h=>by
  obtain⟨a1,a2⟩:=dj.1 ha;obtain⟨b1,b2⟩:=dj.1 hb
  have hxy:x=y:=by
   rcases bI.1 ((h x).1 bE) with h1|h1
   ·exact h1
   ·rcases bI.1 ((h y).2 bE) with h2|h2
    ·exact h2.symm
    ·have:=b1 x h1; have:=a1 y h2; omega
  subst hxy;rw[Mw a2 b2 (fun m=>?_)]
  constructor
  ·intro hm;rcases bI.1 ((h m).1 (bw _ hm)) with h1|h1
   ·subst h1; have:=a1 m hm; omega
   ·exact h1
  ·intro hm;rcases bI.1 ((h m).2 (bw _ hm)) with h1|h1
   ·subst h1; have:=b1 m hm; omega
   ·exact h1
def RV{a b:List Node}(ha:o4 a)(hb:o4 b)(h:∀i,find a i=find b i):a=b :=
 Mw ha hb fun m=>by
  constructor
  ·intro hm;have:=(ig ha).2 ⟨hm,rfl⟩;rw[h] at this;exact(cD this).1
  ·intro hm;have:=(ig hb).2 ⟨hm,rfl⟩;rw[<-h] at this;exact(cD this).1
def Ay{ae:List Node}(h:o4 ae)(k:Int):o4 (fm ae k):=by
 unfold fm;split
 ·exact rM h _
 ·exact lQ h _
def sb{ae:List Node}(h:o4 ae)(k:Int)(s:Bytes):o4 (dr ae k s):=lQ h _
def Np(n:Node):Option Node:=if n.kind==2 then none else some { n with eo:=nz (n.eo-1) }
def va{ae:List Node}(h:o4 ae){k:Int}{n:Node}(hk:find ae k=some n)(i:Int):find (fm ae k) i=if i=k then Np n else find ae i:=by
 unfold fm Np;simp only[bl,hk,bm];split
 ·rw[mu h]
 ·rw[gr h];simp only[(cD hk).2]
def Lb(l:List gM)(a b:Bytes):jI (jI l a) b=jI (jI l b) a:=by
 simp only[jI,List.filter_filter];congr 1;funext e;rw[Bool.and_comm]
def Xy{ae:List Node}(h:o4 ae){f to y:Int}{s nm:Bytes}{dF dT m:Node}(hF:find ae f=some dF)(hT:find ae to=some dT)(hy:find ae y=some m)(h1:y≠f)(h2:y≠to) :
  fm (dr (dr ae f s) to nm) y=dr (fm (dr ae to nm) y) f s:=by
 have a1:=sb h f s;have a2:=sb h to nm;have a3:=sb a1 to nm;have a4:=Ay a2 y;have f1:=kU h hF (s:=s);have f2:=kU h hT (s:=nm);have hy1:find (dr ae to nm) y=some m:=by rw[f2,aL h2]; exact hy
 have f4:=va a2 hy1;obtain⟨dT',hT'⟩:∃dT',find (dr ae f s) to=some dT':=by rw[f1]; split<;>simp_all
 have f3:=kU a1 hT' (s:=nm);have hy3:find (dr (dr ae f s) to nm) y=some m:=by rw[f3,aL h2,f1,aL h1]; exact hy
 have f5:=va a3 hy3;obtain⟨dF',hF'⟩:∃dF',find (fm (dr ae to nm) y) f=some dF':=by rw[f4,aL (fun hh=>h1 hh.symm),f2]; split<;>simp_all
 have f6:=kU a4 hF' (s:=s);refine RV (Ay a3 y) (sb a4 f s) (fun i=>?_)
 rw[f5,f6,f4,f3];rw[f1] at hT';rw[f4,aL (fun hh=>h1 hh.symm),f2] at hF'
 by_cases i1:i=y
 ·subst i1; simp[h1]
 ·simp only[i1,↓reduceIte]
  by_cases i2:i=to
  ·subst i2;simp only[↓reduceIte]
   by_cases i3:i=f
   ·subst i3;simp only[↓reduceIte] at hT' hF' ⊢;injection hT' with hT'; injection hF' with hF'
    rw[<-hT',<-hF'];rw[hF] at hT; cases hT;simp only[Lb]
   ·simp only[i3,↓reduceIte] at hT' ⊢;rw[f2]; simp only[↓reduceIte];rw[hT] at hT'; injection hT' with hT'; rw[hT']
  ·simp only[i2,↓reduceIte];rw[f1,f2]
   by_cases i3:i=f
   ·subst i3;simp only[↓reduceIte,i2] at hF' ⊢;rw[hF] at hF'; injection hF' with hF'; rw[hF']
   ·simp only[i3,i2,↓reduceIte]
def Iz{l:List gM}{s:Bytes}{e:gM}(h:gv l s=some e):(jI l s).length<l.length:=by
 obtain⟨h1,h2⟩:=j4 h;refine Nat.lt_of_le_of_ne (bT _ _) fun hh=>?_
 have:=List.length_filter_eq_length_iff.1 hh e h1;simp[h2] at this
def dU.adH{t:Tree}{dG dep':Int->Nat}{f to:Int}{s nm:Bytes}{dF dT m:Node}{e:gM}(h:dU t dG 0)(hF:find t.ae f=some dF)(he:gv dF.bc s=some e)(hT:find t.ae to=some dT)(hTk:dT.kind=2)(hfree:gv dT.bc nm=none)(hroom:to≠f->dT.bc.length<64)(hnm:Nm nm)
  (hm:find t.ae e.ar=some m) (hne:e.ar≠to) (hd12:dep' to<12) (hck:t.ak<1099511627776)
  (hcase:(m.kind=1/\dep'=dG)\/(m.kind=2/\dep' 1=0/\(∀i n,find t.ae i=some n->n.kind=2->i≠1->i≠e.ar->dep' i=dep' n.up+1)/\dep' e.ar=dep' to+1 /\
   ∀i n,find t.ae i=some n->n.kind=2->dep' i<=12/\(dep' i=12->n.bc=[]))):dU (te t f s to nm e.ar 0) dep' 0:=by
 have hem:=(j4 he).1;have hnf:e.ar≠f:=h.xh hF hem;have h1:e.ar≠1:=(h.CG _ _ e hF hem).2.2.1;have hl:=h.left hF he;have fl:=kU h.lP.mB hF (s:=s);have hmx:find (dr t.ae f s) e.ar=some m:=by rw[fl,aL hnf]; exact hm
 obtain⟨d1,g1,g2,g3,g4⟩:∃d1,find (dr t.ae f s) to=some d1/\d1.kind=2/\gv d1.bc nm=none/\d1.bc.length<64:=by
  rw[fl];split
  ·rename_i hh;subst hh;rw[hF] at hT; cases hT;exact⟨_,rfl,hTk,vz hfree,bz (Iz he) (h.O9 hF)⟩
  ·rename_i hh;exact⟨dT,hT,hTk,hfree,hroom hh⟩
 have hnode:bl t.ae e.ar=m:=by simp[bl,hm]
 unfold te;simp only[hnode,az,af,↓reduceIte];rcases hcase with ⟨hk,rfl⟩|⟨hk,c1,c2,c3,c4⟩
 ·rw[aL (by simp[hk])]
  exact hl.nM g1 g2 g3 g4 hnm hmx h1 (fun h2=>aI) hd12 hck
 ·rw[aX (by simp[hk])]
  have hs:=hl.anU (dep':=dep') hmx hk h1 g1 g2 c1 (fun i n hi hk2 hi1 hie=>by
    simp only[fl] at hi;split at hi
    ·rename_i hh; subst hh;cases hi;exact c2 i dF hF hk2 hi1 hie
    ·exact c2 _ _ hi hk2 hi1 hie) c3 (fun i n hi hk2=>by
    simp only[fl] at hi;split at hi
    ·rename_i hh; subst hh;cases hi;obtain⟨q1,q2⟩:=c4 i dF hF hk2;exact⟨q1,fun h12=>by simp[q2 h12,jI]⟩
    ·exact c4 _ _ hi hk2)
  have hmi:m.ar=e.ar:=(cD hm).2;have fw:=gr (sb h.lP.mB f s) { m with up:=to }
  refine hs.nM (n:=d1) (m:={ m with up:=to }) ?_ g2 g3 g4 hnm ?_ h1 (fun _=>rfl) hd12 hck
  ·simp only;rw[fw];rw[aL (show ¬to=m.ar from fun hh=>hne aI)]
   exact g1
  ·simp only;rw[fw];simp only[hmi,↓reduceIte]
def vd(ae:List Node)(at' d:Int)(n:Node):Int :=
 if decide ((0:Int)<n.bc.length) then nz (nz (nz (at'+pS ae n.ar)-d)+1) else nz (nz (at'+pS ae n.ar)-d)
def I9(ae:List Node)(ar at' d:Int)(n:Node)(dE:Int):dE<=sC ae ar at' d n dE/\((n.kind==2&&iL ae n.ar ar)=true->vd ae at' d n<=sC ae ar at' d n dE):=by
 have e:sC ae ar at' d n dE=if n.kind==2&&iL ae n.ar ar then (if vd ae at' d n>dE then vd ae at' d n else dE) else dE:=rfl
 rw[e];split
 ·split
  ·exact⟨aI,fun _=>dN _⟩
  ·exact⟨dN _,fun _=>aI⟩
 ·rename_i h; exact⟨dN _,fun hh=>absurd hh h⟩
def Bb(ae:List Node)(ar at' d:Int):∀(l:List Node)(dE:Int),dE<=wi ae ar at' d l dE/\∀n,n∈l->(n.kind==2&&iL ae n.ar ar)=true->vd ae at' d n<=wi ae ar at' d l dE
 | [],dE=>⟨dN _,fun n hn=>by cases hn⟩
 |m::l,dE=>by
  obtain⟨h1,h2⟩:=Bb ae ar at' d l (sC ae ar at' d m dE);obtain⟨h3,h4⟩:=I9 ae ar at' d m dE;rw[wi];refine⟨aI,fun n hn hb=>?_⟩
  rcases bI.1 hn with rfl|hn
  ·have:=h4 hb; omega
  ·exact h2 n hn hb
def rH(ae:List Node)(dG:Int->Nat)(x to:Int):Int->Nat:=fun i=>if iL ae i x then dG i+(dG to+1)-dG x else dG i
def dU.FP{t:Tree}{dG:Int->Nat}(h:dU t dG 0){x to i:Int}{m n:Node}(hx:find t.ae x=some m)(hk:m.kind=2)(hd:dG to<12)(hi:find t.ae i=some n)(hk2:n.kind=2)(hb:iL t.ae i x=true) :
  vd t.ae (((dG to+1:Nat):Int)) (dG x) n=((rH t.ae dG x to i+(if 0<n.bc.length then 1 else 0):Nat):Int):=by
 have d1:=(h.deep _ _ hi hk2).1;have d2:=(h.deep _ _ hx hk).1;have d3:=h.AJ _ i n hi hk2 rfl hb;have hdn:pS t.ae n.ar=dG i:=by rw[h.ar hi]; exact h.qm hi hk2
 have w1:nz ((((dG to+1:Nat):Int))+(dG i:Nat))=(((dG to+1:Nat):Int))+(dG i:Nat):=gw aI aI;have w2:nz ((((dG to+1:Nat):Int))+(dG i:Nat)-(dG x:Nat))=(((dG to+1:Nat):Int))+(dG i:Nat)-(dG x:Nat):=gw aI aI;have w3:nz ((((dG to+1:Nat):Int))+(dG i:Nat)-(dG x:Nat)+1)=(((dG to+1:Nat):Int))+(dG i:Nat)-(dG x:Nat)+1:=gw aI aI;unfold vd rH;rw[aX hb,hdn,w1,w2,w3]
 by_cases hl:0<n.bc.length
 ·rw[aX (by simpa using hl),aX hl]; omega
 ·rw[aL (by simpa using hl),aL hl]; omega
def dU.ahF{t:Tree}{dG:Int->Nat}(h:dU t dG 0){x to:Int}{m dT:Node}(hx:find t.ae x=some m)(hk:m.kind=2)(hx1:x≠1)(hT:find t.ae to=some dT)(hTk:dT.kind=2)(hnb:iL t.ae to x=false)(hd:dG to<12)
  (hh:B9 t.ae x (((dG to+1:Nat):Int))<=12) :
  rH t.ae dG x to 1=0/\(∀i n,find t.ae i=some n->n.kind=2->i≠1->i≠x->rH t.ae dG x to i=rH t.ae dG x to n.up+1)/\rH t.ae dG x to x=rH t.ae dG x to to+1 /\
   (∀i n,find t.ae i=some n->n.kind=2->rH t.ae dG x to i<=12/\(rH t.ae dG x to i=12->n.bc=[]))/\rH t.ae dG x to to=dG to:=by
 have hto:rH t.ae dG x to to=dG to:=by unfold rH; rw[aL (by simp[hnb])]
 refine⟨?_,?_,?_,?_,hto⟩
 ·unfold rH;rw[aL (by simp[dU.qP hx1])]
  exact h.CF
 ·intro i n hi hk2 hi1 hix;obtain⟨a,p,b,c⟩:=h.qI _ _ hi hk2 hi1;have hb:=h.su hi hk2 hi1 hix;unfold rH;rw[hb];split
  ·rename_i hb2;have:=h.AJ _ _ p b c rfl hb2;omega
  ·exact a
 ·rw[hto];unfold rH;rw[aX (dU.oV x)];omega
 ·intro i n hi hk2
  by_cases hb:iL t.ae i x=true
  ·have h1:=(Bb t.ae x (((dG to+1:Nat):Int)) (pS t.ae x) t.ae 0).2 n (cD hi).1 (by rw[hk2,h.ar hi,hb]; rfl)
   rw[h.qm hx hk,h.FP hx hk hd hi hk2 hb] at h1;unfold B9 at hh;rw[h.qm hx hk] at hh;have h2:=Int.le_trans h1 hh;split at h2
   ·rename_i hl;exact⟨aI,fun h12=>aI⟩
   ·rename_i hl;exact⟨aI,fun _=>dP.1 aI⟩
  ·have:rH t.ae dG x to i=dG i:=by unfold rH; rw[aL hb]
   rw[this];exact h.deep _ _ hi hk2
def DG{l:List gM}{s r:Bytes}(h:r≠s):gv (jI l s) r=gv l r:=by
 unfold gv jI;rw[List.find?_filter];congr 1;funext e
 by_cases he:e.name=r
 ·have hn:e.name≠s:=he▸h;simp[he,h]
 ·simp[he]
structure aiD(t:Tree)(dG:Int->Nat)(f:Int)(s:Bytes)(to:Int)(nm:Bytes)(dF dT m:Node)(e:gM):Prop where
 hF:find t.ae f=some dF
 kF:dF.kind=2
 he:gv dF.bc s=some e
 hT:find t.ae to=some dT
 kT:dT.kind=2
 hn:fY nm=true
 hm:find t.ae e.ar=some m
 ne:e.ar≠to
 nf:e.ar≠f
 loop:m.kind=2->iL t.ae to e.ar=false
 deep:dG to<12
 high:m.kind=2->B9 t.ae e.ar (((dG to+1:Nat):Int))<=12
 ak:t.ak<1099511627776
 room:gv dT.bc nm=none->to≠f->dT.bc.length<64
 atV:∀e2,gv dT.bc nm=some e2->e2.ar≠e.ar/\∃y,find t.ae e2.ar=some y/\y.bc=[]/\(m.kind=2↔y.kind=2)/\e2.ar≠f/\e2.ar≠to
def dU.mv{t:Tree}{dG:Int->Nat}(h:dU t dG 0){f:Int}{s:Bytes}{to:Int}{nm:Bytes}{dF dT m:Node}{e:gM}(hs:fY nm=true->Nm nm)(k:aiD t dG f s to nm dF dT m e):∃dep',dU (te t f s to nm e.ar (jg dT.bc nm)) dep' 0:=by
 have hem:=(j4 k.he).1;have hx1:=(h.CG _ _ e k.hF hem).2.2.1
 have hcase:∃dep':Int->Nat,dep' to<12/\((m.kind=1/\dep'=dG)\/(m.kind=2/\dep' 1=0/\(∀i n,find t.ae i=some n->n.kind=2->i≠1->i≠e.ar->dep' i=dep' n.up+1)/\dep' e.ar=dep' to+1 /\
   ∀i n,find t.ae i=some n->n.kind=2->dep' i<=12/\(dep' i=12->n.bc=[]))):=by
  rcases h.kind _ _ k.hm with hk|hk
  ·exact⟨dG,k.deep,.inl ⟨hk,rfl⟩⟩
  ·obtain⟨c1,c2,c3,c4,c5⟩:=h.ahF k.hm hk hx1 k.hT k.kT (k.loop hk) k.deep (k.high hk);exact⟨rH t.ae dG e.ar to,by rw[c5]; exact k.deep,.inr ⟨hk,c1,c2,c3,c4⟩⟩
 obtain⟨dep',hd12,hcase⟩:=hcase;refine⟨dep',?_⟩;cases hfr:gv dT.bc nm with
 |none =>
  have hu:jg dT.bc nm=0:=by simp[jg,hfr]
  rw[hu];exact h.adH k.hF k.he k.hT k.kT hfr (k.room hfr) (hs k.hn) k.hm k.ne hd12 k.ak hcase
 |some e2 =>
  have hu:jg dT.bc nm=e2.ar:=by simp[jg,hfr]
  rw[hu];obtain⟨q1,y,q2,q3,q4,q5,q6⟩:=k.atV e2 hfr;have h1:=h.un k.hT hfr q2 q3;have a2:=sb h.lP.mB to nm;have f2:=kU h.lP.mB k.hT (s:=nm);have hy1:find (dr t.ae to nm) e2.ar=some y:=by rw[f2,aL q6]; exact q2
  have f4:∀i,find (fm (dr t.ae to nm) e2.ar) i=if i=e2.ar then Np y else if i=to then some { dT with bc:=jI dT.bc nm } else find t.ae i:=by
   intro i;rw[va a2 hy1,f2]
  have hnn:bl (fm (dr t.ae to nm) e2.ar) e.ar=bl t.ae e.ar:=by
   simp only[bl];rw[f4,aL (fun hh=>q1 hh.symm),aL k.ne]
  have hy0:=(h.num _ _ q2).1
  have hmv:te t f s to nm e.ar e2.ar=te ⟨fm (dr t.ae to nm) e2.ar,t.next,t.ak⟩ f s to nm e.ar 0:=by
   unfold te;simp only[hnn];rw[Xy h.lP.mB k.hF k.hT q2 q5 q6];have e1:(e2.ar != 0)=true:=gm;simp only[e1,az,af,↓reduceIte]
  rw[hmv]
  have hsn:to=f->s≠nm:=fun hh hsn=>by
   subst hh; subst hsn;have:=k.hF; rw[k.hT] at this; cases this;have:=k.he; rw[hfr] at this; cases this;exact q1 rfl
  obtain⟨dF',g1,g2⟩:∃dF',find (fm (dr t.ae to nm) e2.ar) f=some dF'/\gv dF'.bc s=some e:=by
   rw[f4,aL (fun hh=>q5 hh.symm)]
   split
   ·rename_i hh;refine⟨_,rfl,?_⟩;rw[DG (hsn hh.symm)];subst hh;have:=k.hF; rw[k.hT] at this; cases this;exact k.he
   ·exact⟨dF,k.hF,k.he⟩
  have back:∀i n,find (fm (dr t.ae to nm) e2.ar) i=some n->n.kind=2->∃n0,find t.ae i=some n0/\n0.kind=2/\n0.up=n.up/\(n0.bc=[]->n.bc=[]):=by
   intro i n hi hk;rw[f4] at hi;split at hi
   ·unfold Np at hi;split at hi
    ·cases hi
    ·rename_i hh;cases hi;simp only at hk;simp[hk] at hh
   ·split at hi
    ·rename_i hh; subst hh;cases hi;exact⟨dT,k.hT,hk,rfl,fun h0=>by simp[h0,jI]⟩
    ·exact⟨n,hi,hk,rfl,fun h0=>h0⟩
  refine h1.adH (dep':=dep') g1 g2 (dT:={ dT with bc:=jI dT.bc nm }) ?_ k.kT (B6 _ _) (fun _=>bz (Iz hfr) (h.O9 k.hT)) (hs k.hn) (m:=m) ?_ k.ne hd12 k.ak ?_
  ·simp only; rw[f4,aL (fun hh=>q6 hh.symm),aX rfl]
  ·simp only; rw[f4,aL (fun hh=>q1 hh.symm),aL k.ne]; exact k.hm
  ·rcases hcase with hc|⟨hk,c1,c2,c3,c4⟩
   ·exact .inl hc
   ·refine .inr ⟨hk,c1,?_,c3,?_⟩
    ·intro i n hi hk2 hi1 hie;obtain⟨n0,b1,b2,b3,_⟩:=back i n hi hk2;rw[<-b3]; exact c2 i n0 b1 b2 hi1 hie
    ·intro i n hi hk2;obtain⟨n0,b1,b2,_,b4⟩:=back i n hi hk2;exact⟨(c4 i n0 b1 b2).1,fun h12=>b4 ((c4 i n0 b1 b2).2 h12)⟩
def dU.zero{t:Tree}{dG:Int->Nat}{x:Int}(h:dU t dG x):find t.ae 0=none:=by
 cases hz:find t.ae 0 with
 |none=>rfl
 |some m=>have:=h.num _ _ hz; omega
def PM{t:Tree}{dG:Int->Nat}(h:dU t dG 0)(f:Int)(s:Bytes)(to:Int)(nm:Bytes) :
  ((wU t f s to nm).1=t/\(wU t f s to nm).2.1=0/\(wU t f s to nm).2.2≠0) \/
  (wU t f s to nm=(t,0,0)/\∃dF dT e e2,find t.ae f=some dF/\dF.kind=2/\fY s=true/\gv dF.bc s=some e/\fh t.ae f s=(e.ar,0)/\find t.ae to=some dT/\dT.kind=2/\fY nm=true/\gv dT.bc nm=some e2/\e2.ar=e.ar) \/
  ∃dF dT m e,aiD t dG f s to nm dF dT m e/\fY s=true/\fh t.ae f s=(e.ar,0)/\wU t f s to nm=(te t f s to nm e.ar (jg dT.bc nm),jg dT.bc nm,0):=by
 unfold wU;split
 ·rename_i c1; exact .inl ⟨rfl,rfl,by simpa using c1⟩
 rename_i c1;split
 ·rename_i c2; exact .inl ⟨rfl,rfl,by simpa using c2⟩
 rename_i c2;split
 ·exact .inl ⟨rfl,rfl,dv⟩
 rename_i c3;obtain⟨dF,e,e1,e2,e3,e4,e5⟩:=look_ok (by simpa using c1)
 obtain⟨dT,g1,g2,g3⟩:=yY (show(gW t.ae to).2=0 by simpa using c2)
 have hem:=(j4 e4).1;obtain⟨_,_,x1,_,m,hm,hup⟩:=h.CG _ _ e e1 hem;have hnode:bl t.ae e.ar=m:=by simp[bl,hm]
 simp only[e5,g3,hnode];split
 ·rename_i c4;right; left;refine⟨rfl,dF,dT,e,?_⟩;have c4':jg dT.bc nm=e.ar:=by simpa using c4
  cases hfr:gv dT.bc nm with
  |none=>simp only[jg,hfr] at c4'; have:=(h.num _ _ hm).1; omega
  |some e2'=>simp only[jg,hfr] at c4'; exact⟨e2',e1,e2,e3,e4,rfl,g1,g2,by simpa using c3,rfl,c4'⟩
 rename_i c4;split
 ·exact .inl ⟨rfl,rfl,dv⟩
 rename_i c5;split
 ·rename_i c6; exact .inl ⟨rfl,rfl,by simpa using c6⟩
 rename_i c6;split
 ·exact .inl ⟨rfl,rfl,dv⟩
 rename_i c7;right; right;have hdt:=h.qm g1 g2;simp only[manyN,hdt,cS,bt,eu,bj,pb,not_and,nC] at c7;obtain⟨r1,r2,r3,r4⟩:=c7
 have hw:nz (((dG to:Nat):Int)+1)=((dG to+1:Nat):Int):=by
  have:=(h.deep _ _ g1 g2).1;rw[show(((dG to:Nat):Int)+1)=((dG to+1:Nat):Int) by omega]
  exact gw aI aI
 rw[hw] at r3;have hnf:=h.xh e1 hem
 have hne:e.ar≠to:=fun hh=>by
  rw[hh,g1] at hm; cases hm;simp only[g2,mb,dZ] at c5;rw[hh,dU.oV] at c5;exact c5 rfl
 refine⟨dF,dT,m,e,⟨e1,e2,e4,g1,g2,by simpa using c3,hm,hne,hnf,?_,aI,?_,aI,?_,?_⟩,e3,rfl,rfl⟩
 ·intro hk;simpa[hk] using c5
 ·intro hk;have:=r3 hk; omega
 ·intro hfr hne;have hu:jg dT.bc nm=0:=by simp[jg,hfr]
  have:=r1 ⟨hu,hne⟩;omega
 ·intro e2' hfr;have hu:jg dT.bc nm=e2'.ar:=by simp[jg,hfr]
  rw[hu] at c4 c6;obtain⟨_,_,_,_,y,hy,_⟩:=h.CG _ _ e2' g1 (j4 hfr).1;have hny:bl t.ae e2'.ar=y:=by simp[bl,hy]
  have hto:=h.xh g1 (j4 hfr).1;simp only[u7,hy,bX,cU,af,↓reduceIte,hny,nC,ne_eq,Decidable.not_not] at c6;split at c6
  ·cases c6
  ·rename_i k1;split at c6
   ·cases c6
   ·rename_i k2;split at c6
    ·cases c6
    ·rename_i k3;have hy0:y.bc=[]:=dP.1 (by simpa using k3)
     refine⟨by simpa using c4,y,hy,hy0,?_,?_,hto⟩
     ·simp at k1 k2;constructor
      ·exact k1
      ·intro hy2;rcases h.kind _ _ hm with hk|hk
       ·exact absurd hy2 (k2 aI)
       ·exact hk
     ·intro hh;rw[hh,e1] at hy; cases hy;rw[hy0] at hem; cases hem
def aaK{t:Tree}{dG:Int->Nat}(h:dU t dG 0)(f:Int)(s:Bytes)(to:Int)(nm:Bytes)(hs:fY nm=true->Nm nm):∃dep',dU (wU t f s to nm).1 dep' 0:=by
 rcases PM h f s to nm with ⟨h1,_⟩|⟨h1,_⟩|⟨dF,dT,m,e,k,_,_,hk⟩
 ·rw[h1]; exact⟨dG,h⟩
 ·rw[h1]; exact⟨dG,h⟩
 ·rw[hk]; exact h.mv hs k
def V6:dU wR (fun _=>0) 0:=by
 have hf:∀i n,find wR.ae i=some n->i=1/\n=⟨1,2,0,[],[],1⟩:=by
  intro i n hi;obtain⟨h1,h2⟩:=cD hi;simp[wR] at h1;subst h1;exact⟨h2.symm,rfl⟩
 refine⟨⟨?_,?_⟩,⟨_,rfl,rfl,rfl⟩,?_,?_,?_,?_,?_,?_,?_,?_,rfl,?_,?_,by simp[wR],by simp[wR],by simp[wR]⟩
 ·simp[wR,o4]
 ·intro n hn; simp[wR] at hn; subst hn; exact List.Pairwise.nil
 ·intro i n hi; obtain⟨rfl,rfl⟩:=hf i n hi; simp[wR]
 ·intro i n hi; obtain⟨rfl,rfl⟩:=hf i n hi; simp
 ·intro i n hi; obtain⟨rfl,rfl⟩:=hf i n hi; simp
 ·intro i n hi; obtain⟨rfl,rfl⟩:=hf i n hi; simp
 ·intro i n e hi he; obtain⟨rfl,rfl⟩:=hf i n hi; cases he
 ·intro i n hi; obtain⟨rfl,rfl⟩:=hf i n hi; exact⟨List.Pairwise.nil,dv⟩
 ·intro i n hi; obtain⟨rfl,rfl⟩:=hf i n hi; simp[wR,uM,rp]
 ·intro i n hi _ h1; exact absurd (hf i n hi).1 h1
 ·intro i n hi _ h1; exact absurd (hf i n hi).1 h1
 ·intro i n hi; obtain⟨rfl,rfl⟩:=hf i n hi; simp
section
attribute [local irreducible] eX fM lC gK dX kr aq aU cr bJ
def zF:∀(d:Bytes),bytesOf (d.map pf)=some d
 | []=>rfl
 |b::d=>by
  rw[aF]
  show bJ (bytesOf (d.map pf)) (fun l=>some (UInt8.ofNat ((b.toNat:Int)).toNat::l))=some (b::d)
  rw[zF d,bO];simp
def apL(a b:Bytes):aq bW 112 [cV a,cV b] []=some (.bool (a==b),[]):=by
 refine aB ?_;simp only[ab4,aot,zF,EN,seval]
def ase a b:=cP (apL a b)
def arR(x y:gM):decide (x=y)=(x.name==y.name&&(x.ar==y.ar&&(x.ak==y.ak&&true))):=by
 cases x; cases y;simp only[gM.mk.injEq,gG];rw[cE];simp
def RH(x y:gM):lh [.s,.i,.i] (fU x) (fU y)=some (decide (x=y)):=by
 rw[arR];simp only[fU,lh,kC,bO,↓reduceIte]
def aiH(x:gM):(fU x).all ag.jf=true:=rfl
def akD(a b:List gM)(ha:a.length<=100000):aq bW 113 [jb a,jb b] []=some (.bool (decide (a=b)),[]) :=
 DK (sz:=3) (e:=iG) (ld := .mR 3) (ne := .QC [.s,.i,.i] true) fy rfl ha (fun _=>rfl) (fun _=>rfl) (fun _=>rfl) (fun _ _ _ _ h=>by simp only[ec,fZ.ev,h]; rfl) (fun _ _ _ _ _ _ h h'=>by simp only[ec,fZ.ev,h,h',iG,RH,bO])
def asf a b ha:=cP (akD a b ha)
def adI(x y:Node):decide (x=y)=(x.ar==y.ar&&(x.kind==y.kind&&(x.eo==y.eo&&(x.up==y.up&&(x.data==y.data&&decide (x.bc=y.bc)))))):=by
 cases x; cases y;simp only[Node.mk.injEq];rw[cE];simp only[bj,bt,eu];constructor
 ·rintro⟨h1,h2,h3,h4,h5,h6⟩; exact⟨h1,h2,h3,h6,h4,h5⟩
 ·rintro⟨h1,h2,h3,h6,h4,h5⟩; exact⟨h1,h2,h3,h4,h5,h6⟩
def apK(x y:Node)(hx:x.bc.length<=100000):aq bW 111 [.agg (aM x),.agg (aM y)] []=some (.bool (decide (x=y)),[]):=by
 rw[adI];refine aB ?_;simp only[ab3,aih,bL,aM,EN,seval]
 repeat' ((first|apply bC|apply bU|apply dK)<;>intro hb<;>simp only[hb,EN,aih,ase,asf,hx,seval])
 all_goals simp_all only[qB,↓reduceIte,reduceCtorEq,az]
def asd x y hx:=cP (apK x y hx)
def apM(a b:List Node)(ha:a.length<=100000)(he:∀n,n∈a->n.bc.length<=100000):aq bW 114 [ba a,ba b,.func 111 []] []=some (.bool (decide (a=b)),[]) :=
 adA (sz:=6) (e:=aM) (z:=[aH 0,aH 0,aH 0,.slice .c0 [],.slice .c0 [],aH 0]) fy rfl ha (fun _=>rfl) rfl (fun _=>rfl) (fun _=>rfl) fun x y M h=>asd x y (he x h) M
def asg a b ha he:=cP (apM a b ha he)
def anZ(x y:Tree):decide (x=y)=(x.next==y.next&&(x.ak==y.ak&&decide (x.ae=y.ae))):=by
 cases x; cases y;simp only[Tree.mk.injEq];rw[cE];simp only[bj,bt,eu];constructor
 ·rintro⟨h1,h2,h3⟩; exact⟨h2,h3,h1⟩
 ·rintro⟨h2,h3,h1⟩; exact⟨h1,h2,h3⟩
def c56(a b:Tree)(ha:Small a):aq bW 56 [br a,br b] []=some (.bool (decide (a=b)),[]):=by
 rw[anZ];have h1:=ha.ae;have h2:=ha.bc;refine aB ?_;simp only[alF,E56,br,aN,EN,seval]
 repeat' ((first|apply bC|apply bU|apply dK)<;>intro hb<;>simp only[hb,EN,E56,asg _ _ h1 h2,seval])
 all_goals simp_all only[qB,↓reduceIte,reduceCtorEq,az]
def dU.jw{t:Tree}{dG:Int->Nat}{x:Int}(h:dU t dG x):∀m,m∈t.ae->m.ar<t.next:=fun m hm=>(h.num _ _ ((ig h.lP.mB).2 ⟨hm,rfl⟩)).2
end
def dU.ES{t:Tree}{dG:Int->Nat}{x:Int}(h:dU t dG x){i:Int}{n:Node}(hi:find t.ae i=some n)(hk:n.kind=2):sr t.ae i=dG i:=by
 simp only[sr,h.uB hi hk]; omega
def dU.Qp{t:Tree}{dG:Int->Nat}{x:Int}(h:dU t dG x)(of:Int):∀(m:Nat)(i:Int)(out:List Int)(n:Node),find t.ae i=some n->n.kind=2->dG i<=m->out.contains i=true->(uA t.ae m i out).contains of=(out.contains of||nq t.ae of (m+1) i):=by
 intro m;induction m with
 |zero =>
  intro i out n hi hk hd ho;simp only[uA,nq]
  by_cases h1:i=of
  ·subst h1; rw[ho]; rfl
  ·simp[h1]
 |succ m ih =>
  intro i out n hi hk hd ho;simp only[uA];rw[nq]
  by_cases h1:i=1
  ·by_cases h2:i=of
   ·subst h2; simp[h1] at ho ⊢; exact ho
   ·simp[h1,h2];intro h3; exact absurd (h1.trans h3) h2
  ·obtain⟨a,p,b,c⟩:=h.qI _ _ hi hk h1;simp only[nC,ne_eq,h1,not_false_eq_true,↓reduceIte,bl,hi,bX,cU,bm,hk,az,fF,af];rw[ih _ _ p b c aI dv,h.XB hi]
   by_cases h2:i=of
   ·subst h2;have:(out++[n.up]).contains i=true:=by simp at ho ⊢; exact .inl ho
    rw[this,ho]; simp
   ·rw[aL h2]
    by_cases h3:n.up=of
    ·have:nq t.ae of (m+1) n.up=true:=by simp[nq,h3]
     rw[this]; simp
    ·have:(out++[n.up]).contains of=out.contains of:=by
      simp;intro hh; exact absurd hh.symm h3
     rw[this]
def dU.yF{t:Tree}{dG:Int->Nat}{x:Int}(h:dU t dG x)(of:Int){i:Int}{n:Node}(hi:find t.ae i=some n)(hk:n.kind=2):(uH t.ae i).contains of=iL t.ae i of:=by
 have:=h.Qp of t.ae.length i [i] n hi hk (by have:=h.Dw hi hk; omega) dv
 simp only[uH,this,iL]
 by_cases h2:i=of
 ·subst h2; simp[nq]
 ·have:([i]:List Int).contains of=false:=by simp; exact fun hh=>h2 hh.symm
  rw[this]; rfl
def dU.under{t:Tree}{dG:Int->Nat}(h:dU t dG 0){to:Int}{nm:Bytes}{dT:Node}(hT:find t.ae to=some dT):(mF t.ae dT.bc nm).ar=jg dT.bc nm:=by
 unfold mF jg;cases he:gv dT.bc nm with
 |none=>rfl
 |some e =>
  obtain⟨_,_,_,_,m,hm,_⟩:=h.CG _ _ e hT (j4 he).1;simp[bl,hm,(cD hm).2]
def V1{t:Tree}{dG:Int->Nat}(h:dU t dG 0)(dir:Int)(s:Bytes):pj t dir s=o6 t dir s:=by
 unfold pj o6
 by_cases h0:(gW t.ae dir).2=0
 ·obtain⟨d,d1,d2,d3⟩:=yY h0
  have hf:DI t d=(decide ((64:Int)<=d.bc.length)||(decide ((12:Int)<=sr t.ae dir)||decide ((1099511627776:Int)<=t.ak))):=by
   unfold DI;rw[(cD d1).2,h.qm d1 d2,h.ES d1 d2]
  simp only[d3,hf,az,af,↓reduceIte,ne_eq,nj];cases fY s<;>simp
 ·rw[aX (by simpa using h0),aX h0]
def Yd{t:Tree}{dG:Int->Nat}(h:dU t dG 0)(dir:Int)(s:Bytes)(kind:Int):KB t dir s kind=rU t dir s kind:=by
 unfold KB rU;rw[V1 h]
def ag5{t:Tree}{dG:Int->Nat}(h:dU t dG 0)(ar dir:Int)(s:Bytes):lnW t ar dir s=CK t ar dir s:=by
 unfold lnW CK;rw[V1 h]
def Cx{ae:List Node}{x:Int}{m:Node}(hx:find ae x=some m):kM ae m=fm ae x:=by
 unfold kM fm;simp only[bl,hx,bm,(cD hx).2]
def ah0{t:Tree}{dG:Int->Nat}(h:dU t dG 0)(dir:Int)(s:Bytes):unW t dir s=BN t dir s:=by
 unfold unW BN;split
 ·rfl
 ·rename_i hl;obtain⟨d,e,d1,d2,d3,d4,d5⟩:=look_ok (by simpa using hl)
  simp only[d5];obtain⟨_,_,_,_,m,hm,_⟩:=h.CG _ _ e d1 (j4 d4).1
  have hm':find (dr t.ae dir s) e.ar=some m:=by
   rw[kU h.lP.mB d1,aL (h.xh d1 (j4 d4).1)]; exact hm
  have hn:bl t.ae e.ar=m:=by simp[bl,hm]
  rw[hn,Cx hm']
def FQ(ae:List Node)(ar at' d:Int)(b:Int):∀(l:List Node)(dE:Int),b<wi ae ar at' d l dE->b<dE\/∃n,n∈l/\(n.kind==2&&iL ae n.ar ar)=true/\b<vd ae at' d n
 | [],dE,h => .inl h
 |m::l,dE,h=>by
  rw[wi] at h;rcases FQ ae ar at' d b l _ h with h1|⟨n,h1,h2,h3⟩
  ·have e:sC ae ar at' d m dE=if m.kind==2&&iL ae m.ar ar then (if vd ae at' d m>dE then vd ae at' d m else dE) else dE:=rfl
   rw[e] at h1;split at h1
   ·rename_i hb;split at h1
    ·exact .inr ⟨m,bE,hb,h1⟩
    ·exact .inl h1
   ·exact .inl h1
  ·exact .inr ⟨n,bw _ h1,h2,h3⟩
def dU.YA{t:Tree}{dG:Int->Nat}(h:dU t dG 0){x to:Int}{m:Node}(hx:find t.ae x=some m)(hk:m.kind=2)(hd:dG to<12) :
  Iw t.ae x (((dG to+1:Nat):Int))=decide ((12:Int)<B9 t.ae x (((dG to+1:Nat):Int))):=by
 have key:∀n,n∈t.ae->u9 t.ae (((dG to+1:Nat):Int)) ((dG x:Nat):Int) x n=((n.kind==2&&iL t.ae n.ar x)&&decide ((12:Int)<vd t.ae (((dG to+1:Nat):Int)) ((dG x:Nat):Int) n)):=by
  intro n hn;have hi:find t.ae n.ar=some n:=(ig h.lP.mB).2 ⟨hn,rfl⟩;unfold u9
  by_cases hk2:n.kind=2
  ·rw[h.yF x hi hk2,h.uB hi hk2]
   by_cases hb:iL t.ae n.ar x=true
   ·rw[h.FP hx hk hd hi hk2 hb];have d1:=(h.deep _ _ hi hk2).1;have d2:=(h.deep _ _ hx hk).1;have d3:=h.AJ _ _ n hi hk2 rfl hb;have w1:nz ((((dG to+1:Nat):Int))+((dG n.ar+1:Nat):Int))=(((dG to+1:Nat):Int))+((dG n.ar+1:Nat):Int):=gw aI aI;have w2:nz ((((dG to+1:Nat):Int))+((dG n.ar+1:Nat):Int)-1)=(((dG to+1:Nat):Int))+((dG n.ar+1:Nat):Int)-1:=gw aI aI;have w3:nz ((((dG to+1:Nat):Int))+((dG n.ar+1:Nat):Int)-1-(dG x:Nat))=(((dG to+1:Nat):Int))+((dG n.ar+1:Nat):Int)-1-(dG x:Nat):=gw aI aI;rw[w1,w2,w3];unfold rH;rw[aX hb,hb];simp only[hk2,mb,dZ];rw[cE];simp only[cS,bt,bj,eu];split<;>omega
   ·have:iL t.ae n.ar x=false:=by simpa using hb
    simp[this]
  ·have:(n.kind==2)=false:=by simpa using hk2
   simp[this]
 have hdx:(sr t.ae x:Int)=((dG x:Nat):Int):=by rw[h.ES hx hk]
 unfold Iw B9;rw[h.qm hx hk,hdx];rw[cE];simp only[ku,bj];constructor
 ·rintro⟨n,hn,hp⟩;rw[key n hn] at hp;simp only[bt,bj] at hp;have:=(Bb t.ae x (((dG to+1:Nat):Int)) ((dG x:Nat):Int) t.ae 0).2 n hn (by simp[hp.1.1,hp.1.2])
  omega
 ·intro hh;rcases FQ t.ae x _ _ 12 t.ae 0 hh with h1|⟨n,h1,h2,h3⟩
  ·omega
  ·exact⟨n,h1,by rw[key n h1,h2]; simpa using h3⟩
def ahc{t:Tree}{dG:Int->Nat}(h:dU t dG 0)(f:Int)(s:Bytes)(to:Int)(nm:Bytes):Nz t f s to nm=wU t f s to nm:=by
 unfold Nz wU;split
 ·rfl
 rename_i c1;split
 ·rfl
 rename_i c2;split
 ·rfl
 obtain⟨dF,e,e1,e2,e3,e4,e5⟩:=look_ok (by simpa using c1)
 obtain⟨dT,g1,g2,g3⟩:=yY (show(gW t.ae to).2=0 by simpa using c2)
 have hem:=(j4 e4).1;obtain⟨_,_,x1,_,m,hm,hup⟩:=h.CG _ _ e e1 hem;have hnode:bl t.ae e.ar=m:=by simp[bl,hm]
 simp only[e5,g3,hnode,h.under g1,h.yF e.ar g1 g2];split
 ·rfl
 rename_i c4;split
 ·rfl
 rename_i c5;have hup':jg dT.bc nm≠e.ar:=by simpa using c4
 have hnf:=h.xh e1 hem
 have hne:e.ar≠to:=fun hh=>by
  rw[hh,g1] at hm; cases hm;simp only[g2,mb,dZ] at c5;rw[hh,dU.oV] at c5;exact c5 rfl
 have hmany:∀there:Bool,(jg dT.bc nm==0) = !there->D9 t f to dT.bc there m.kind e.ar=manyN t f to dT.bc m.kind (jg dT.bc nm) e.ar:=by
  intro there hth;unfold D9 manyN;rw[hth,h.uB g1 g2,h.qm g1 g2]
  by_cases hd:dG to<12
  ·have hw:nz (((dG to:Nat):Int)+1)=((dG to+1:Nat):Int):=by
    rw[show(((dG to:Nat):Int)+1)=((dG to+1:Nat):Int) by omega]
    exact gw aI aI
   rw[hw]
   have hdd:decide ((12:Int)<((dG to+1:Nat):Int))=decide ((12:Int)<=((dG to:Nat):Int)):=by
    rw[decide_eq_decide]; omega
   rw[hdd];rcases h.kind _ _ hm with hk|hk
   ·simp[hk]
   ·rw[h.YA hm hk hd]
  ·have h1:decide ((12:Int)<((dG to+1:Nat):Int))=true:=by rw[bj]; omega
   have h2:decide ((12:Int)<=((dG to:Nat):Int))=true:=by rw[bj]; omega
   rw[h1,h2]; simp
 cases hfr:gv dT.bc nm with
 |none =>
  have hu:jg dT.bc nm=0:=by simp[jg,hfr]
  have hm1:=hmany false (by rw[hu]; rfl)
  rw[hu] at hm1 ⊢;have hcl:u7 t.ae m.kind 0=0:=by simp[u7,h.zero]
  simp only[dp,dW,af,↓reduceIte,hcl,az,hm1];split
  ·rfl
  ·unfold yD te;simp only[hnode,af,↓reduceIte,az]
 |some e2 =>
  have hu:jg dT.bc nm=e2.ar:=by simp[jg,hfr]
  obtain⟨_,_,_,_,y,hy,_⟩:=h.CG _ _ e2 g1 (j4 hfr).1;have hny:bl t.ae e2.ar=y:=by simp[bl,hy]
  have hto:=h.xh g1 (j4 hfr).1;have hy0:=(h.num _ _ hy).1;have hm1:=hmany true (by rw[hu]; simp; omega)
  have hnu:mF t.ae dT.bc nm=y:=by simp[mF,hfr,hny]
  rw[hu] at hm1 ⊢
  have hcl:u7 t.ae m.kind e2.ar=Ae m y:=by
   unfold u7 Ae;simp only[hy,bX,cU,af,↓reduceIte,hny]
  rw[hnu,hcl];simp only[bX,dZ,hm1];split
  ·rfl
  rename_i c6;split
  ·rfl
  have hy00:y.bc=[]:=by
   have:Ae m y=0:=by simpa using c6
   unfold Ae at this;split at this
   ·cases this
   split at this
   ·cases this
   split at this
   ·cases this
   ·rename_i k3; exact dP.1 (by simpa using k3)
  have hnf2:e2.ar≠f:=fun hh=>by
   rw[hh,e1] at hy; cases hy;rw[hy00] at hem; cases hem
  have hyl:find (dr (dr t.ae f s) to nm) e2.ar=some y:=by
   have f1:=kU h.lP.mB e1 (s:=s);obtain⟨dT',hT'⟩:∃dT',find (dr t.ae f s) to=some dT':=by rw[f1]; split<;>simp_all
   rw[kU (sb h.lP.mB f s) hT',aL hto,f1,aL hnf2];exact hy
  have hb:(e2.ar != 0)=true:=gm;unfold yD te;simp only[hnode,↓reduceIte,hb,Cx hyl]
section
attribute [local irreducible] eX fM lC gK dX kr aq aU cr bJ
def aqX(e:gM)(z:Int):aq bW 206 [iG e,cu 0] [cv [aH z]]=some (.bool (decide (e.ak<z)),[cv [aH z]]):=by
 refine aB ?_;simp only[acV,aoJ,iG,fU,EN,seval]
def asJ(e:gM)(z:Int)(p:Nat)(M:aC)(hM:nth M p=some (cv [aH z])):aU (aq bW) 206 [.agg (fU e),cu p] M=some (.bool (decide (e.ak<z)),M) :=
 uK (p:=p) (vs:=[.agg (fU e)]) hM (aqX e z) rfl rfl rfl rfl rfl rfl rfl rfl rfl
def qZ(z:Int)(l:List gM):List gM:=l.filter fun e => !decide (e.ak<z)
def Mr:gM:=⟨[],0,0⟩
abbrev WV(m:Nat):ag:=Du 3 m
def akM(xs:List gM)(z:Int)(hn:xs.length<=100000)(h0:xs≠[]):aq bW 204 [.cz 0 0 3 0 xs.length,.func 206 [cu 1]] [.arr 3 0 (xs.map iG),cv [aH z]] =
  some (WV (qZ z xs).length,[.arr 3 0 ((qZ z xs++List.replicate (xs.length-(qZ z xs).length) Mr).map iG),cv [aH z]]) :=
 adz (sz:=3) (z:=[.str [],aH 0,aH 0]) (zc:=[.str [],aH 0,aH 0]) (gi:=166) (e:=fU) (zx:=Mr) (p:=fun e=>decide (e.ak<z)) fy rfl fy rfl rfl hn (fun _=>rfl) rfl mr (fun _=>rfl) (fun _=>rfl) (fun _=>rfl) ⟨fun _ _=>rfl,rfl,fun _=>rfl,rfl⟩ (fun e _ _=>asJ e z 1 _ rfl) h0
end
structure fA where
 bA:Int
 handle:Int
 ar:Int
 deriving DecidableEq,Inhabited
structure dQ where
 ar:Int
 ae:Int
 bytes:Int
 deriving DecidableEq,Inhabited
structure pv where
 kx:Int
 BK:Int
 node:Node
 deriving DecidableEq,Inhabited
structure mY where
 id:Int
 ar:Int
 at':Int
 deriving DecidableEq,Inhabited
structure iQ where
 now:Tree
 tick:Int
 since:List Int
 eN:List pv
 dR:List mY
 next:Int
 deriving DecidableEq,Inhabited
structure aa where
 s:iQ
 holds:List fA
 dS:List dQ
 deriving DecidableEq,Inhabited
structure jF where
 kind:Int
 bA:Int
 dI:Bytes
 vh:Bytes
 n:Int
 m:Int
 handle:Int
 data:Bytes
 deriving DecidableEq,Inhabited
structure vU where
 err:Int
 ar:Int
 kind:Int
 n:Int
 m:Int
 names:List Bytes
 data:Bytes
 deriving DecidableEq,Inhabited
structure Kx where
 bA:Int
 seq:Int
 lg:vU
 deriving DecidableEq,Inhabited
def jc(h:fA):List ag:=[.int .i64 h.bA,.int .i64 h.handle,.int .i64 h.ar]
def ic(h:fA):ag := .agg (jc h)
abbrev fH(l:List fA):ag := .slice .sh (l.map ic)
def iV(q:dQ):List ag:=[.int .i64 q.ar,.int .i64 q.ae,.int .i64 q.bytes]
def gA(q:dQ):ag := .agg (iV q)
abbrev cN(l:List dQ):ag := .slice .sh (l.map gA)
def mP(p:pv):List ag := .int .i64 p.kx :: .int .i64 p.BK::aM p.node
def mc(p:pv):ag := .agg (mP p)
abbrev r8(l:List pv):ag := .slice .sh (l.map mc)
def iB(s:mY):List ag:=[.int .i64 s.id,.int .i64 s.ar,.int .i64 s.at']
def kW(s:mY):ag := .agg (iB s)
abbrev kj(l:List mY):ag := .slice .sh (l.map kW)
abbrev ua(l:List Int):ag := .slice .sh (l.map mZ)
abbrev da(l:List Bytes):ag := .slice .sh (l.map ag.str)
def bM(s:iQ):List ag:=[ba s.now.ae,.int .i64 s.now.next,.int .i64 s.now.ak,.int .i64 s.tick,ua s.since,r8 s.eN,kj s.dR,.int .i64 s.next]
def qS(s:iQ):ag := .agg (bM s)
def cg(f:aa):List ag:=[ba f.s.now.ae,.int .i64 f.s.now.next,.int .i64 f.s.now.ak,.int .i64 f.s.tick,ua f.s.since,r8 f.s.eN,kj f.s.dR,.int .i64 f.s.next,fH f.holds,cN f.dS]
def O2(f:aa):ag := .agg (cg f)
def eW(o:jF):List ag:=[.int .i64 o.kind,.int .i64 o.bA,.str o.dI,.str o.vh,.int .i64 o.n,.int .i64 o.m,.int .i64 o.handle,cV o.data]
def XK(o:jF):ag := .agg (eW o)
def dA(a:vU):List ag:=[.int .i64 a.err,.int .i64 a.ar,.int .i64 a.kind,.int .i64 a.n,.int .i64 a.m,da a.names,cV a.data]
def Ld(a:vU):ag := .agg (dA a)
def yZ(s:Kx):List ag := .int .i64 s.bA :: .int .i64 s.seq::dA s.lg
def RD(s:Kx):ag := .agg (yZ s)
def Ik(n:fA):(ic n).cells=jc n:=rfl
def GY(n:dQ):(gA n).cells=iV n:=rfl
def Im(n:pv):(mc n).cells=mP n:=rfl
def Iq(n:mY):(kW n).cells=iB n:=rfl
def Ip(n:Kx):(RD n).cells=yZ n:=rfl
def LK(n:fA):(jc n).length=3:=rfl
def Js(n:dQ):(iV n).length=3:=rfl
def LM(n:pv):(mP n).length=8:=rfl
def LO(n:mY):(iB n).length=3:=rfl
def LN(n:Kx):(yZ n).length=9:=rfl
def pr{α:Type}(f:α->ag)(k:Nat)(h:∀a,(f a).cells.length=k)(l:List α):wid (l.map f) k=True:=by
 simp only[fG,ja];intro x hx;obtain⟨n,_,rfl⟩:=eK.1 hx;exact h n
def Qt(l:List fA):wid (l.map ic) 3=True:=pr ic _ (fun _=>rfl) l
def Mp(l:List dQ):wid (l.map gA) 3=True:=pr gA _ (fun _=>rfl) l
def Qu(l:List pv):wid (l.map mc) 8=True:=pr mc _ (fun _=>rfl) l
def Qw(l:List mY):wid (l.map kW) 3=True:=pr kW _ (fun _=>rfl) l
def Qv(l:List Kx):wid (l.map RD) 9=True:=pr RD _ (fun _=>rfl) l
def XF(l:List Bytes):wid (l.map ag.str) 1=True:=pr ag.str _ (fun _=>rfl) l
def tkH(n:fA):List.take 3 (jc n)=jc n:=rfl
def shH(n:fA):List.map ag.shut (jc n)=jc n:=rfl
def tkQ(n:dQ):List.take 3 (iV n)=iV n:=rfl
def shQ(n:dQ):List.map ag.shut (iV n)=iV n:=rfl
def tkP(n:pv):List.take 8 (mP n)=mP n:=rfl
def shP(n:pv):List.map ag.shut (mP n)=mP n:=rfl
def tkS(n:mY):List.take 3 (iB n)=iB n:=rfl
def shS(n:mY):List.map ag.shut (iB n)=iB n:=rfl
def tkU(n:Kx):List.take 9 (yZ n)=yZ n:=rfl
def shU(n:Kx):List.map ag.shut (yZ n)=yZ n:=rfl
def akX:((2:Nat):Int)=2:=rfl
def ahV:Int.toNat 0=0:=rfl
def ahW:Int.toNat 1=1:=rfl
def arS(a b c d:Int):lh [FK.i,FK.i] [aH a,aH b] [aH c,aH d]=some (a==c&&b==d):=by
 simp[lh,kC]
def YH(a b c a' b' c':Int):lh [FK.i,FK.i,FK.i] [aH a,aH b,aH c] [aH a',aH b',aH c']=some (a==a'&&(b==b'&&c==c')):=by
 simp[lh,kC]
set_option linter.defProp false in
def EVF:=bR @arS (bR @YH (bR @gq.{0} (bR @cW.{0} (bR @akX (bR @ahV (bR @ahW (bR @jH (bR @fL (bR @Ik (bR @GY (bR @Im (bR @Iq (bR @Ip (bR @LK (bR @Js (bR @LM (bR @LO (bR @LN (bR @Qt (bR @Mp (bR @Qu (bR @Qw (bR @Qv (bR @XF (bR @tkH (bR @shH (bR @tkQ (bR @shQ (bR @tkP (bR @shP (bR @tkS (bR @shS (bR @tkU (bR @shU (bR @tkN (bR @shN (bR @tkE (@shE))))))))))))))))))))))))))))))))))))))
set_option linter.defProp false in
def EW:=And.intro EVF EN
section
attribute [local irreducible] eX fM lC gK dX kr aq aU cr bJ
def arA(h:fA):aq bW 258 [.agg (jc h)] []=some (.agg [aH h.bA,aH h.handle],[]):=by
 refine aB ?_;simp only[adp,ao0,ic,jc,EW,seval]
def amD h:=cP (arA h)
def gS(n:Node):Bool:=n.kind==1&&n.eo==0
def aq2(n:Node):aq bW 213 [.agg (aM n)] []=some (.bool (gS n),[]):=by
 refine aB ?_;simp only[ac0,aiu,bL,aM,EW,seval]
 repeat' ((first|apply bC|apply bU|apply dK)<;>intro hb<;>simp only[hb,EW,aiu,seval])
 all_goals (simp_all only[gS,qB,↓reduceIte,reduceCtorEq,az]; done)
def afE n:=cP (aq2 n)
def z6(c h:Int):Bool:=decide (0<=c)&&decide (c<16)&&decide (0<=h)&&decide (h<100)
def aqZ(c h:Int):aq bW 210 [.agg [aH c,aH h]] []=some (.bool (z6 c h),[]):=by
 refine aB ?_;simp only[acX,ait,EW,seval]
 repeat' ((first|apply bC|apply bU|apply dK)<;>intro hb<;>simp only[hb,EW,ait,seval])
 all_goals (simp_all only[z6,qB,↓reduceIte,reduceCtorEq,az]; done)
def asL c h:=cP (aqZ c h)
def orI(a b:Int):Int:=if a != 0 then a else b
def atW(a b:Int)(ha:(a != 0)=false):orI a b=b:=by simp[orI,ha]
def arB(a b:Int):aq bW 259 [gU [aH a,aH b]] []=some (aH (orI a b),[]):=by
 refine aB ?_;simp only[Sm,HU,EW,seval];rw[bG];simp only[Sm,HU,EW,seval];refine bC (fun hb=>?_) (fun hb=>?_)
 ·simp only[HU,hb,orI,EW,seval]
 ·have w1:IntKind.i64.wrap 1=1:=gw mr mr;have w2:IntKind.i64.wrap 2=2:=gw mr mr;simp only[HU,hb,atW a b hb,w1,EW,seval];rw[bG];simp only[HU,EW,seval];refine bC (fun hc=>?_) (fun hc=>?_)
  ·simp only[HU,hc,EW,seval]
  ·simp only[HU,hc,w2,EW,seval];rw[bG];simp only[HU,EW,seval];have:b=0:=by simpa using hc
   rw[this]
def as0 a b:=cP (arB a b)
def ik(x:fA)(c h:Int):Int:=orI (qR x.bA c) (qR x.handle h)
def aq1(c h a b:Int)(x:fA):aq bW 212 [.agg [aH c,aH h],.agg (jc x),.agg [aH a,aH b]] []=some (aH (ik x c h),[]):=by
 refine aB ?_;simp only[acZ,aoK,ic,amD,Zc,as0,ik,EW,seval]
def amw c h a b x:=cP (aq1 c h a b x)
def sS(c h:Int)(x:fA):Bool:=x.bA==c&&x.handle==h
def aq3(c h:Int)(x:fA):aq bW 217 [.agg [aH c,aH h],.agg (jc x)] []=some (.bool (sS c h x),[]):=by
 refine aB ?_;simp only[ac1,aoL,ic,amD,sS,EW,seval]
def asN c h x:=cP (aq3 c h x)
end
section
theorem x9{α:Type}(p:α->Bool):∀(l:List α)(i:Nat),(qD p l i = -1/\l.find? p=none)\/∃(m:Nat) (x:α),qD p l i=((i+m:Nat):Int)/\l[m]?=some x/\l.find? p=some x/\l.eraseIdx m=l.eraseP p
 | [],i => .inl ⟨rfl,rfl⟩
 |x::r,i=>by
  rw[qD]
  by_cases h:p x=true
  ·grind
  ·rcases x9 p r (i+1) with ⟨h1,h2⟩|⟨m,y,h1,h2,h3,h4⟩
   ·exact .inl ⟨by simp[h,h1],by simp[h,h2]⟩
   ·grind
def mw{α:Type}(lt:α->Bool)(l:List α):Nat:=(l.takeWhile lt).length
theorem Hp{α:Type}{lt:α->Bool}:∀ {l:List α},l.Pairwise (fun a b=>lt b=true->lt a=true)->XI lt l (mw lt l)
 | [],_=>⟨av _,fun h n hn=>by simp_all⟩
 |a::r,h=>by
  obtain⟨h1,h2⟩:=dj.1 h;obtain⟨i1,i2⟩:=Hp h2;unfold mw at i1 i2 ⊢
  by_cases ha:lt a=true
  ·rw[iu,aX ha];refine⟨ka,fun k n hn=>?_⟩
   grind
  ·rw[iu,aL ha];refine⟨dv,fun k n hn=>?_⟩
   grind
def WE(z:Int):j5 [cv [aH z]] (iw [0]) [0]=some [cv [aH z]]:=rfl
def L9(u v:Int):j5 [cv [aH u],cv [aH v]] (iw [0,1]) [0,1]=some [cv [aH u],cv [aH v]]:=rfl
attribute [local irreducible] eX fM lC gK dX kr aq aU cr bJ
def arC(x:fA)(z:Int):aq bW 262 [ic x,cu 0] [cv [aH z]]=some (.bool (x.ar==z),[cv [aH z]]):=by
 refine aB ?_;simp[adq,ao1,ic,jc,EW]
def aqK(x:fA)(z:Int):aq bW 186 [ic x,cu 0] [cv [aH z]]=some (.bool (x.ar==z),[cv [aH z]]):=by
 refine aB ?_;simp[acH,aoB,ic,jc,EW]
def arH(q:dQ)(ar:Int):aq bW 268 [gA q,aH ar] []=some (aH (qR q.ar ar),[]):=by
 refine aB ?_;simp[adu,ao5,gA,iV,Zc,EW]
def as3(n:dQ)(ar:Int)(M:aC):aU (aq bW) 268 [.agg (iV n),aH ar] M=some (aH (qR n.ar ar),M):=cO (arH n _) M
def arE(n:Node)(ar:Int):aq bW 264 [bL n,aH ar] []=some (aH (qR n.ar ar),[]):=by
 refine aB ?_;simp[adr,ao2,bL,aM,Zc,EW]
def as2(n:Node)(ar:Int)(M:aC):aU (aq bW) 264 [.agg (aM n),aH ar] M=some (aH (qR n.ar ar),M):=cO (arE n _) M
def zp(kx BK:Int)(x:mY):Bool:=decide (kx<=x.at')&&decide (x.at'<BK)
def arF(x:mY)(a b:Int):aq bW 266 [kW x,cu 0,cu 1] [cv [aH a],cv [aH b]]=some (.bool (zp a b x),[cv [aH a],cv [aH b]]):=by
 refine aB ?_;simp only[adt,ao4,kW,iB,EW,seval]
 repeat' ((first|refine bC _ _|refine bU (fun hb=>?_) (fun hb=>?_)|refine dK _ _)<;>simp only[hb,EW,seval])
 all_goals (simp_all only[zp,qB]; done)
def akQ(xs:List fA)(c g:Int)(hn:xs.length<=100000):aq bW 216 [gU (xs.map ic),.ra 217 [.agg [aH c,aH g]]] []=some (aH (qD (sS c g) xs 0),[]) :=
 DL (sz:=3) (e:=jc) fy rfl hn (fun _=>rfl) (fun _=>rfl) rfl rfl fun x _ => .inr ⟨_,_,rfl,asN c g x []⟩
def adF(xs:List fA)(c g:Int)(hn:xs.length<=100000)(M:aC):aU (aq bW) 216 [gU (xs.map ic),.ra 217 [.agg [aH c,aH g]]] M=some (aH (qD (sS c g) xs 0),M):=cO (akQ _ c g hn) M
def akO(xs:List fA)(z:Int)(hn:xs.length<=100000):aq bW 216 [gU (xs.map ic),.func 262 [cu 0]] [cv [aH z]]=some (aH (qD (fun x:fA=>x.ar==z) xs 0),[cv [aH z]]) :=
 DL (sz:=3) (e:=jc) fy rfl hn (fun _=>rfl) (fun _=>rfl) rfl rfl fun x _ => .inl ⟨_,_,rfl,uK (p:=0) (vs:=[.agg (jc x)]) rfl (arC x z) rfl rfl rfl rfl rfl rfl rfl rfl rfl⟩
def akI(xs:List fA)(z:Int)(hn:xs.length<=100000):aq bW 185 [gU (xs.map ic),.func 262 [cu 0]] [cv [aH z]]=some (.bool (xs.any (fun x:fA=>x.ar==z)),[cv [aH z]]):=by
 refine aB ?_;have hk:aU (aq bW) 216 [gU (xs.map ic),.func 262 [cu 0]] _=some (aH _,[cv [aH z]]):=ly (ids:=[0]) rfl rfl (WE z) rfl rfl (akO xs z hn) rfl rfl rfl rfl rfl;simp only[Se,aip,hk,xj,EW,seval]
def akP(xs:List fA)(z:Int)(hn:xs.length<=100000):aq bW 216 [gU (xs.map ic),.func 186 [cu 0]] [cv [aH z]]=some (aH (qD (fun x:fA=>x.ar==z) xs 0),[cv [aH z]]) :=
 DL (sz:=3) (e:=jc) fy rfl hn (fun _=>rfl) (fun _=>rfl) rfl rfl fun x _ => .inl ⟨_,_,rfl,uK (p:=0) (vs:=[.agg (jc x)]) rfl (aqK x z) rfl rfl rfl rfl rfl rfl rfl rfl rfl⟩
def akJ(xs:List fA)(z:Int)(hn:xs.length<=100000):aq bW 185 [gU (xs.map ic),.func 186 [cu 0]] [cv [aH z]]=some (.bool (xs.any (fun x:fA=>x.ar==z)),[cv [aH z]]):=by
 refine aB ?_;have hk:aU (aq bW) 216 [gU (xs.map ic),.func 186 [cu 0]] _=some (aH _,[cv [aH z]]):=ly (ids:=[0]) rfl rfl (WE z) rfl rfl (akP xs z hn) rfl rfl rfl rfl rfl;simp only[Se,aip,hk,xj,EW,seval]
def akU(xs:List mY)(u v:Int)(hn:xs.length<=100000):aq bW 299 [gU (xs.map kW),.func 266 [cu 0,cu 1]] [cv [aH u],cv [aH v]]=some (aH (qD (zp u v) xs 0),[cv [aH u],cv [aH v]]) :=
 DL (sz:=3) (e:=iB) fy rfl hn (fun _=>rfl) (fun _=>rfl) rfl rfl fun x _ => .inl ⟨_,_,rfl,ly (ids:=[0,1]) rfl rfl (L9 u v) rfl rfl (arF x u v) rfl rfl rfl rfl rfl⟩
def akT(xs:List mY)(u v:Int)(hn:xs.length<=100000):aq bW 265 [gU (xs.map kW),.func 266 [cu 0,cu 1]] [cv [aH u],cv [aH v]]=some (.bool (xs.any (zp u v)),[cv [aH u],cv [aH v]]):=by
 refine aB ?_;have hk:aU (aq bW) 299 [gU (xs.map kW),.func 266 [cu 0,cu 1]] _=some (aH _,[cv [aH u],cv [aH v]]):=ly (ids:=[0,1]) rfl rfl (L9 u v) rfl rfl (akU xs u v hn) rfl rfl rfl rfl rfl;simp only[ads,ao3,hk,xj,EW,seval]
def arG(xs:List dQ)(ar:Int)(b:Nat)(hb:XI (fun x=>decide (qR x.ar ar<0)) xs b)(hn:xs.length<=100000):aq bW 267 [gU (xs.map gA),aH ar,.func 268 []] []=some (.tuple [aH b,.bool (pn (fun x=>qR x.ar ar==0) xs b)],[]) :=
 Y3 (sz:=3) (e:=iV) fy rfl hb hn (fun _=>rfl) (fun _=>rfl) (.inl ⟨_,_,rfl⟩) rfl rfl rfl rfl rfl (fun _ _ => .inl ⟨_,_,rfl,as3 _ _ _⟩)
def akS(xs:List Node)(ar:Int)(b:Nat)(hb:XI (fun x=>decide (qR x.ar ar<0)) xs b)(hn:xs.length<=100000):aq bW 263 [gU (xs.map bL),aH ar,.func 264 []] []=some (.tuple [aH b,.bool (pn (fun x=>qR x.ar ar==0) xs b)],[]) :=
 Y3 (sz:=6) (e:=aM) fy rfl hb hn (fun _=>rfl) (fun _=>rfl) (.inl ⟨_,_,rfl⟩) rfl rfl rfl rfl rfl (fun _ _ => .inl ⟨_,_,rfl,as2 _ _ _⟩)
def aao{xs:List fA}{c g:Int}{b:Nat}(hb:XI (fun x=>decide (ik x c g<0)) xs b)(hn:xs.length<=100000){k:List K}{r:Option (ag×aC)}
  (hx:∀v q,kr (aq bW) [.tmp 6,.tmp 7] 0 k ⟨.exit 0,[(0,gU (xs.map ic)),(2,.ra 212 [.agg [aH c,aH g]]),(4,cu 0),(8,aH xs.length),(9,aH b),(10,v),(17,q)],[cv [aH c,aH g]]⟩=r) :
  ∀(f i j:Nat),j-i<=f->i<=b->b<=j->j<=xs.length->eX (aq bW) [.tmp 6,.tmp 7] 0 k (.loop [0,2,4,8,9,10] ZX) [(0,gU (xs.map ic)),(2,.ra 212 [.agg [aH c,aH g]]),(4,cu 0),(8,aH xs.length),(9,aH i),(10,aH j)] [cv [aH c,aH g]]=r:=by
 intro f;induction f with
 |zero =>
  intro i j h1 h2 h3 h4;obtain rfl:i=b:=aI;rw[bG];have cL:((i:Int)<(j:Int))=False:=gm;simp only[HT,cL,EW,seval];exact hx _ _
 |succ f ih =>
  intro i j h1 h2 h3 h4;rw[bG]
  by_cases hij:i<j
  ·have cL:((i:Int)<(j:Int))=True:=gm;obtain⟨m1,m2,m3,m4,m5⟩:=V5 i j aI aI;have hmid:(i+j) / 2<xs.length:=aI;have hx:=ai hmid;have hl:=hb.lt _ _ hx;have hk:=fun x:fA=>amw c g c g x [cv [aH c,aH g]]
   simp only[HT,cL,m1,m2,m3,m4,hx,hk,EW,seval];refine bC (fun hq=>?_) (fun hq=>?_)
   ·simp only[HT,m5,EW,seval];exact ih ((i+j) / 2+1) j aI (hl.1 hq) h3 h4
   ·simp only[HT,EW,seval];exact ih i ((i+j) / 2) aI h2 (Nat.not_lt.1 fun h=>by rw[hl.2 h] at hq; cases hq) aI
  ·obtain rfl:i=b:=aI;have cL:((i:Int)<(j:Int))=False:=gm;simp only[HT,cL,EW,seval];exact hx _ _
def aq0(xs:List fA)(c g:Int)(b:Nat)(hb:XI (fun x=>decide (ik x c g<0)) xs b)(hn:xs.length<=100000):aq bW 211 [gU (xs.map ic),.agg [aH c,aH g],.ra 212 [.agg [aH c,aH g]]] []=some (.tuple [aH b,.bool (pn (fun x=>ik x c g==0) xs b)],[]):=by
 refine aB ?_;simp only[acY,HT,EW,seval];refine aao hb hn (fun v q=>?_) xs.length 0 xs.length aI aI hb.le aI
 have hk:=fun x:fA=>amw c g c g x [cv [aH c,aH g]]
 unfold pn
 by_cases cL:b<xs.length
 ·have hx:=ai cL;have h1:((b:Int)<(xs.length:Int))=True:=gm;simp only[HT,hx,h1,hk,EW,seval]
 ·have hx:xs[b]?=none:=gb aI;have h1:((b:Int)<(xs.length:Int))=False:=gm;simp only[HT,hx,h1,EW,seval]
end
end
end Go.Proofs.YteoamaffclmdbaaGreatDoor
