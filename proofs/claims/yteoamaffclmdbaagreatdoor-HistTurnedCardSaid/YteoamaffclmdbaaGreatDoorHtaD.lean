import Derived.OwnWalkIn
import Derived.TacticsInMore
import Derived.LoopIn
import Derived.Maps.AppendAt
import Derived.RangeFuncNested
import Derived.Test.YteoamaffclmdbaaGreatDoorHtaC
set_option linter.all false
open Go.Proofs.Tryz
namespace Go.Proofs.YteoamaffclmdbaaGreatDoor
open Go Go.Abs
def RA:Nat->Option eJ
 |251=>some adv
 |252=>some adw
 |253=>some adx
 |254=>some ady
 |257=>some adz
 |258=>some adA
 |259=>some Su
 |262=>some adB
 |263=>some alA
 |264=>some adC
 |265=>some adE
 |266=>some adF
 |267=>some alB
 |268=>some adG
 |271=>some Na
 |273=>some alD
 |275=>some Nb
 |278=>some adH
 |284=>some adI
 |285=>some adJ
 |287=>some alE
 |299=>some alF
 |302=>some Nc
 |325=>some I4
 |_=>none
def Rz:Nat->Option eJ
 |164=>some acG
 |166=>some acH
 |167=>some acI
 |168=>some acJ
 |169=>some acK
 |170=>some acL
 |171=>some acM
 |172=>some acN
 |173=>some M6
 |174=>some M7
 |175=>some Sg
 |176=>some I1
 |177=>some I2
 |178=>some acO
 |179=>some acP
 |180=>some acQ
 |181=>some acR
 |182=>some Sh
 |183=>some Si
 |184=>some Sj
 |185=>some Sk
 |186=>some acS
 |187=>some acT
 |190=>some acU
 |191=>some acV
 |192=>some acW
 |193=>some acX
 |194=>some acY
 |195=>some Sm
 |196=>some acZ
 |197=>some ac0
 |198=>some I3
 |199=>some ac1
 |200=>some Sn
 |201=>some ac2
 |202=>some ac3
 |203=>some ac4
 |204=>some ac5
 |206=>some ac6
 |208=>some alq
 |209=>some ac7
 |210=>some ac8
 |211=>some ac9
 |212=>some ada
 |213=>some adb
 |216=>some als
 |217=>some ade
 |219=>some adf
 |221=>some adg
 |222=>some adh
 |223=>some adi
 |224=>some adj
 |225=>some adk
 |226=>some adl
 |230=>some Sq
 |232=>some Sr
 |233=>some adm
 |234=>some Ss
 |235=>some adn
 |236=>some M8
 |237=>some M9
 |238=>some ado
 |239=>some adp
 |240=>some adq
 |244=>some St
 |245=>some adr
 |246=>some ads
 |247=>some adt
 |249=>some alx
 |250=>some adu
 |f=>RA f
def Ry:Nat->Option eJ
 |85=>some Ph
 |86=>some al2
 |87=>some al3
 |88=>some al4
 |93=>some afu
 |94=>some Sx
 |95=>some Pj
 |96=>some Sy
 |97=>some Lx
 |98=>some Y6
 |99=>some afv
 |100=>some MS
 |101=>some R4
 |102=>some IW
 |103=>some yF
 |104=>some MT
 |105=>some IX
 |106=>some MU
 |107=>some MV
 |108=>some R5
 |109=>some acd
 |110=>some ace
 |111=>some acf
 |112=>some acg
 |113=>some alk
 |114=>some alm
 |116=>some MW
 |117=>some ach
 |118=>some R6
 |119=>some R7
 |120=>some IY
 |121=>some aci
 |122=>some R8
 |123=>some acj
 |124=>some ack
 |125=>some acm
 |126=>some acn
 |127=>some aco
 |128=>some acp
 |129=>some acq
 |130=>some acr
 |131=>some acs
 |132=>some acu
 |133=>some acv
 |134=>some MX
 |135=>some MY
 |136=>some acw
 |137=>some acx
 |138=>some MZ
 |139=>some IZ
 |140=>some R9
 |141=>some Sa
 |145=>some acy
 |146=>some acz
 |147=>some acA
 |148=>some Sb
 |149=>some acB
 |150=>some acC
 |151=>some acD
 |152=>some acE
 |153=>some yG
 |154=>some Sc
 |155=>some acF
 |156=>some Sd
 |157=>some M1
 |158=>some Se
 |159=>some M4
 |161=>some M5
 |162=>some I0
 |163=>some Sf
 |f=>Rz f
def code:Nat->Option eJ
 |4=>some fn4
 |5=>some fn5
 |6=>some fn6
 |7=>some fn7
 |8=>some fn8
 |9=>some fn9
 |10=>some alj
 |11=>some afk
 |13=>some Y3
 |15=>some afl
 |17=>some aln
 |18=>some alo
 |19=>some afm
 |21=>some alr
 |22=>some alu
 |23=>some alv
 |24=>some alw
 |25=>some aly
 |26=>some alz
 |27=>some alC
 |28=>some uI
 |30=>some afn
 |32=>some alG
 |33=>some alH
 |34=>some alI
 |35=>some alJ
 |37=>some alK
 |38=>some alM
 |39=>some alN
 |40=>some alO
 |41=>some alP
 |42=>some alQ
 |43=>some He
 |44=>some zO
 |45=>some CK
 |46=>some Lv
 |47=>some Sv
 |48=>some Y4
 |49=>some Pe
 |52=>some alR
 |53=>some alS
 |54=>some asb
 |55=>some alT
 |56=>some alU
 |57=>some asd
 |58=>some ase
 |59=>some asf
 |60=>some asg
 |61=>some ash
 |62=>some asi
 |63=>some asj
 |66=>some alV
 |67=>some afp
 |68=>some alW
 |69=>some Y5
 |70=>some alX
 |71=>some alY
 |72=>some alZ
 |73=>some al0
 |74=>some al1
 |75=>some afq
 |76=>some Hf
 |77=>some afr
 |78=>some Fa
 |79=>some Lw
 |80=>some Pf
 |81=>some afs
 |82=>some Pg
 |83=>some aft
 |84=>some Sw
 |f=>Ry f
noncomputable def oX:Nat->Option (List ag->aC->Option (ag×aC))
 |207=>some (wL 3 2 208)
 |272=>some (wL 6 0 273)
 |276=>some (zn)
 |277=>some (JM)
 |286=>some (Af)
 |205=>some (mR 3 32)
 |241=>some (mR 6 80)
 |215=>some (mR 3 24)
 |189=>some (mR 3 24)
 |220=>some (sv 8 96)
 |229=>some (sv 3 24)
 |160=>some (pCC 1 1)
 |283=>some (lJ 6)
 |248=>some (lJ 3)
 |218=>some (sN 3)
 |227=>some (sN 3)
 |242=>some (kZ 6 80)
 |243=>some (kZ 3 32)
 |214=>some (kZ 3 24)
 |228=>some (kZ 3 24)
 |_=>none
noncomputable def bZ:zA:=⟨code,oX⟩
set_option maxRecDepth 100000 in
def tP{f:Nat}{c fn:eJ}{func:Func}{A:CA}(h:some c=some fn)(h1:Tryz.prog.funcs[f]?=some func)(h2:pg Tryz.prog A func=some c):∃ A func,Tryz.prog.funcs[f]?=some func/\pg Tryz.prog A func=some fn:=by
 cases h; exact⟨_,_,h1,h2⟩
def gz{f:Nat}{c fn:eJ}{func:Func}(h:some c=some fn)(h1:Tryz.prog.funcs[f]?=some func)(h2:sR [] func c):∃ A func,Tryz.prog.funcs[f]?=some func/\pg Tryz.prog A func=some fn:=tP h h1 h2
def Rx(f:Nat)(fn:eJ)(h:RA f=some fn):∃A func,Tryz.prog.funcs[f]?=some func/\pg Tryz.prog A func=some fn:=by
 unfold RA at h;split at h
 ·exact gz h func251 fp
 ·exact gz h func252 fp
 ·exact gz h func253 fp
 ·exact gz h func254 fp
 ·exact gz h func257 fp
 ·exact gz h func258 fp
 ·exact gz h func259 fp
 ·exact gz h func262 fp
 ·exact gz h func263 fp
 ·exact gz h func264 fp
 ·exact gz h func265 fp
 ·exact gz h func266 fp
 ·exact gz h func267 fp
 ·exact gz h func268 fp
 ·exact gz h func271 fp
 ·exact gz h func273 fp
 ·exact gz h func275 fp
 ·exact gz h func278 fp
 ·exact gz h func284 fp
 ·exact gz h func285 fp
 ·exact gz h func287 fp
 ·exact gz h func299 fp
 ·exact gz h func302 fp
 ·exact gz h func325 fp
 ·cases h
set_option maxRecDepth 100000 in
def Rv(f:Nat)(fn:eJ)(h:Rz f=some fn):∃A func,Tryz.prog.funcs[f]?=some func/\pg Tryz.prog A func=some fn:=by
 unfold Rz at h;split at h
 ·exact gz h func164 fp
 ·exact gz h func166 fp
 ·exact gz h func167 fp
 ·exact gz h func168 fp
 ·exact gz h func169 fp
 ·exact gz h func170 fp
 ·exact gz h func171 fp
 ·exact gz h func172 fp
 ·exact gz h func173 fp
 ·exact gz h func174 fp
 ·exact tP h func175 anq
 ·exact tP h func176 anr
 ·exact tP h func177 ant
 ·exact gz h func178 fp
 ·exact gz h func179 fp
 ·exact gz h func180 fp
 ·exact gz h func181 fp
 ·exact tP h func182 anu
 ·exact tP h func183 anv
 ·exact tP h func184 anw
 ·exact gz h func185 fp
 ·exact gz h func186 fp
 ·exact gz h func187 fp
 ·exact gz h func190 fp
 ·exact gz h func191 fp
 ·exact gz h func192 fp
 ·exact gz h func193 fp
 ·exact gz h func194 fp
 ·exact tP h func195 anz
 ·exact gz h func196 fp
 ·exact gz h func197 fp
 ·exact gz h func198 fp
 ·exact gz h func199 fp
 ·exact tP h func200 anA
 ·exact gz h func201 fp
 ·exact gz h func202 fp
 ·exact gz h func203 fp
 ·exact gz h func204 fp
 ·exact gz h func206 fp
 ·exact gz h func208 fp
 ·exact gz h func209 fp
 ·exact gz h func210 fp
 ·exact gz h func211 fp
 ·exact gz h func212 fp
 ·exact gz h func213 fp
 ·exact gz h func216 fp
 ·exact gz h func217 fp
 ·exact gz h func219 fp
 ·exact gz h func221 fp
 ·exact gz h func222 fp
 ·exact gz h func223 fp
 ·exact gz h func224 fp
 ·exact gz h func225 fp
 ·exact gz h func226 fp
 ·exact tP h func230 anB
 ·exact tP h func232 anC
 ·exact gz h func233 fp
 ·exact tP h func234 anE
 ·exact gz h func235 fp
 ·exact gz h func236 fp
 ·exact gz h func237 fp
 ·exact gz h func238 fp
 ·exact gz h func239 fp
 ·exact gz h func240 fp
 ·exact tP h func244 anF
 ·exact gz h func245 fp
 ·exact gz h func246 fp
 ·exact gz h func247 fp
 ·exact gz h func249 fp
 ·exact gz h func250 fp
 ·exact Rx _ _ h
set_option maxRecDepth 100000 in
def Ru(f:Nat)(fn:eJ)(h:Ry f=some fn):∃A func,Tryz.prog.funcs[f]?=some func/\pg Tryz.prog A func=some fn:=by
 unfold Ry at h;split at h
 ·exact tP h func85 at5
 ·exact gz h func86 fp
 ·exact gz h func87 fp
 ·exact gz h func88 fp
 ·exact gz h func93 fp
 ·exact gz h func94 fp
 ·exact gz h func95 fp
 ·exact gz h func96 fp
 ·exact gz h func97 fp
 ·exact gz h func98 fp
 ·exact gz h func99 fp
 ·exact gz h func100 fp
 ·exact gz h func101 fp
 ·exact gz h func102 fp
 ·exact tP h func103 anb
 ·exact gz h func104 fp
 ·exact gz h func105 fp
 ·exact gz h func106 fp
 ·exact gz h func107 fp
 ·exact gz h func108 fp
 ·exact gz h func109 fp
 ·exact gz h func110 fp
 ·exact gz h func111 fp
 ·exact gz h func112 fp
 ·exact gz h func113 fp
 ·exact gz h func114 fp
 ·exact gz h func116 fp
 ·exact gz h func117 fp
 ·exact tP h func118 anc
 ·exact tP h func119 ane
 ·exact tP h func120 anf
 ·exact gz h func121 fp
 ·exact tP h func122 ang
 ·exact gz h func123 fp
 ·exact gz h func124 fp
 ·exact gz h func125 fp
 ·exact gz h func126 fp
 ·exact gz h func127 fp
 ·exact gz h func128 fp
 ·exact gz h func129 fp
 ·exact gz h func130 fp
 ·exact gz h func131 fp
 ·exact gz h func132 fp
 ·exact gz h func133 fp
 ·exact gz h func134 fp
 ·exact gz h func135 fp
 ·exact gz h func136 fp
 ·exact gz h func137 fp
 ·exact gz h func138 fp
 ·exact tP h func139 anh
 ·exact gz h func140 fp
 ·exact gz h func141 fp
 ·exact gz h func145 fp
 ·exact gz h func146 fp
 ·exact gz h func147 fp
 ·exact tP h func148 ani
 ·exact gz h func149 fp
 ·exact gz h func150 fp
 ·exact gz h func151 fp
 ·exact gz h func152 fp
 ·exact tP h func153 anj
 ·exact tP h func154 ank
 ·exact gz h func155 fp
 ·exact tP h func156 anl
 ·exact tP h func157 anm
 ·exact tP h func158 ann
 ·exact gz h func159 fp
 ·exact gz h func161 fp
 ·exact tP h func162 ano
 ·exact tP h func163 anp
 ·exact Rv _ _ h
set_option maxRecDepth 100000 in
def ML(f:Nat)(fn:eJ)(h:code f=some fn):∃A func,Tryz.prog.funcs[f]?=some func/\pg Tryz.prog A func=some fn:=by
 unfold code at h;split at h
 ·exact tP h func4 ok4
 ·exact tP h func5 ok5
 ·exact tP h func6 ok6
 ·exact tP h func7 ok7
 ·exact tP h func8 ok8
 ·exact gz h func9 fp
 ·exact gz h func10 fp
 ·exact gz h func11 fp
 ·exact gz h func13 fp
 ·exact tP h func15 atL
 ·exact gz h func17 fp
 ·exact gz h func18 fp
 ·exact tP h func19 atM
 ·exact gz h func21 fp
 ·exact gz h func22 fp
 ·exact gz h func23 fp
 ·exact gz h func24 fp
 ·exact gz h func25 fp
 ·exact gz h func26 fp
 ·exact gz h func27 fp
 ·exact gz h func28 fp
 ·exact tP h func30 atP
 ·exact gz h func32 fp
 ·exact gz h func33 fp
 ·exact gz h func34 fp
 ·exact gz h func35 fp
 ·exact gz h func37 fp
 ·exact gz h func38 fp
 ·exact gz h func39 fp
 ·exact gz h func40 fp
 ·exact gz h func41 fp
 ·exact gz h func42 fp
 ·exact gz h func43 fp
 ·exact tP h func44 atS
 ·exact gz h func45 fp
 ·exact tP h func46 atT
 ·exact tP h func47 atU
 ·exact gz h func48 fp
 ·exact tP h func49 atV
 ·exact gz h func52 fp
 ·exact gz h func53 fp
 ·exact gz h func54 fp
 ·exact gz h func55 fp
 ·exact gz h func56 fp
 ·exact gz h func57 fp
 ·exact gz h func58 fp
 ·exact gz h func59 fp
 ·exact gz h func60 fp
 ·exact gz h func61 fp
 ·exact gz h func62 fp
 ·exact gz h func63 fp
 ·exact gz h func66 fp
 ·exact gz h func67 fp
 ·exact gz h func68 fp
 ·exact gz h func69 fp
 ·exact gz h func70 fp
 ·exact gz h func71 fp
 ·exact gz h func72 fp
 ·exact gz h func73 fp
 ·exact gz h func74 fp
 ·exact gz h func75 fp
 ·exact tP h func76 atW
 ·exact tP h func77 atX
 ·exact tP h func78 atY
 ·exact tP h func79 atZ
 ·exact tP h func80 at0
 ·exact gz h func81 fp
 ·exact tP h func82 at2
 ·exact tP h func83 at3
 ·exact tP h func84 at4
 ·exact Ru _ _ h
def NM(f:Nat)(g:List ag->aC->Option (ag×aC))(h:oX f=some g)(args:List ag)(M:aC)(x:ag×aC)(hx:g args M=some x):lG Tryz.prog f=true/\dr Tryz.prog f args M x:=by
 unfold oX at h;split at h
 ·cases h; exact⟨fu,Xo hx⟩
 ·cases h; exact⟨fu,Xp hx⟩
 ·cases h; exact⟨fu,LC hx⟩
 ·cases h; exact⟨fu,amo hx⟩
 ·cases h; exact⟨fu,Iy hx⟩
 ·cases h; exact⟨fu,OT hx⟩
 ·cases h; exact⟨fu,OV hx⟩
 ·cases h; exact⟨fu,OU hx⟩
 ·cases h; exact⟨fu,OS hx⟩
 ·cases h; exact⟨fu,KW hx⟩
 ·cases h; exact⟨fu,KX hx⟩
 ·cases h; exact⟨fu,ae6 hx⟩
 ·cases h; exact⟨fu,O4 hx⟩
 ·cases h; exact⟨fu,O3 hx⟩
 ·cases h; exact⟨fu,K7 hx⟩
 ·cases h; exact⟨fu,K8 hx⟩
 ·cases h; exact⟨fu,Pt hx⟩
 ·cases h; exact⟨fu,Pu hx⟩
 ·cases h; exact⟨fu,Pr hx⟩
 ·cases h; exact⟨fu,Ps hx⟩
 ·cases h
def ah7:vp Tryz.prog bZ:=⟨ML,NM⟩
abbrev Bytes:=List UInt8
structure gP where
 name:Bytes
 ar:Int
 ak:Int
 deriving DecidableEq,Inhabited
structure Node where
 ar:Int
 kind:Int
 eG:Int
 data:Bytes
 bc:List gP
 up:Int
 deriving DecidableEq,Inhabited
structure Tree where
 ae:List Node
 next:Int
 ak:Int
 deriving DecidableEq,Inhabited
def Node.zero:Node:=⟨0,0,0,[],[],0⟩
def gk(e:gP):List ag:=[.str e.name,.int .i64 e.ar,.int .i64 e.ak]
def iJ(e:gP):ag := .agg (gk e)
abbrev jc(l:List gP):ag := .slice .sh (l.map iJ)
abbrev cX(d:Bytes):ag := .slice .sh (d.map pZ)
def aL(n:Node):List ag:=[.int .i64 n.ar,.int .i64 n.kind,.int .i64 n.eG,cX n.data,jc n.bc,.int .i64 n.up]
def bL(n:Node):ag := .agg (aL n)
abbrev ba(l:List Node):ag := .slice .sh (l.map bL)
def aM(t:Tree):List ag:=[ba t.ae,.int .i64 t.next,.int .i64 t.ak]
def br(t:Tree):ag := .agg (aM t)
structure Small(t:Tree):Prop where
 ae:t.ae.length<=100000
 bc:∀n,n∈t.ae->n.bc.length<=100000
 data:∀n,n∈t.ae->n.data.length<=100000
def Iq(n:Node):(bL n).cells=aL n:=rfl
def KT(e:gP):(iJ e).cells=gk e:=rfl
def LN(n:Node):(aL n).length=6:=rfl
def PD(e:gP):(gk e).length=3:=rfl
def GJ(l:List Node):wid (l.map bL) 6=True:=by
 simp only[fH,jb];intro x hx;obtain⟨n,_,rfl⟩:=eL.1 hx;rfl
def Kg(l:List gP):wid (l.map iJ) 3=True:=by
 simp only[fH,jb];intro x hx;obtain⟨n,_,rfl⟩:=eL.1 hx;rfl
theorem sm(l:Bytes):wid (l.map pZ) 1=True:=by
 simp only[fH,jb];intro x hx;obtain⟨n,_,rfl⟩:=eL.1 hx;rfl
structure Step where
 kind:Nat
 a:Nat
 b:Nat
 n:Nat
 m:Nat
 data:Bytes
def EVN:=bR @Iq (bR @KT (bR @LN (bR @PD (bR @GJ (bR @Kg @sm)))))
def EN:=And.intro EVN EV
section
attribute [local irreducible] eX fJ lu gK eb kr aq aU cq bI
def gU{α:Type}{l:List α}{pre r:List α}{n:α}(h:l=pre++n::r):l[pre.length]?=some n:=by rw[h]; simp
def iQ{α:Type}{l:List α}{pre r:List α}{n:α}(h:l=pre++n::r):((pre.length:Int)<(l.length:Int))=True:=by rw[h]; simp; omega
def jL{α:Type}{l:List α}{pre:List α}(h:l=pre++[]):((pre.length:Int)<(l.length:Int))=False:=by rw[h]; simp
def Xv{α:Type}{pre:List α}{n:α}:((pre.length:Int)+1)=((pre++[n]).length:Int):=dx
def zy{T:Type}(l:List T)(x:T)(h:(l.length:Int)+1<9223372036854775808:=by omega):IntKind.i64.wrap ((l.length:Int)+1)=((l++[x]).length:Int):=by rw[gA aJ aJ]; exact Xv
def find(ae:List Node)(ar:Int):Option Node:=ae.find? fun n=>n.ar==ar
def gX(ae:List Node)(ar:Int):Node×Int:=match find ae ar with
 |none=>(Node.zero,70)
 |some n=>if n.kind=2 then (n,0) else (Node.zero,73)
def gx(l:List gP)(s:Bytes):Option gP:=l.find? fun e=>e.name==s
def tc(b:UInt8):Bool := !(decide ((b.toNat:Int)<32)||((b.toNat:Int)==47))
def fW(s:Bytes):Bool := !(decide ((s.length:Int)<1)||(decide ((s.length:Int)>32)||(s==[46]||s==[46,46])))&&s.all tc
def fh(ae:List Node)(ar:Int)(s:Bytes):Int×Int :=
 if (gX ae ar).2≠0 then (0,(gX ae ar).2) else if fW s=false then (0,60) else match gx (gX ae ar).1.bc s with
  |none=>(0,70)
  |some e=>(e.ar,0)
theorem cH{ae:List Node}{ar:Int}{n:Node}(h:find ae ar=some n):n∈ae/\n.ar=ar:=by
 unfold find at h;exact⟨iG h,by simpa using List.find?_some h⟩
def tI{t:Tree}(hs:Small t)(ar:Int):(gX t.ae ar).1.bc.length<=100000:=by
 unfold gX;split
 ·simp[Node.zero]
 ·rename_i n hn;split
  ·exact hs.bc n (cH hn).1
  ·simp[Node.zero]
def zT:List ag:=[.slice .c0 [],.int .i64 0,.int .i64 0]
def oz(n:Node):List Node->List Node->Bool->List Node×Bool
 | [],out,done=>(out,done)
 |m::r,out,done =>
  oz n r ((if !done&&decide (m.ar>=n.ar) then out++[n] else out)++(if m.ar=n.ar then [] else [m])) (done||decide (m.ar>=n.ar))
def eV(ae:List Node)(n:Node):List Node:=(oz n ae [] false).1++(if (oz n ae [] false).2=true then [] else [n])
def fQ(ae:List Node)(ar:Int):List Node:=ae.filter fun n=>n.ar != ar
def j8(l:List gP)(s:Bytes):List gP:=l.filter fun e=>e.name != s
def dD(ae:List Node)(ar:Int)(s:Bytes):List Node:=eV ae { (find ae ar).getD Node.zero with bc:=j8 ((find ae ar).getD Node.zero).bc s }
abbrev nz(n:Int):Int:=IntKind.i64.wrap n
def gtB(a b:Bytes):Bool := !(strLt a b||a==b)
def vF(e:gP):List gP->List gP->Bool->List gP×Bool
 | [],out,done=>(out,done)
 |m::r,out,done=>vF e r ((if !done&&gtB m.name e.name then out++[e] else out)++[m]) (done||gtB m.name e.name)
def zd(l:List gP)(e:gP):List gP:=(vF e l [] false).1++(if (vF e l [] false).2=true then [] else [e])
def iu(t:Tree)(ar:Int)(s:Bytes)(of:Int):Tree :=
 ⟨eV t.ae { (find t.ae ar).getD Node.zero with bc:=zd ((find t.ae ar).getD Node.zero).bc ⟨s,of,t.ak⟩ },t.next,nz (t.ak+1)⟩
def Qq(ae:List Node)(ar:Int):Int:=((find ae ar).getD Node.zero).up
def wg(ae:List Node):Nat->Int->Nat->Nat
 |0,_,d=>d
 |m+1,ar,d=>if ar=1 then d else wg ae m (Qq ae ar) (d+1)
def pR(ae:List Node)(ar:Int):Nat:=wg ae 201 ar 0
def nn(ae:List Node)(of:Int):Nat->Int->Bool
 |0,_=>false
 |m+1,ar=>if ar=of then true else if ar=1 then false else nn ae of m (Qq ae ar)
def iP(ae:List Node)(ar of:Int):Bool:=nn ae of (ae.length+1) ar
structure Sz(b:Nat)(t:Tree):Prop where
 ae:t.ae.length<=b
 bc:∀n,n∈t.ae->n.bc.length<=b
 data:∀n,n∈t.ae->n.data.length<=100000
def Sz.small{b:Nat}{t:Tree}(h:Sz b t)(hb:b<=100000):Small t:=⟨aY h.ae hb,fun n hn=>aY (h.bc n hn) hb,h.data⟩
def GK(n:Node):∀(l out:List Node)(d:Bool),(oz n l out d).1.length+(if (oz n l out d).2=true then 0 else 1)<=out.length+l.length+(if d then 0 else 1)
 | [],out,d=>by simp only[oz,az,dp]; exact au _
 |m::r,out,d=>by
  rw[oz];refine aY (GK n r _ _) ?_;cases d<;>by_cases h1:n.ar<=m.ar<;>by_cases h2:m.ar=n.ar<;>simp[h1,h2]<;>omega
def GL(n:Node):∀(l out:List Node)(d:Bool)(x:Node),x∈(oz n l out d).1->x=n\/x∈out\/x∈l
 | [],out,d,x,h=>by simp[oz] at h; exact .inr (.inl h)
 |m::r,out,d,x,h=>by
  rw[oz] at h;rcases GL n r _ _ x h with h|h|h
  ·exact .inl h
  ·rcases bq.1 h with h|h
   ·split at h
    ·rcases bq.1 h with h|h
     ·exact .inr (.inl h)
     ·exact .inl (by simpa using h)
    ·exact .inr (.inl h)
   ·split at h
    ·cases h
    ·exact .inr (.inr (by simp at h; simp[h]))
  ·exact .inr (.inr (bt _ h))
def GM(ae:List Node)(n:Node):(eV ae n).length<=ae.length+1:=by
 have:=GK n ae [] false;unfold eV;split at this<;>simp_all
def GN{ae:List Node}{n x:Node}(h:x∈eV ae n):x=n\/x∈ae:=by
 unfold eV at h;rcases bq.1 h with h|h
 ·rcases GL n ae [] false x h with h|h|h
  ·exact .inl h
  ·cases h
  ·exact .inr h
 ·split at h
  ·cases h
  ·exact .inl (by simpa using h)
def Sz.with{b:Nat}{t:Tree}(h:Sz b t){n:Node}(h1:n.bc.length<=b+1)(h2:n.data.length<=100000)(next ak:Int):Sz (b+1) ⟨eV t.ae n,next,ak⟩ :=
 ⟨aY (GM _ _) (by have:=h.ae; simp; omega),fun x hx=>by
  rcases GN hx with rfl|hx
  ·exact h1
  ·exact iZ (h.bc x hx),fun x hx=>by
  rcases GN hx with rfl|hx
  ·exact h2
  ·exact h.data x hx⟩
def Sz.up{b c:Nat}{t:Tree}(h:Sz b t)(hbc:b<=c):Sz c t:=⟨aY h.ae hbc,fun n hn=>aY (h.bc n hn) hbc,h.data⟩
def Sz.find{b:Nat}{t:Tree}(h:Sz b t)(ar:Int):((find t.ae ar).getD Node.zero).bc.length<=b/\((find t.ae ar).getD Node.zero).data.length<=100000:=by
 cases hf:Go.Proofs.YteoamaffclmdbaaGreatDoor.find t.ae ar with
 |none=>simp[Node.zero]
 |some n=>exact⟨h.bc n (cH hf).1,h.data n (cH hf).1⟩
def AW(l:List gP)(s:Bytes):(j8 l s).length<=l.length:=bU _ _
def Sz.left{b:Nat}{t:Tree}(h:Sz b t)(ar:Int)(s:Bytes)(next ak:Int):Sz (b+1) ⟨dD t.ae ar s,next,ak⟩ :=
 h.with (n:={ (Go.Proofs.YteoamaffclmdbaaGreatDoor.find t.ae ar).getD Node.zero with bc:=j8 ((Go.Proofs.YteoamaffclmdbaaGreatDoor.find t.ae ar).getD Node.zero).bc s }) (aY (AW _ _) (iZ (h.find ar).1)) (h.find ar).2 next ak
def Sz.u6{b:Nat}{t:Tree}(h:Sz b t)(ar:Int)(next ak:Int):Sz b ⟨fQ t.ae ar,next,ak⟩ :=
 ⟨aY (bU _ _) h.ae,fun x hx=>h.bc x ((eo.1 hx).1),fun x hx=>h.data x ((eo.1 hx).1)⟩
def DK(t:Tree)(n:Node):Bool:=decide ((64:Int)<=n.bc.length)||(decide ((12:Int)<=pR t.ae n.ar)||decide ((1099511627776:Int)<=t.ak))
def o5(t:Tree)(ar:Int)(s:Bytes):Int :=
 if (gX t.ae ar).2≠0 then (gX t.ae ar).2 else if fW s=false then 60 else if (gx (gX t.ae ar).1.bc s).isSome=true then 71 else if DK t (gX t.ae ar).1 then 76 else 0
def rZ(t:Tree)(ar:Int)(s:Bytes)(kind:Int):Tree×Int×Int :=
 if kind != 1&&kind != 2 then (t,0,1) else if o5 t ar s != 0 then (t,0,o5 t ar s) else
 if decide ((200:Int)<=t.ae.length)||decide ((1099511627776:Int)<=t.next) then (t,0,76) else
 (iu ⟨eV t.ae ⟨t.next,kind,1,[],[],if kind==2 then ar else 0⟩,nz (t.next+1),t.ak⟩ ar s t.next,t.next,0)
abbrev bm(ae:List Node)(ar:Int):Node:=(find ae ar).getD Node.zero
def CL(t:Tree)(ar to:Int)(s:Bytes):Tree×Int :=
 if !(find t.ae ar).isSome||((bm t.ae ar).kind==1&&(bm t.ae ar).eG==0) then (t,70) else if (bm t.ae ar).kind==2 then (t,72) else
 if o5 t to s != 0 then (t,o5 t to s) else
 (iu ⟨eV t.ae { bm t.ae ar with eG:=nz ((bm t.ae ar).eG+1) },t.next,t.ak⟩ to s ar,0)
def fm(ae:List Node)(ar:Int):List Node :=
 if (bm ae ar).kind==2 then fQ ae ar else eV ae { bm ae ar with eG:=nz ((bm ae ar).eG-1) }
def BO(t:Tree)(ar:Int)(s:Bytes):Tree×Int×Int :=
 if (fh t.ae ar s).2 != 0 then (t,0,(fh t.ae ar s).2) else if decide ((0:Int)<(bm t.ae (fh t.ae ar s).1).bc.length) then (t,0,74) else
 (⟨fm (dD t.ae ar s) (fh t.ae ar s).1,t.next,t.ak⟩,(fh t.ae ar s).1,0)
def va(ae:List Node)(kind:Int)(y:Int):Int :=
 if !(find ae y).isSome then 0 else if kind==2&&(bm ae y).kind != 2 then 73 else if kind != 2&&(bm ae y).kind==2 then 72 else if decide ((0:Int)<(bm ae y).bc.length) then 74 else 0
def rT(t:Tree)(ar:Int)(data:Bytes):Tree×Int :=
 if !(find t.ae ar).isSome then (t,70) else if (bm t.ae ar).kind==2 then (t,72) else if decide ((4096:Int)<data.length) then (t,2) else
 (⟨eV t.ae { bm t.ae ar with data:=data },t.next,t.ak⟩,0)
def kH(t:Tree)(ar:Int):Tree×Int :=
 if !(find t.ae ar).isSome then (t,70) else if (bm t.ae ar).kind==2 then (t,72) else if decide ((0:Int)<(bm t.ae ar).eG) then (t,71) else
 (⟨fQ t.ae ar,t.next,t.ak⟩,0)
def wQ:Tree:=⟨[⟨1,2,0,[],[],1⟩],2,1⟩
def sI(ae:List Node)(ar at' d:Int)(n:Node)(dI:Int):Int :=
 if n.kind==2&&iP ae n.ar ar then
  (if (if decide ((0:Int)<n.bc.length) then nz (nz (nz (at'+pR ae n.ar)-d)+1) else nz (nz (at'+pR ae n.ar)-d))>dI
   then (if decide ((0:Int)<n.bc.length) then nz (nz (nz (at'+pR ae n.ar)-d)+1) else nz (nz (at'+pR ae n.ar)-d)) else dI)
 else dI
def wj(ae:List Node)(ar at' d:Int):List Node->Int->Int
 | [],dI=>dI
 |n::r,dI=>wj ae ar at' d r (sI ae ar at' d n dI)
def Ca(ae:List Node)(ar at':Int):Int:=wj ae ar at' (pR ae ar) ae 0
def jh(l:List gP)(s:Bytes):Int:=match gx l s with
 |none=>0
 |some e=>e.ar
def manyN(t:Tree)(km to:Int)(bc:List gP)(kind y ar:Int):Bool :=
 ((y==0&&to != km)&&decide ((64:Int)<=bc.length))||(decide ((12:Int)<=pR t.ae to)||((kind==2&&decide ((12:Int)<Ca t.ae ar (nz (pR t.ae to+1))))||decide ((1099511627776:Int)<=t.ak)))
def ti(t:Tree)(km:Int)(s:Bytes)(to:Int)(nm:Bytes)(ar y:Int):Tree :=
 iu ⟨if (bm t.ae ar).kind==2 then
   eV (if y != 0 then fm (dD (dD t.ae km s) to nm) y else dD t.ae km s) { bm t.ae ar with up:=to }
  else if y != 0 then fm (dD (dD t.ae km s) to nm) y else dD t.ae km s,t.next,t.ak⟩ to nm ar
def wU(t:Tree)(km:Int)(s:Bytes)(to:Int)(nm:Bytes):Tree×Int×Int :=
 if (fh t.ae km s).2 != 0 then (t,0,(fh t.ae km s).2) else
 if (gX t.ae to).2 != 0 then (t,0,(gX t.ae to).2) else
 if !fW nm then (t,0,60) else
 if jh (gX t.ae to).1.bc nm==(fh t.ae km s).1 then (t,0,0) else
 if (bm t.ae (fh t.ae km s).1).kind==2&&iP t.ae to (fh t.ae km s).1 then (t,0,75) else
 if va t.ae (bm t.ae (fh t.ae km s).1).kind (jh (gX t.ae to).1.bc nm) != 0 then (t,0,va t.ae (bm t.ae (fh t.ae km s).1).kind (jh (gX t.ae to).1.bc nm)) else
 if manyN t km to (gX t.ae to).1.bc (bm t.ae (fh t.ae km s).1).kind (jh (gX t.ae to).1.bc nm) (fh t.ae km s).1 then (t,0,76) else
 (ti t km s to nm (fh t.ae km s).1 (jh (gX t.ae to).1.bc nm),jh (gX t.ae to).1.bc nm,0)
def Sz.unnamed{b:Nat}{t:Tree}(h:Sz b t)(ar next ak:Int):Sz (b+1) ⟨fm t.ae ar,next,ak⟩:=by
 unfold fm;split
 ·exact(h.u6 ar next ak).up aJ
 ·exact h.with (n:={ bm t.ae ar with eG:=nz ((bm t.ae ar).eG-1) }) (iZ (h.find ar).1) (h.find ar).2 next ak
structure Step.Ok(s:Step):Prop where
 kind:s.kind<256
 a:s.a<256
 b:s.b<256
 n:s.n<256
 m:s.m<256
 data:s.data.length<=100000
def nameOf(n:Nat):Bytes:=match n % 6 with
 |0=>[97]
 |1=>[98]
 |2=>[99]
 |3=>[100]
 |4=>[101]
 |_=>[46,46]
def wI(t:Tree)(n:Nat):Int:=match t.ae[n % (t.ae.length+1)]? with
 |some m=>m.ar
 |none=>t.next
def ab4(t:Tree)(s:Step):Tree×Int×Int :=
 if ((s.kind % 8:Nat):Int)==0||((s.kind % 8:Nat):Int)==1 then rZ t (wI t s.a) (nameOf s.n) (((s.m % 2:Nat):Int)+1) else
 if ((s.kind % 8:Nat):Int)==2 then ((CL t (wI t s.b) (wI t s.a) (nameOf s.n)).1,0,(CL t (wI t s.b) (wI t s.a) (nameOf s.n)).2) else
 if ((s.kind % 8:Nat):Int)==3 then BO t (wI t s.a) (nameOf s.n) else
 if ((s.kind % 8:Nat):Int)==4||((s.kind % 8:Nat):Int)==5 then wU t (wI t s.a) (nameOf s.n) (wI t s.b) (nameOf s.m) else
 if ((s.kind % 8:Nat):Int)==6 then ((rT t (wI t s.a) s.data).1,0,(rT t (wI t s.a) s.data).2) else
 ((kH t (wI t s.a)).1,0,(kH t (wI t s.a)).2)
def Je(e:gP):∀(l out:List gP)(d:Bool),(vF e l out d).1.length+(if (vF e l out d).2=true then 0 else 1)<=out.length+l.length+(if d then 0 else 1)
 | [],out,d=>by simp only[vF,az,dp]; exact au _
 |m::r,out,d=>by
  rw[vF];refine aY (Je e r _ _) ?_;cases d<;>cases h1:gtB m.name e.name<;>simp<;>omega
def SR(l:List gP)(e:gP):(zd l e).length<=l.length+1:=by
 have:=Je e l [] false;unfold zd;split at this<;>simp_all
def Sz.nL{b:Nat}{t:Tree}(h:Sz b t)(ar:Int)(s:Bytes)(of:Int):Sz (b+1) (iu t ar s of) :=
 h.with (n:={ bm t.ae ar with bc:=zd (bm t.ae ar).bc ⟨s,of,t.ak⟩ }) (aY (SR _ _) (Nat.succ_le_succ (h.find ar).1)) (h.find ar).2 t.next (nz (t.ak+1))
def Sz.add{b:Nat}{t:Tree}(h:Sz b t)(ar:Int)(s:Bytes)(kind:Int):Sz (b+5) (rZ t ar s kind).1:=by
 unfold rZ;split
 ·exact h.up aJ
 ·split
  ·exact h.up aJ
  ·split
   ·exact h.up aJ
   ·exact((h.with (n:=⟨t.next,kind,1,[],[],if kind==2 then ar else 0⟩) dx dx (nz (t.next+1)) t.ak).nL ar s t.next).up aJ
def Sz.ln{b:Nat}{t:Tree}(h:Sz b t)(ar to:Int)(s:Bytes):Sz (b+5) (CL t ar to s).1:=by
 unfold CL;split
 ·exact h.up aJ
 ·split
  ·exact h.up aJ
  ·split
   ·exact h.up aJ
   ·exact((h.with (n:={ bm t.ae ar with eG:=nz ((bm t.ae ar).eG+1) }) (iZ (h.find ar).1) (h.find ar).2 t.next t.ak).nL to s ar).up aJ
def Sz.un{b:Nat}{t:Tree}(h:Sz b t)(ar:Int)(s:Bytes):Sz (b+5) (BO t ar s).1:=by
 unfold BO;split
 ·exact h.up aJ
 ·split
  ·exact h.up aJ
  ·exact((h.left ar s t.next t.ak).unnamed _ t.next t.ak).up aJ
def Sz.put{b:Nat}{t:Tree}(h:Sz b t)(ar:Int)(data:Bytes)(hd:data.length<=100000):Sz (b+5) (rT t ar data).1:=by
 unfold rT;split
 ·exact h.up aJ
 ·split
  ·exact h.up aJ
  ·split
   ·exact h.up aJ
   ·exact(h.with (n:={ bm t.ae ar with data:=data }) (iZ (h.find ar).1) hd t.next t.ak).up aJ
def Sz.free{b:Nat}{t:Tree}(h:Sz b t)(ar:Int):Sz (b+5) (kH t ar).1:=by
 unfold kH;split
 ·exact h.up aJ
 ·split
  ·exact h.up aJ
  ·split
   ·exact h.up aJ
   ·exact(h.u6 ar t.next t.ak).up aJ
def Sz.move{b:Nat}{t:Tree}(h:Sz b t)(km:Int)(s:Bytes)(to:Int)(nm:Bytes)(ar y:Int):Sz (b+5) (ti t km s to nm ar y):=by
 unfold ti;have z1:=h.left km s t.next t.ak
 have z3:=(z1.left to nm t.next t.ak).unnamed y t.next t.ak
 have z:Sz (b+3) ⟨if y != 0 then fm (dD (dD t.ae km s) to nm) y else dD t.ae km s,t.next,t.ak⟩:=by
  split
  ·exact z3
  ·exact z1.up aJ
 split
 ·exact((z.with (n:={ bm t.ae ar with up:=to }) (aY (h.find ar).1 aJ) (h.find ar).2 t.next t.ak).nL to nm ar).up aJ
 ·exact(z.nL to nm ar).up aJ
def Sz.mv{b:Nat}{t:Tree}(h:Sz b t)(km:Int)(s:Bytes)(to:Int)(nm:Bytes):Sz (b+5) (wU t km s to nm).1:=by
 unfold wU
 repeat' split
 all_goals first
  |exact h.up aJ
  |exact h.move km s to nm _ _
def Sz.done{b:Nat}{t:Tree}(h:Sz b t)(s:Step)(hs:s.Ok):Sz (b+5) (ab4 t s).1:=by
 unfold ab4
 repeat' split
 all_goals first
  |exact h.add _ _ _
  |exact h.ln _ _ _
  |exact h.un _ _
  |exact h.mv _ _ _ _
  |exact h.put _ _ hs.data
  |exact h.free _
def Sz.wQ:Sz 1 wQ:=⟨by simp[Go.Proofs.YteoamaffclmdbaaGreatDoor.wQ],fun n hn=>by simp[Go.Proofs.YteoamaffclmdbaaGreatDoor.wQ] at hn; subst hn; simp,fun n hn=>by simp[Go.Proofs.YteoamaffclmdbaaGreatDoor.wQ] at hn; subst hn; simp⟩
end
end Go.Proofs.YteoamaffclmdbaaGreatDoor
namespace Go.Abs
open Go
def A4{C:eR}{fn:List sS}{bS:Nat}{k:List K}{live:List Nat}{body:cG}{α σ ρ:Type}{xs:List α}(hn:xs.length<=1000000)(go:List α->σ->ρ)(E:σ->Int->Env)(M:σ->aC)(R:ρ->Option (ag×aC))
  (hend:∀s,eX C fn bS (.loop live (M s).length body::k) body (jq (E s xs.length) live) (M s)=R (go [] s))
  (hstep:∀(pre:List α)(x:α)(post:List α)(s:σ),xs=pre++x::post->xs[pre.length]?=some x->((pre.length:Int)<xs.length)=True->IntKind.i64.wrap ((pre.length:Int)+1)=(pre.length:Int)+1->((pre.length:Int)<0)=False->x∈xs ->
   (∀s',eX C fn bS k (.loop live body) (E s' ((pre.length:Int)+1)) (M s')=R (go post s'))->eX C fn bS (.loop live (M s).length body::k) body (jq (E s pre.length) live) (M s)=R (go (x::post) s)) :
  ∀s,eX C fn bS k (.loop live body) (E s 0) (M s)=R (go xs s):=by
 have key:∀(l pre:List α)(s:σ),xs=pre++l->eX C fn bS k (.loop live body) (E s pre.length) (M s)=R (go l s):=by
  intro l;induction l with
  |nil =>
   intro pre s h;rw[bG,show pre.length=xs.length by rw[h]; simp]
   exact hend s
  |cons x r ih =>
   intro pre s h;rw[bG];have hl:pre.length+1<=1000000:=by rw[h] at hn; simp at hn; omega
   refine hstep pre x r s h (by rw[h]; simp) (by rw[h]; simp; omega) (gA aJ aJ) dx (by rw[h]; simp) fun s'=>?_
   have:=ih (pre++[x]) s' (by rw[h]; simp)
   simpa using this
 intro s;exact key xs [] s rfl
def je{C:eR}{fn:List sS}{bS:Nat}{k:List K}{live:List Nat}{body:cG}{α σ:Type}{xs:List α}(hn:xs.length<=1000000)(I:Nat->σ->Prop)(E:σ->Int->Env)(M:σ->aC)(Q:ag×aC->Prop)
  (hend:∀s,I xs.length s->∃r,Q r/\eX C fn bS (.loop live (M s).length body::k) body (jq (E s xs.length) live) (M s)=some r)
  (hstep:∀(pre:List α)(x:α)(post:List α)(s:σ),xs=pre++x::post->xs[pre.length]?=some x->((pre.length:Int)<xs.length)=True->IntKind.i64.wrap ((pre.length:Int)+1)=(pre.length:Int)+1->((pre.length:Int)<0)=False->x∈xs->I pre.length s ->
   (∀s',I (pre.length+1) s'->∃r,Q r/\eX C fn bS k (.loop live body) (E s' ((pre.length:Int)+1)) (M s')=some r)->∃r,Q r/\eX C fn bS (.loop live (M s).length body::k) body (jq (E s pre.length) live) (M s)=some r) :
  ∀s,I 0 s->∃r,Q r/\eX C fn bS k (.loop live body) (E s 0) (M s)=some r:=by
 have key:∀(l pre:List α)(s:σ),xs=pre++l->I pre.length s->∃r,Q r/\eX C fn bS k (.loop live body) (E s pre.length) (M s)=some r:=by
  intro l;induction l with
  |nil =>
   intro pre s h hI;have e:pre.length=xs.length:=by rw[h]; simp
   rw[bG,e];exact hend s (by rw[<-e]; exact hI)
  |cons x r ih =>
   intro pre s h hI;rw[bG];have hl:pre.length+1<=1000000:=by rw[h] at hn; simp at hn; omega
   refine hstep pre x r s h (by rw[h]; simp) (by rw[h]; simp; omega) (gA aJ aJ) dx (by rw[h]; simp) hI fun s' hI'=>?_
   have:=ih (pre++[x]) s' (by rw[h]; simp) (by simpa using hI')
   simpa using this
 intro s hI;exact key xs [] s rfl hI
def yn{α:Type}{a b:List α}{m:Nat}(h:a.take m=b.take m){x:α}(hx:a[m]?=some x)(hy:b[m]?=some x):a.take (m+1)=b.take (m+1):=by
 rw[cB,cB,h,hx,hy]
def Av{α:Type}{a b:List α}(hl:a.length=b.length)(h:a.take a.length=b.take a.length):a=b:=by
 rw[bF,hl,bF] at h; exact h
def GC(ds:List Bool)(b:Nat)(d:Bool):iR (ds.map ag.bool) b (putCells (.bool d) 0 [.bool true])=(ds.set b true).map ag.bool:=by
 have:putCells (.bool d) 0 [.bool true] = .bool true:=rfl;rw[this,fe,gh]
def abr(ds:List UInt8)(b:Nat)(d x:UInt8):iR (ds.map pZ) b (putCells (pZ d) 0 [pZ x])=(ds.set b x).map pZ:=by
 have:putCells (pZ d) 0 [pZ x]=pZ x:=rfl;rw[this,fe,gh]
def nr{C:eR}{fn:List sS}{bS:Nat}{k:List K}{live:List Nat}{body:cG}{α σ ρ:Type}{xs:List α}(hn:xs.length<=1000000)(I:Nat->σ->Prop)(go:List α->σ->ρ)(E:σ->Int->Env)(M:σ->aC)(R:ρ->Option (ag×aC))
  (hend:∀s,I xs.length s->eX C fn bS (.loop live (M s).length body::k) body (jq (E s xs.length) live) (M s)=R (go [] s))
  (hstep:∀(pre:List α)(x:α)(post:List α)(s:σ),xs=pre++x::post->xs[pre.length]?=some x->((pre.length:Int)<xs.length)=True->IntKind.i64.wrap ((pre.length:Int)+1)=(pre.length:Int)+1->((pre.length:Int)<0)=False->x∈xs->I pre.length s ->
   (∀s',I (pre.length+1) s'->eX C fn bS k (.loop live body) (E s' ((pre.length:Int)+1)) (M s')=R (go post s'))->eX C fn bS (.loop live (M s).length body::k) body (jq (E s pre.length) live) (M s)=R (go (x::post) s)) :
  ∀s,I 0 s->eX C fn bS k (.loop live body) (E s 0) (M s)=R (go xs s):=by
 have key:∀(l pre:List α)(s:σ),xs=pre++l->I pre.length s->eX C fn bS k (.loop live body) (E s pre.length) (M s)=R (go l s):=by
  intro l;induction l with
  |nil =>
   intro pre s h hI;have e:pre.length=xs.length:=by rw[h]; simp
   rw[bG,e];exact hend s (by rw[<-e]; exact hI)
  |cons x r ih =>
   intro pre s h hI;rw[bG];have hl:pre.length+1<=1000000:=by rw[h] at hn; simp at hn; omega
   refine hstep pre x r s h (by rw[h]; simp) (by rw[h]; simp; omega) (gA aJ aJ) dx (by rw[h]; simp) hI fun s' hI'=>?_
   have:=ih (pre++[x]) s' (by rw[h]; simp) (by simpa using hI')
   simpa using this
 intro s hI;exact key xs [] s rfl hI
def qD{α:Type}(p:α->Bool):List α->Nat->Int
 | [],_ => -1
 |x::r,i=>if p x then (i:Int) else qD p r (i+1)
structure XQ{α:Type}(lt:α->Bool)(l:List α)(b:Nat):Prop where
 le:b<=l.length
 lt:∀h n,l[h]?=some n->(lt n=true↔h<b)
def pn{α:Type}(eq:α->Bool)(l:List α)(b:Nat):Bool:=match l[b]? with
 |some n=>eq n
 |none=>false
def Wc(i j:Nat)(hj:j<=100000)(hi:i<=j):IntKind.i64.wrap ((i:Int)+(j:Int))=((i+j:Nat):Int)/\IntKind.u64.wrap ((i+j:Nat):Int)=((i+j:Nat):Int) /\
  (((i+j:Nat):Int)).fdiv (2 ^ min 1 IntKind.u64.bits)=(((i+j) / 2:Nat):Int)/\IntKind.i64.wrap (((i+j) / 2:Nat):Int)=(((i+j) / 2:Nat):Int)/\IntKind.i64.wrap ((((i+j) / 2:Nat):Int)+1)=(((i+j) / 2+1:Nat):Int):=by
 refine⟨?_,?_,?_,?_,?_⟩
 ·rw[gA aJ aJ]; rfl
 ·have:IntKind.u64.wrap ((i+j:Nat):Int)=((i+j:Nat):Int) % 18446744073709551616:=by simp[IntKind.wrap,IntKind.bits,IntKind.signed]
  rw[this]; omega
 ·have:(2:Int) ^ min 1 IntKind.u64.bits=2:=ml;rw[this,Int.fdiv_eq_ediv_of_nonneg _ aJ]; omega
 ·exact gA aJ aJ
 ·rw[gA aJ aJ]; rfl
def aiP(C:eR)(fv:ag)(M:aC)(vs:List ag)(r:ag):Prop:=(∃g caps,fv = .func g caps/\aU C g (vs++caps) M=some (r,M))\/∃g fs,fv = .qZ g fs/\aU C g (fs++vs) M=some (r,M)
def uX{M:aC}{p:Nat}{b:cL}(h:nth M p=some b):iR M p b=M:=by
 rw[fc] at h; rw[fe];apply cp;intro i
 by_cases e:p=i
 ·subst e; rw[ef (aO h),h]
 ·rw[cQ e]
def cM{C:eR}{f p:Nat}{vs:List ag}{r:ag}{M:aC}{cs:List ag}(hM:nth M p=some (.cells cs))(h:C f (.ptr 0 0::vs) [.cells cs]=some (r,[.cells cs]))(h1:vs.all ag.flat=true:=by exact rfl)(h2:vs.flatMap ag.ids=[]:=by exact rfl)(h3:r.wH=true:=by exact rfl)(h4:vs.map (ag.pq (iB [p]))=vs:=by exact rfl)(h5:r.Aq (wD [p])=r:=by exact rfl)(h6:cs.all ag.vB=true:=by exact rfl)(h7:cs.flatMap ag.nH=[]:=by exact rfl)(h8:cs.map (ag.sk (iB [p]))=cs:=by exact rfl)(h10:cs.map (ag.sk (wD [p]))=cs:=by exact rfl):aU C f (.ptr p 0::vs) M=some (r,M):=by
 have:=tv hM h h1 h2 h3 h4 h5 h6 h7 h8 h6 h10;rwa[uX hM] at this
def lj{C:eR}{f:Nat}{args args':List ag}{M B:aC}{ids:List Nat}{r r':ag}{B' M':aC}(h1:args.all ag.flat=true)(h2:reach M (args.flatMap ag.ids)=ids)(h3:jZ M (iB ids) ids=some B)(h4:kx M ids=ids)
  (h5:args.map (ag.pq (iB ids))=args') (h:C f args' B=some (r,B')) (h6:B'.length=B.length) (h7:r.wH=true) (h8:B'.all cL.flat=true) (h9:r.Aq (wD ids)=r') (h10:mb ids M ids B'=M'):aU C f args M=some (r',M'):=by
 unfold aU;rw[aZ h1,h2,h3];simp only[bO];rw[aZ h4,h5,h];simp only[bO];rw[aZ ⟨h6,h7,h8⟩,h9,h10]
theorem FV{α:Type}(p:α->Bool):∀(l:List α)(i:Nat),decide (0<=qD p l i)=l.any p
 | [],_=>rfl
 |x::r,i=>by
  rw[qD,jR]
  by_cases h:p x=true
  ·grind
  ·simp[h];exact FV p r _
def xj{α:Type}(p:α->Bool)(l:List α):decide (0<=qD p l 0)=l.any p:=FV p l 0
def uM{C:eR}{f p:Nat}{vs:List ag}{r:ag}{M:aC}{cs:List ag}(hM:nth M p=some (.cells cs))(h:C f (vs++[cA 0]) [.cells cs]=some (r,[.cells cs]))(h1:vs.all ag.flat=true)(h2:vs.flatMap ag.ids=[])(h3:r.wH=true)
  (h4:vs.map (ag.pq (iB [p]))=vs) (h5:r.Aq (wD [p])=r) (h6:cs.all ag.vB=true) (h7:cs.flatMap ag.nH=[]) (h8:cs.map (ag.sk (iB [p]))=cs) (h10:cs.map (ag.sk (wD [p]))=cs) :
  aU C f (vs++[cA p]) M=some (r,M):=by
 have hids:(vs++[ag.ptr p 0]).flatMap ag.ids=[p]:=by simp[ag.ids,ag.nH,ag.iK,h2]
 have hi:qz M [p]=[]:=by simp_all [qz,cL.ids]
 have e0:kx M [p]=[p]:=by simp[kx,hi,kb]
 have e1:reach M [p]=[p]:=by
  have ea:kb [] [p]=[p]:=rfl;simp only[reach,ea,e0]
 have hfl:(vs++[ag.ptr p 0]).all ag.flat=true:=by rw[oI,h1]; rfl
 simp_all [aU,jZ,iB,cL.flat,cL.pq,bO,ag.pq,aW,ag.sk,ag.uw,mb,uX]
def SK(sz:Nat):cG := .seq (.region [ob 9 (.bin .lss (.tmp 8) (.tmp 7))] false [0,1,7,8,9]) (.seq (.cond (.tmp 9) .skip (.exit 0)) (.seq (.block 1 (.seq (.region [ob 10 (.mv (.tmp 8)),ob 5 (.mv (.tmp 10))] false [0,1,5,7,8])
 (.seq (.region [ob 11 (.mv (.tmp 1)),ob 12 (.mv (.tmp 0)),ob 13 (.mv (.tmp 5)),ob 14 (.uh sz (.tmp 12) (.tmp 13)),ob 15 (.mP sz (.tmp 14)),ob 16 (.sC (.tmp 11) [.tmp 15])] false [0,1,5,7,8,16]) (.cond (.tmp 16) (.seq (.region [ob 17 (.mv (.tmp 5)),ob 4 (.mv (.tmp 17))] false [4]) .ret) .skip))))
 (.region [ob 18 (.bin .add (.tmp 8) (.tg (.int .i64 1))),ob 8 (.mv (.tmp 18))] false [0,1,7,8])))
def SL(sz:Nat):eJ:=⟨2,[.tmp 4],.seq (.region [ob 4 (.mv (.tg (.int .i64 0)))] false [0,1]) (.seq (.seq (.region [ob 6 (.mv (.tmp 0)),ob 7 (.z6 (.tmp 6)),ob 8 (.mv (.tg (.int .i64 0)))] false [0,1,7,8]) (.block 0 (.loop [0,1,7,8] (SK sz))))
 (.seq (.region [ob 4 (.mv (.tg (.int .i64 (-1))))] false [4]) .ret))⟩
section
variable {T:zA} {f sz:Nat} {α:Type} {e:α->List ag} {xs:List α} {fv:ag} {M:aC}
attribute [local irreducible] eX fJ lu gK eb kr aq aU cq bI
def DN{p:α->Bool}{N:Nat}(hc:T.code f=some (SL sz))(hp:T.oX f=none)(hn:xs.length<=N)(hz:∀x,(e x).length=sz)(hs:∀x,(e x).map ag.shut=e x)(hf:fv.mL M.length M=fv)(hM:M.map (cL.back M.length M)=M)
  (hk:∀x,x∈xs->aiP (aq T) fv M [.agg (e x)] (.bool (p x))) (hN:N<=900000:=by omega):aq T f [gG (xs.map fun x => .agg (e x)),fv] M=some (aF (qD p xs 0),M):=by
 refine aB ?_ hp hc rfl;have ht:∀x,(e x).take sz=e x:=fun x=>bB (by rw[hz]; exact au _)
 simp only[SL,EV,seval];refine nr (xs:=xs) aJ (fun m s=>s=m) (fun l (s:Nat)=>qD p l s) (fun _ i=>[(0,gG (xs.map fun x => .agg (e x))),(1,fv),(7,aF xs.length),(8,aF i)]) (fun _=>M) (fun r=>some (aF r,M)) (fun s hs'=>?_) (fun pre x post s h hx cJ hw h0 hm hI hi=>?_) 0 rfl
 ·simp only[nt (SK.eq_1 sz),qD,bl,hM,bF,EV,seval]
 ·have i1:=hi (pre.length+1) rfl;rw[hI,qD];rcases hk x hm with ⟨g,caps,rfl,hq⟩|⟨g,caps,rfl,hq⟩
  all_goals
   simp only[aG,aP,ag.mL,ag.jW,ag.jG] at hq hf;simp only[nt (SK.eq_1 sz),cJ,hx,hw,h0,hz,ht,hs,hq,EV,seval];refine bA (fun hb=>?_) (fun hb=>?_)
   ·simp only[hb,hM,bF,EV,seval]
   ·simp only[hb,hw,hf,hM,bF,af,EV,seval];exact i1
def bsB(sz:Nat):cG := .seq (.seq (.region [ob 15 (.mv (.tmp 9)),ob 16 (.mv (.tmp 10)),ob 17 (.bin .lss (.tmp 15) (.tmp 16))] false [0,1,2,8,9,10,17]) (.cond (.tmp 17) .skip (.exit 0)))
 (.block 1 (.seq (.region [ob 18 (.mv (.tmp 9)),ob 19 (.mv (.tmp 10)),ob 20 (.bin .add (.tmp 18) (.tmp 19)),ob 21 (.conv .u64 (.tmp 20)),ob 22 (.bin .shr (.tmp 21) (.tg (.int .u64 1))),ob 23 (.conv .i64 (.tmp 22)),ob 11 (.mv (.tmp 23))] false [0,1,2,8,9,10,11])
  (.seq (.region [ob 24 (.mv (.tmp 2)),ob 25 (.mv (.tmp 0)),ob 26 (.mv (.tmp 11)),ob 27 (.uh sz (.tmp 25) (.tmp 26)),ob 28 (.mP sz (.tmp 27)),ob 29 (.mv (.tmp 1)),ob 30 (.sC (.tmp 24) [.tmp 28,.tmp 29]),ob 31 (.bin .lss (.tmp 30) (.tg (.int .i64 0)))] false [0,1,2,8,9,10,11,31])
   (.cond (.tmp 31) (.region [ob 32 (.mv (.tmp 11)),ob 33 (.bin .add (.tmp 32) (.tg (.int .i64 1))),ob 9 (.mv (.tmp 33))] false [0,1,2,8,9,10]) (.region [ob 34 (.mv (.tmp 11)),ob 10 (.mv (.tmp 34))] false [0,1,2,8,9,10])))))
def bsE(sz:Nat):cG := .seq (.region [ob 35 (.mv (.tmp 9)),ob 36 (.mv (.tmp 9)),ob 37 (.mv (.tmp 8)),ob 38 (.bin .lss (.tmp 36) (.tmp 37)),ob 39 (.mv (.tmp 38)),og 40 39 true (.mv (.tmp 2)),og 41 39 true (.mv (.tmp 0)),og 42 39 true (.mv (.tmp 9)),og 43 39 true (.uh sz (.tmp 41) (.tmp 42)),
 og 44 39 true (.mP sz (.tmp 43)),og 45 39 true (.mv (.tmp 1)),og 46 39 true (.sC (.tmp 40) [.tmp 44,.tmp 45]),og 47 39 true (.bin .eql (.tmp 46) (.tg (.int .i64 0))),ob 48 (.pick (.tmp 39) (.tmp 47) (.tg (.bool false))),ob 6 (.mv (.tmp 35)),ob 7 (.mv (.tmp 48))] false [6,7]) .ret
def bsF(sz:Nat):eJ:=⟨3,[.tmp 6,.tmp 7],.seq (.region [ob 6 (.mv (.tg (.int .i64 0))),ob 7 (.mv (.tg (.bool false)))] false [0,1,2]) (.seq (.region [ob 12 (.mv (.tmp 0)),ob 13 (.z6 (.tmp 12)),ob 8 (.mv (.tmp 13))] false [0,1,2,8])
 (.seq (.region [ob 14 (.mv (.tmp 8)),ob 9 (.mv (.tg (.int .i64 0))),ob 10 (.mv (.tmp 14))] false [0,1,2,8,9,10]) (.seq (.block 0 (.loop [0,1,2,8,9,10] (bsB sz))) (bsE sz))))⟩
def Zc{c:α->Int}{key:ag}{b:Nat}(hc:T.code f=some (bsF sz))(hp:T.oX f=none)(hb:XQ (fun x=>decide (c x<0)) xs b)(hn:xs.length<=100000)(hz:∀x,(e x).length=sz)(hs:∀x,(e x).map ag.shut=e x)(hf0:(∃g caps,fv = .func g caps)\/∃g fs,fv = .qZ g fs)(hf:fv.mL M.length M=fv)
  (hM:M.map (cL.back M.length M)=M) (hk1:key.fT=key) (hk2:key.mL M.length M=key) (hk3:key.jo=false) (hk:∀x,x∈xs->aiP (aq T) fv M [.agg (e x),key] (aF (c x))) :
  aq T f [gG (xs.map fun x => .agg (e x)),key,fv] M=some (.tuple [aF b,.bool (pn (fun x=>c x==0) xs b)],M):=by
 refine aB ?_ hp hc rfl;have ht:∀x,(e x).take sz=e x:=fun x=>bB (by rw[hz]; exact au _)
 have hfp:fv.jo=false:=by rcases hf0 with ⟨g,caps,rfl⟩|⟨g,caps,rfl⟩<;>rfl
 simp only[bsF,hk3,hfp,EV,seval]
 have key:∀(n i j:Nat),j-i<=n->i<=b->b<=j->j<=xs.length->eX (aq T) [.tmp 6,.tmp 7] M.length [.block 0,.seq (bsE sz)] (.loop [0,1,2,8,9,10] (bsB sz)) [(0,gG (xs.map fun x => .agg (e x))),(1,key),(2,fv),(8,aF xs.length),(9,aF i),(10,aF j)] M =
   some (.tuple [aF b,.bool (pn (fun x=>c x==0) xs b)],M):=by
  have fin:∀j:Nat,j<=b->eX (aq T) [.tmp 6,.tmp 7] M.length [.block 0,.seq (bsE sz)] (.loop [0,1,2,8,9,10] (bsB sz)) [(0,gG (xs.map fun x => .agg (e x))),(1,key),(2,fv),(8,aF xs.length),(9,aF b),(10,aF j)] M =
    some (.tuple [aF b,.bool (pn (fun x=>c x==0) xs b)],M):=by
   intro j hj;rw[bG];have cJ:((b:Int)<(j:Int))=False:=gm;simp only[nt (bsB.eq_1 sz),bsE,cJ,hk3,hfp,EV,seval];unfold pn
   by_cases cJ:b<xs.length
   ·have hx:=ai cJ;have h1:((b:Int)<(xs.length:Int))=True:=gm;rcases hk _ (aE hx) with ⟨g,caps,rfl,hq⟩|⟨g,caps,rfl,hq⟩
    all_goals
     try simp only[aG,aP] at hq
     simp only[hx,h1,hz,ht,hs,hk1,hk3,hq,hM,bF,EV,seval]
   ·have hx:xs[b]?=none:=fG aJ;have h1:((b:Int)<(xs.length:Int))=False:=gm;simp only[hx,h1,hM,bF,EV,seval]
  intro n;induction n with
  |zero =>
   intro i j h1 h2 h3 h4;obtain rfl:i=b:=aJ;exact fin j aJ
  |succ n ih =>
   intro i j h1 h2 h3 h4
   by_cases hij:i<j
   case neg =>
    obtain rfl:i=b:=aJ;exact fin j aJ
   rw[bG]
   ·have cJ:((i:Int)<(j:Int))=True:=gm;obtain⟨m1,m2,m3,m4,m5⟩:=Wc i j aJ aJ;have hmid:(i+j) / 2<xs.length:=aJ;have hx:=ai hmid;have hl:=hb.lt _ _ hx;rcases hk _ (aE hx) with ⟨g,caps,rfl,hq⟩|⟨g,caps,rfl,hq⟩
    all_goals
     simp only[aG,aP,ag.mL,ag.jW,ag.jG] at hq hf;simp only[nt (bsB.eq_1 sz),cJ,m1,m2,m3,m4,hx,hz,ht,hs,hk1,hk2,hk3,hf,hq,EV,seval];refine bA (fun hq=>?_) (fun hq=>?_)
     ·simp only[m5,hk1,hk2,hk3,hf,hM,bF,EV,seval];exact ih ((i+j) / 2+1) j aJ (hl.1 (by simpa using hq)) h3 h4
     ·simp only[hk1,hk2,hk3,hf,hM,bF,EV,seval];exact ih i ((i+j) / 2) aJ h2 (Nat.not_lt.1 fun h=>by have:=hl.2 h; simp_all) aJ
 exact key xs.length 0 xs.length aJ aJ hb.le aJ
def afi(sz:Nat)(ld:fX->ky)(ne:fX->fX->ky):cG := .seq (.region [ob 14 (.bin .lss (.tmp 13) (.tmp 12))] false [0,1,12,13,14]) (.seq (.cond (.tmp 14) .skip (.exit 0)) (.seq (.block 1 (.seq (.region [ob 15 (.mv (.tmp 13)),ob 5 (.mv (.tmp 15))] false [0,1,5,12,13])
 (.seq (.region [ob 16 (.mv (.tmp 0)),ob 17 (.mv (.tmp 5)),ob 18 (.uh sz (.tmp 16) (.tmp 17)),ob 19 (ld (.tmp 18)),ob 20 (.mv (.tmp 1)),ob 21 (.mv (.tmp 5)),ob 22 (.uh sz (.tmp 20) (.tmp 21)),ob 23 (ld (.tmp 22)),ob 24 (ne (.tmp 19) (.tmp 23))] true [0,1,12,13,24])
  (.cond (.tmp 24) (.seq (.region [ob 4 (.mv (.tg (.bool false)))] false [4]) .ret) .skip))))
 (.region [ob 25 (.bin .add (.tmp 13) (.tg (.int .i64 1))),ob 13 (.mv (.tmp 25))] false [0,1,12,13])))
def alf(sz:Nat)(ld:fX->ky)(ne:fX->fX->ky):eJ:=⟨2,[.tmp 4],.seq (.region [ob 4 (.mv (.tg (.bool false)))] false [0,1])
 (.seq (.seq (.region [ob 6 (.mv (.tmp 0)),ob 7 (.z6 (.tmp 6)),ob 8 (.mv (.tmp 1)),ob 9 (.z6 (.tmp 8)),ob 10 (.bin .neq (.tmp 7) (.tmp 9))] false [0,1,10]) (.cond (.tmp 10) (.seq (.region [ob 4 (.mv (.tg (.bool false)))] false [4]) .ret) .skip))
 (.seq (.seq (.region [ob 11 (.mv (.tmp 0)),ob 12 (.z6 (.tmp 11)),ob 13 (.mv (.tg (.int .i64 0)))] false [0,1,12,13]) (.block 0 (.loop [0,1,12,13] (afi sz ld ne)))) (.seq (.region [ob 4 (.mv (.tg (.bool true)))] false [4]) .ret)))⟩
def DM[DecidableEq α]{e:α->ag}{ld:fX->ky}{ne:fX->fX->ky}{a b:List α}(hc:T.code f=some (alf sz ld ne))(hp:T.oX f=none)(ha:a.length<=100000)(hz:∀x,(e x).cells.length=sz)(hpn:∀x,(e x).jo=false)
  (hb:∀x,(e x).mL 0 []=e x)
  (hl:∀(bp:Env)(M:aC)(t:Nat)(x:α),ib bp t = .jC (e x).cells->ei (aq T) bp M (ld (.tmp t))=some (e x,M))
  (hn:∀(bp:Env)(M:aC)(t u:Nat)(x y:α),ib bp t=e x->ib bp u=e y->ei (aq T) bp M (ne (.tmp t) (.tmp u))=some (.bool (!decide (x=y)),M)) :
  aq T f [gG (a.map e),gG (b.map e)] []=some (.bool (decide (a=b)),[]):=by
 refine aB ?_ hp hc rfl;simp only[alf,EV,seval];refine bA (fun hq=>?_) (fun hq=>?_)
 ·have:decide (a=b)=false:=by
   simp at hq ⊢;rintro rfl; exact hq rfl
  simp only[this,EV,seval]
 have dQ:a.length=b.length:=by simp at hq; omega
 simp only[EV,seval];refine nr (xs:=a) aJ (fun m (_:Unit)=>a.take m=b.take m) (fun _ _=>()) (fun _ i=>[(0,gG (a.map e)),(1,gG (b.map e)),(12,aF a.length),(13,aF i)]) (fun _=>[]) (fun _=>some (.bool (decide (a=b)),[])) (fun _ hI=>?_) (fun pre x post s h hx cJ hw h0 hm hI hi=>?_) () rfl
 ·have:a=b:=Av dQ hI;simp only[nt (afi.eq_1 sz ld ne),il this,bl,EV,seval]
 ·have hlt2:pre.length<b.length:=by rw[<-dQ,h]; simp
  obtain⟨y,hy⟩:∃y,b[pre.length]?=some y:=⟨_,ai hlt2⟩;simp only[nt (afi.eq_1 sz ld ne),cJ,hx,hy,h0,hz,EV,seval];rw[hl _ _ _ x rfl];simp only[hpn,hy,h0,hz,EV,seval];rw[hl _ _ _ y rfl];simp only[hpn,EV,seval];rw[hn _ _ _ _ x y rfl rfl];simp only[EV,seval];refine bA (fun hq=>?_) (fun hq=>?_)
  ·have:decide (a=b)=false:=gr fun hab=>by
    rw[hab,hy] at hx; injection hx with hx; simp[hx] at hq
   simp only[this,EV,seval]
  ·have hxy:x=y:=by simpa using hq
   subst hxy;simp only[hw,EV,seval];exact hi () (yn hI hx hy)
def afh(sz:Nat)(z:List ag):cG := .seq (.region [ob 18 (.bin .lss (.tmp 17) (.tmp 16))] false [1,2,15,16,17,18]) (.seq (.cond (.tmp 18) .skip (.exit 0)) (.seq (.block 1 (.seq
 (.region [ob 19 (.mv (.tmp 17)),ob 20 (.uh sz (.tmp 15) (.tmp 17)),ob 21 (.mP sz (.tmp 20)),ob 8 (.yU z),ob 7 (.mv (.tmp 19)),ox (.store sz (.tmp 8) (.tmp 21))] false [1,2,7,8,15,16,17])
 (.seq (.region [ob 22 (.mv (.tmp 1)),ob 23 (.mv (.tmp 7)),ob 24 (.uh sz (.tmp 22) (.tmp 23)),ob 25 (.mP sz (.tmp 24)),ob 9 (.yU z),ox (.store sz (.tmp 9) (.tmp 25))] false [1,2,8,9,15,16,17])
  (.seq (.region [ob 26 (.mv (.tmp 2)),ob 27 (.mP sz (.tmp 8)),ob 28 (.mP sz (.tmp 9)),ob 29 (.sC (.tmp 26) [.tmp 27,.tmp 28]),ob 30 (.not (.tmp 29))] false [1,2,15,16,17,30]) (.cond (.tmp 30) (.seq (.region [ob 6 (.mv (.tg (.bool false)))] false [6]) .ret) .skip)))))
 (.region [ob 31 (.bin .add (.tmp 17) (.tg (.int .i64 1))),ob 17 (.mv (.tmp 31))] false [1,2,15,16,17])))
def ale(sz:Nat)(z:List ag):eJ:=⟨3,[.tmp 6],.seq (.region [ob 6 (.mv (.tg (.bool false)))] false [0,1,2])
 (.seq (.seq (.region [ob 10 (.mv (.tmp 0)),ob 11 (.z6 (.tmp 10)),ob 12 (.mv (.tmp 1)),ob 13 (.z6 (.tmp 12)),ob 14 (.bin .neq (.tmp 11) (.tmp 13))] false [0,1,2,14]) (.cond (.tmp 14) (.seq (.region [ob 6 (.mv (.tg (.bool false)))] false [6]) .ret) .skip))
 (.seq (.seq (.region [ob 15 (.mv (.tmp 0)),ob 16 (.z6 (.tmp 15)),ob 17 (.mv (.tg (.int .i64 0)))] false [1,2,15,16,17]) (.block 0 (.loop [1,2,15,16,17] (afh sz z)))) (.seq (.region [ob 6 (.mv (.tg (.bool true)))] false [6]) .ret)))⟩
def adN[DecidableEq α]{z:List ag}{g:Nat}{a b:List α}(hc:T.code f=some (ale sz z))(hp:T.oX f=none)(ha:a.length<=100000)(hz:∀x,(e x).length=sz)(hz0:z.length=sz)(hs:∀x,(e x).map ag.shut=e x)
  (hcl:∀x,(e x).all ag.jg=true) (hk:∀x y M,x∈a->aU (aq T) g [.agg (e x),.agg (e y)] M=some (.bool (decide (x=y)),M)) :
  aq T f [gG (a.map fun x => .agg (e x)),gG (b.map fun x => .agg (e x)),.func g []] []=some (.bool (decide (a=b)),[]):=by
 refine aB ?_ hp hc rfl;have ht:∀x,(e x).take sz=e x:=fun x=>bB (by rw[hz]; exact au _)
 have hzd:z.drop sz=[]:=iw aJ;simp only[ale,EV,seval];refine bA (fun hq=>?_) (fun hq=>?_)
 ·have:decide (a=b)=false:=by
   simp at hq ⊢;rintro rfl; exact hq rfl
  simp only[this,EV,seval]
 have dQ:a.length=b.length:=by simp at hq; omega
 simp only[EV,seval];refine nr (xs:=a) aJ (fun m (_:Unit)=>a.take m=b.take m) (fun _ _=>()) (fun _ i=>[(1,gG (b.map fun x => .agg (e x))),(2,.func g []),(15,gG (a.map fun x => .agg (e x))),(16,aF a.length),(17,aF i)]) (fun _=>[]) (fun _=>some (.bool (decide (a=b)),[])) (fun _ hI=>?_) (fun pre x post s h hx cJ hw h0 hm hI hi=>?_) () rfl
 ·have:a=b:=Av dQ hI;simp only[nt (afh.eq_1 sz z),il this,bl,EV,seval]
 ·have hlt2:pre.length<b.length:=by rw[<-dQ,h]; simp
  obtain⟨y,hy⟩:∃y,b[pre.length]?=some y:=⟨_,ai hlt2⟩;simp only[nt (afh.eq_1 sz z),cJ,hx,hy,h0,hz,ht,hs,hcl,hz0,hzd,hk x y _ hm,EV,seval];refine bA (fun hq=>?_) (fun hq=>?_)
  ·have:decide (a=b)=false:=gr fun hab=>by
    rw[hab,hy] at hx; injection hx with hx; simp[hx] at hq
   simp only[this,EV,seval]
  ·have hxy:x=y:=by simpa using hq
   subst hxy;simp only[hw,EV,seval];exact hi () (yn hI hx hy)
structure Stl(b:cL):Prop where
 back:∀B M,b.back B M=b
 flat:b.flat=true
 pq:∀ρ,b.pq ρ=b
 ids:b.ids=[]
def FW{p:α->Bool}:∀ {l:List α} {i:Nat},qD p l i = -1->l.filter (fun x => !p x)=l
 | [],_,_=>rfl
 |x::l,i,h=>by
  rw[qD] at h;split at h
  ·omega
  ·rename_i hx;rw[mF (by simpa using hx),FW h]
def FX{p:α->Bool}:∀ {l:List α} {i:Nat},qD p l i ≠ -1->∃A x U,l=A++x::U/\qD p l i=((i+A.length:Nat):Int)/\l.filter (fun x => !p x)=A++U.filter fun x => !p x
 | [],_,h=>absurd rfl h
 |x::l,i,h=>by
  rw[qD] at h ⊢;split
  ·rename_i hx; exact⟨[],x,l,rfl,rfl,by rw[List.filter_cons_of_neg (by simpa using hx)]; rfl⟩
  ·rename_i hx;rw[aR hx] at h;obtain⟨A,y,U,h1,h2,h3⟩:=FX h;exact⟨x::A,y,U,by rw[h1]; rfl,by rw[h2]; simp; omega,by rw[mF (by simpa using hx),h3]; rfl⟩
def dlB(sz:Nat)(z:List ag):cG := .seq (.seq (.region [ob 16 (.mv (.tmp 6)),ob 17 (.mv (.tmp 0)),ob 18 (.z6 (.tmp 17)),ob 19 (.bin .lss (.tmp 16) (.tmp 18))] false [0,1,5,6,19]) (.cond (.tmp 19) .skip (.exit 0)))
 (.seq (.block 1 (.seq (.region [ob 22 (.mv (.tmp 0)),ob 23 (.mv (.tmp 6)),ob 24 (.uh sz (.tmp 22) (.tmp 23)),ob 25 (.mP sz (.tmp 24)),ob 7 (.yU z),ox (.store sz (.tmp 7) (.tmp 25))] false [0,1,5,6,7])
  (.seq (.region [ob 26 (.mv (.tmp 1)),ob 27 (.mP sz (.tmp 7)),ob 28 (.sC (.tmp 26) [.tmp 27]),ob 29 (.not (.tmp 28))] false [0,1,5,6,7,29])
   (.cond (.tmp 29) (.seq (.region [ob 30 (.mv (.tmp 0)),ob 31 (.mv (.tmp 5)),ob 32 (.mP sz (.tmp 7)),ob 33 (.uh sz (.tmp 30) (.tmp 31)),ox (.store sz (.tmp 33) (.tmp 32))] false [0,1,5,6]) (.region [ob 34 (.mv (.tmp 5)),ob 35 (.bin .add (.tmp 34) (.tg (.int .i64 1))),ob 5 (.mv (.tmp 35))] false [0,1,5,6])) .skip))))
 (.region [ob 20 (.mv (.tmp 6)),ob 21 (.bin .add (.tmp 20) (.tg (.int .i64 1))),ob 6 (.mv (.tmp 21))] false [0,1,5,6]))
def dlF(sz:Nat)(z zc:List ag)(gi:Nat):eJ:=⟨2,[.tmp 4],.seq (.region [ob 4 (.mv (.tg (.slice .c0 [])))] false [0,1])
 (.seq (.region [ob 8 (.mv (.tmp 0)),ob 9 (.mv (.tmp 1)),ob 10 (.call gi [.tmp 8,.tmp 9]),ob 5 (.mv (.tmp 10))] false [0,1,5])
 (.seq (.seq (.region [ob 11 (.mv (.tmp 5)),ob 12 (.bin .eql (.tmp 11) (.tg (.int .i64 (-1))))] false [0,1,5,12]) (.cond (.tmp 12) (.seq (.region [ob 13 (.mv (.tmp 0)),ob 4 (.mv (.tmp 13))] false [4]) .ret) .skip))
 (.seq (.seq (.region [ob 14 (.mv (.tmp 5)),ob 15 (.bin .add (.tmp 14) (.tg (.int .i64 1))),ob 6 (.mv (.tmp 15))] false [0,1,5,6]) (.block 0 (.loop [0,1,5,6] (dlB sz z))))
 (.seq (.region [ob 36 (.mv (.tmp 0)),ob 37 (.mv (.tmp 5)),ob 38 (.uA sz (.tmp 36) (some (.tmp 37)) none none),ox (.xd sz zc (.tmp 38))] false [0,5])
 (.seq (.region [ob 39 (.mv (.tmp 0)),ob 40 (.mv (.tmp 5)),ob 41 (.uA sz (.tmp 39) none (some (.tmp 40)) none),ob 4 (.mv (.tmp 41))] false [4]) .ret)))))⟩
def afx{p:α->Bool}{X:cL}{g:Nat}(hc:T.code f=some (SL sz))(hp:T.oX f=none)(hn:xs.length<=100000)(hz:∀x,(e x).length=sz)(hs:∀x,(e x).map ag.shut=e x)(hX:Stl X)
  (hk:∀x b M,aU (aq T) g [.agg (e x),cA 1] (b::X::M)=some (.bool (p x),b::X::M)) :
  aq T f [.cD 0 0 sz 0 xs.length,.func g [cA 1]] [.arr sz 0 (xs.map fun x => .agg (e x)),X]=some (aF (qD p xs 0),[.arr sz 0 (xs.map fun x => .agg (e x)),X]):=by
 refine aB ?_ hp hc rfl;have ht:∀x,(e x).take sz=e x:=fun x=>bB (by rw[hz]; exact au _)
 simp only[SL,bP,EV,seval];refine nr (xs:=xs) aJ (fun m s=>s=m) (fun l (s:Nat)=>qD p l s) (fun _ i=>[(0,.cD 0 0 sz 0 xs.length),(1,.func g [cA 1]),(7,aF xs.length),(8,aF i)]) (fun _=>[.arr sz 0 (xs.map fun x => .agg (e x)),X]) (fun r=>some (aF r,[.arr sz 0 (xs.map fun x => .agg (e x)),X])) (fun s hs'=>?_) (fun pre x post s h hx cJ hw h0 hm hI hi=>?_) 0 rfl
 ·simp only[nt (SK.eq_1 sz),qD,bl,hX.back,EV,seval]
 ·have i1:=hi (pre.length+1) rfl;rw[hI,qD];have hl2:((pre.length:Int)<((xs.length-0:Nat):Int))=True:=cJ;simp only[nt (SK.eq_1 sz),cJ,hl2,hx,hw,h0,hz,ht,hs,hk,hX.back,EV,seval];refine bA (fun hb=>?_) (fun hb=>?_)
  ·simp only[hb,hX.back,EV,seval]
  ·simp only[hb,hw,hX.back,af,EV,seval];exact i1
def aeZ{C:eR}{X:cL}(hX:Stl X){g n:Nat}{row:List ag}{r:Int}(h:C f [.cD 0 0 sz 0 n,.func g [cA 1]] [.arr sz 0 row,X]=some (aF r,[.arr sz 0 row,X])) :
  aU C f [.cD 0 0 sz 0 n,.func g [cA 1]] [.arr sz 0 row,X]=some (aF r,[.arr sz 0 row,X]):=by
 have a1:(cL.arr sz 0 row).ids=[]:=rfl;have a2:(cL.arr sz 0 row).flat=true:=rfl;have a3:∀ρ,(cL.arr sz 0 row).pq ρ = .arr sz 0 row:=fun _=>rfl
 have e1:qz [.arr sz 0 row,X] [0,1]=[]:=by simp[qz,nth,a1,hX.ids]
 have e2:kx [.arr sz 0 row,X] [0,1]=[0,1]:=by simp[kx,e1,kb]
 have e3:reach [.arr sz 0 row,X] [0,1]=[0,1]:=by
  have ea:kb [] [0,1]=[0,1]:=rfl;simp only[reach,ea,e2]
 have e4:[ag.cD 0 0 sz 0 n,.func g [cA 1]].flatMap ag.ids=[0,1]:=rfl;have e5:jZ [.arr sz 0 row,X] (iB [0,1]) [0,1]=some [.arr sz 0 row,X]:=by simp[jZ,nth,hX.flat,hX.pq,a2,a3]
 have e6:[ag.cD 0 0 sz 0 n,.func g [cA 1]].map (ag.pq (iB [0,1]))=[.cD 0 0 sz 0 n,.func g [cA 1]]:=rfl;unfold aU;rw[aZ (show[ag.cD 0 0 sz 0 n,.func g [cA 1]].all ag.flat=true from rfl),e4,e3,e5,bO,aZ e2,e6,h,bO,aZ ⟨rfl,rfl,by simp[a2,hX.flat]⟩]
 simp[mb,iR,hX.pq,a3,ag.Aq,ag.pq,ag.sk,ag.uw]
def afc{p:α->Bool}{X:cL}{g N:Nat}{z:List ag}{k:List K}{R:List α->List α->Option (ag×aC)}(hN:N<=100000)(hz:∀x,(e x).length=sz)(hz0:z.length=sz)(hs:∀x,(e x).map ag.shut=e x)(hpl:∀x,(e x).all ag.plainCell=true)(hcl:∀x,(e x).all ag.jg=true)(hX:Stl X)
  (hk:∀x b M,aU (aq T) g [.agg (e x),cA 1] (b::X::M)=some (.bool (p x),b::X::M))
  (hx:∀(A G:List α) v q,A.length+G.length=N->G≠[]->kr (aq T) [.tmp 4] 2 k ⟨.exit 0,[(0,.cD 0 0 sz 0 N),(1,.func g [cA 1]),(5,aF A.length),(6,v),(19,q)],[.arr sz 0 ((A++G).map fun x => .agg (e x)),X]⟩=R A G) :
  ∀(U A G:List α),A.length+G.length+U.length=N->G≠[]->∃G',A.length+(U.filter fun x => !p x).length+G'.length=N/\eX (aq T) [.tmp 4] 2 k (.loop [0,1,5,6] (dlB sz z)) [(0,.cD 0 0 sz 0 N),(1,.func g [cA 1]),(5,aF A.length),(6,aF ((A.length+G.length:Nat):Int))] [.arr sz 0 ((A++G++U).map fun x => .agg (e x)),X] =
   R (A++U.filter fun x => !p x) G':=by
 have ht:∀x,(e x).take sz=e x:=fun x=>bB (by rw[hz]; exact au _)
 have hzd:z.drop sz=[]:=iw aJ;intro U;induction U with
 |nil =>
  intro A G hl hg;have cJ:(((A.length+G.length:Nat):Int)<((N-0:Nat):Int))=False:=by simp only[fH,iff_false]; simp at hl ⊢; omega
  refine⟨G,by simpa using hl,?_⟩
  rw[bG];simp only[nt (dlB.eq_1 sz z),cJ,dg,kL,EV,seval];exact hx A G _ _ (by simpa using hl) hg
 |cons x U ih =>
  intro A G hl hg;simp only[aw] at hl;have cJ:(((A.length+G.length:Nat):Int)<((N-0:Nat):Int))=True:=su;have hnn:((0:Int)<=((A.length+G.length:Nat):Int))=True:=su
  have hat:(A++G++x::U)[A.length+G.length]?=some x:=by
   rw[bj dx]; simp
  have hw:IntKind.i64.wrap (((A.length+G.length:Nat):Int)+1)=((A.length+G.length+1:Nat):Int):=by rw[gA aJ aJ]; omega
  have hw1:IntKind.i64.wrap ((A.length:Int)+1)=((A.length+1:Nat):Int):=by rw[gA aJ aJ]; omega
  obtain⟨g0,G0,hG⟩:=fj hg;have hga:(A++G++x::U)[A.length]?=some g0:=by rw[hG]; simp
  have hset:(A++G++x::U).set A.length x=(A++[x])++(G0++[x])++U:=by rw[hG]; simp
  have hlt2:((A.length:Int)<((N-0:Nat):Int))=True:=su
  have hput:iR ((A++G++x::U).map fun x=>ag.agg (e x)) A.length (putCells (.agg (e g0)) 0 (e x))=((A++[x])++(G0++[x])++U).map fun x=>ag.agg (e x):=by
   have:putCells (.agg (e g0)) 0 (e x) = .agg (e x):=by simp[putCells,mT,hz,iw]
   rw[this,fe,<-hset,gh]
  rw[bG];cases hb:p x
  ·obtain⟨G',h0,h1⟩:=ih (A++[x]) (G0++[x]) (by rw[hG] at hl; simp at hl ⊢; omega) dx
   have hl1:(((A++[x]).length+(G0++[x]).length:Nat):Int)=((A.length+G.length+1:Nat):Int):=by rw[hG]; simp; omega
   have hl3:((A++[x]).length:Int)=((A.length+1:Nat):Int):=dx;have hf:(x::U).filter (fun x => !p x)=x::U.filter fun x => !p x:=mF (by simpa using hb)
   rw[hl1,hl3] at h1;refine⟨G',by rw[hf]; simp at h0 ⊢; omega,?_⟩
   rw[hf,show A++x::U.filter (fun x => !p x)=A++[x]++U.filter fun x => !p x by simp,<-h1]
   simp only[nt (dlB.eq_1 sz z),cJ,hnn,hat,hz,hz0,hzd,ht,hs,hcl,hk,hb,hlt2,hga,hput,hpl,hw,hw1,hX.back,EV,seval]
   done
  ·obtain⟨G',h0,h1⟩:=ih A (G++[x]) gm dx;have hl2:((A.length+(G++[x]).length:Nat):Int)=((A.length+G.length+1:Nat):Int):=gm;have hf:(x::U).filter (fun x => !p x)=U.filter fun x => !p x:=List.filter_cons_of_neg (by simpa using hb)
   rw[hl2,show A++(G++[x])++U=A++G++x::U by simp] at h1
   refine⟨G',by rw[hf]; exact h0,?_⟩
   rw[hf,<-h1];simp only[nt (dlB.eq_1 sz z),cJ,hnn,hat,hz,hz0,hzd,ht,hs,hcl,hk,hb,hw,hX.back,EV,seval]
   done
def Dw(sz m:Nat):ag:=if m=0 then .slice .sh [] else .cD 0 0 sz 0 m
def adM{p:α->Bool}{X:cL}{g gi:Nat}{z zc:List ag}{zx:α}(hc:T.code f=some (dlF sz z zc gi))(hp:T.oX f=none)(hci:T.code gi=some (SL sz))(hpi:T.oX gi=none)(hzx:e zx=zc)(hn:xs.length<=100000)(hz:∀x,(e x).length=sz)(hz0:z.length=sz)(h1:1<sz)(hs:∀x,(e x).map ag.shut=e x)
  (hpl:∀x,(e x).all ag.plainCell=true) (hcl:∀x,(e x).all ag.jg=true) (hX:Stl X) (hk:∀x b M,aU (aq T) g [.agg (e x),cA 1] (b::X::M)=some (.bool (p x),b::X::M)) (h0:xs≠[]) :
  aq T f [.cD 0 0 sz 0 xs.length,.func g [cA 1]] [.arr sz 0 (xs.map fun x => .agg (e x)),X] =
   some (Dw sz (xs.filter fun x => !p x).length,[.arr sz 0 (((xs.filter fun x => !p x)++List.replicate (xs.length-(xs.filter fun x => !p x).length) zx).map fun x => .agg (e x)),X]):=by
 have qi:=aeZ hX (afx hci hpi hn hz hs hX hk);refine aB ?_ hp hc rfl
 by_cases hi:qD p xs 0 = -1
 ·have hl:xs.length≠0:=fun hh=>h0 (dz.1 hh)
  have hb:(qD p xs 0 == -1)=true:=by simpa using hi
  rw[FW hi];simp only[dlF,qi,hb,hX.back,EV,seval];simp[Dw,hl]
 ·obtain⟨A,x,U,q1,q2,q3⟩:=FX hi;have hb:(qD p xs 0 == -1)=false:=by simpa using hi
  simp only[aK] at q2;have dQ:xs.length=A.length+(U.length+1):=by rw[q1]; simp
  have hw:IntKind.i64.wrap ((A.length:Int)+1)=((A.length+[x].length:Nat):Int):=by rw[gA aJ aJ]; simp
  have e1:A++[x]++U=xs:=by rw[q1]; simp
  rw[q2] at hb qi;rw[q3];simp only[dlF,qi,hb,hw,hX.back,EV,seval]
  have hx:∀(A' G:List α) v q,A'.length+G.length=xs.length->G≠[]->kr (aq T) [.tmp 4] 2 [.block 0,.seq (.seq (.region [ob 36 (.mv (.tmp 0)),ob 37 (.mv (.tmp 5)),ob 38 (.uA sz (.tmp 36) (some (.tmp 37)) none none),ox (.xd sz zc (.tmp 38))] false [0,5]) (.seq (.region [ob 39 (.mv (.tmp 0)),ob 40 (.mv (.tmp 5)),ob 41 (.uA sz (.tmp 39) none (some (.tmp 40)) none),ob 4 (.mv (.tmp 41))] false [4]) .ret))] ⟨.exit 0,[(0,.cD 0 0 sz 0 xs.length),(1,.func g [cA 1]),(5,aF A'.length),(6,v),(19,q)],[.arr sz 0 ((A'++G).map fun x => .agg (e x)),X]⟩ =
    some (Dw sz A'.length,[.arr sz 0 ((A'++List.replicate (xs.length-A'.length) zx).map fun x => .agg (e x)),X]):=by
   intro A' G v q hl hg;have hgl:G.length≠0:=fun hh=>hg (dz.1 hh)
   have b1:(((A'.length:Nat):Int)<=(xs.length:Int))=True:=su;have b2:(((A'.length:Nat):Int)==(xs.length:Int))=false:=gm;have hN:(A'++G).length=xs.length:=gm;have hd:xs.length-A'.length=G.length:=aJ;have hz0:Int.toNat ((0:Nat):Int)=0:=rfl;have hb0:((0:Int)<=((A'.length:Nat):Int))=True:=dx;have hzl:zc.length=sz:=by rw[<-hzx]; exact hz zx
   have hzp:zc.all ag.plainCell=true:=by rw[<-hzx]; exact hpl zx
   have hcl2:((A'++G).map fun x=>ag.agg (e x)).take A'.length++(List.replicate G.length (ag.agg zc)++((A'++G).map fun x=>ag.agg (e x)).drop xs.length)=(A'++List.replicate G.length zx).map fun x=>ag.agg (e x):=by
    rw[<-hN,iw dx];simp[fO,gY,hzx]
   by_cases hA:A'.length=0
   ·have b3:((0:Int)==((A'.length:Nat):Int))=true:=by simp[hA]
    simp only[gD,bP,dU,b1,b2,hd,hcl2,b3,hz0,hb0,hzl,hzp,hX.back,EV,seval];simp[Dw,hA]
   ·have b3:((0:Int)==((A'.length:Nat):Int))=false:=gm;simp only[gD,bP,dU,b1,b2,hd,hcl2,b3,hz0,hb0,hzl,hzp,hX.back,EV,seval];simp[Dw,hA]
  obtain⟨G',g1,g2⟩:=afc (R:=fun A' G=>some (Dw sz A'.length,[.arr sz 0 ((A'++List.replicate (xs.length-A'.length) zx).map fun x => .agg (e x)),X])) hn hz hz0 hs hpl hcl hX hk hx U A [x] gm dx
  rw[e1] at g2;simp only[ob,ox,aA,aw,az,aK] at g2;exact g2
end
end Go.Abs
namespace Go.Proofs.YteoamaffclmdbaaGreatDoor
section
open Go Go.Abs
attribute [local irreducible] eX fJ lu gK eb kr aq aU cq bI
def tkN(n:Node):List.take 6 (aL n)=aL n:=rfl
def shN(n:Node):List.map ag.shut (aL n)=aL n:=rfl
def tkE(n:gP):List.take 3 (gk n)=gk n:=rfl
def shE(n:gP):List.map ag.shut (gk n)=gk n:=rfl
def arO(a:Int):aq bZ 257 [aF a] []=some (.bool false,[]):=by
 refine aB ?_;simp only[adz,apf,av,EN,seval]
def atc a:=cP (arO a)
def qQ(a b:Int):Int:=if decide (a<b) then -1 else if decide (b<a) then 1 else 0
def ard(a b:Int):aq bZ 209 [aF a,aF b] []=some (aF (qQ a b),[]):=by
 refine aB ?_;simp only[ac7,aiG,atc,EN,seval]
 repeat' ((first|apply bA|apply bV|apply dP)<;>intro hb<;>simp only[hb,EN,aiG,seval])
 all_goals (simp_all only[qQ,qB,↓reduceIte,reduceCtorEq,av]; done)
def Zl a b:=cP (ard a b)
def x5(a b:Int):(qQ a b<0)=(a<b):=by
 unfold qQ
 by_cases h1:a<b
 ·simp[h1]
 ·by_cases h2:b<a<;>simp[h1,h2]
theorem G5(a b:Int):(qQ a b==0)=(a==b):=by
 unfold qQ
 by_cases h1:a<b
 ·have:¬a=b:=aJ;simp[h1,this]
 ·by_cases h2:b<a
  ·have:¬a=b:=aJ;simp[h1,h2,this]
  ·have:a=b:=aJ;simp[this]
def arZ(n:Node)(ar:Int):aq bZ 278 [.agg (aL n),aF ar] []=some (aF (qQ n.ar ar),[]):=by
 refine aB ?_;simp only[adH,apn,bL,aL,Zl,EN,seval]
def ati n ar:=cP (arZ n ar)
structure Yi(ae:List Node)(ar:Int)(b:Nat):Prop where
 le:b<=ae.length
 lt:∀h n,ae[h]?=some n->(n.ar<ar↔h<b)
def Ji(ae:List Node)(ar:Int)(b:Nat):Bool:=match ae[b]? with
 |some n=>n.ar==ar
 |none=>false
def arS(ae:List Node)(ar:Int)(b:Nat)(hb:Yi ae ar b)(hn:ae.length<=100000):aq bZ 263 [ba ae,aF ar,.func 278 []] []=some (.tuple [aF b,.bool (Ji ae ar b)],[]):=by
 have h:=Zc (f:=263) (sz:=6) (T:=bZ) (c:=fun n:Node=>qQ n.ar ar) (e:=aL) (fv := .func 278 []) (key := aF ar) (M:=[]) fu rfl ⟨hb.le,fun h n hn=>by simp only[x5,bh]; exact hb.lt h n hn⟩ hn (fun _=>rfl) (fun _=>rfl) (.inl ⟨_,_,rfl⟩) rfl rfl rfl rfl rfl fun _ _ => .inl ⟨_,_,rfl,ati _ _ _⟩
 simp only[G5] at h;rw[show Ji ae ar b=pn (fun x=>x.ar==ar) ae b by unfold Ji pn; cases ae[b]?<;>rfl]
 exact h
def ate ae ar b hb hn:=cP (arS ae ar b hb hn)
def oZ(ae:List Node):Prop:=ae.Pairwise fun a b=>a.ar<b.ar
def mh(ae:List Node)(ar:Int):Nat:=(ae.takeWhile fun n=>decide (n.ar<ar)).length
def uV{ae:List Node}(h:oZ ae)(ar:Int):Yi ae ar (mh ae ar):=by
 unfold mh;induction ae with
 |nil=>exact⟨dx,fun h n hn=>by simp at hn⟩
 |cons a r ih =>
  obtain⟨h1,h2⟩:=du.1 h;obtain⟨i1,i2⟩:=ih h2
  by_cases ha:a.ar<ar
  ·rw[iz,aZ (by simpa using ha)]
   refine⟨by simpa using i1,fun k n hn=>?_⟩
   cases k with
   |zero=>simp at hn; subst hn; simp[ha]
   |succ k=>rw[i2 k n (by simpa using hn)]; simp
  ·rw[iz,aR (by simpa using ha)]
   refine⟨dx,fun k n hn=>?_⟩
   simp only[az,jJ,iff_false];cases k with
   |zero=>simp at hn; subst hn; exact ha
   |succ k =>
    have:=h1 n (aE (by simpa using hn))
    omega
def tu{ae:List Node}(h:oZ ae)(ar:Int):(Ji ae ar (mh ae ar)=true/\∃n,ae[mh ae ar]?=some n/\find ae ar=some n/\n.ar=ar)\/(Ji ae ar (mh ae ar)=false/\find ae ar=none):=by
 obtain⟨l1,l2⟩:=uV h ar;cases hf:find ae ar with
 |some n =>
  left;obtain⟨hm,he⟩:=cH hf;obtain⟨k,hk⟩:=bX hm;have hkb:¬k<mh ae ar:=fun hc=>by have:=(l2 k n hk).2 hc; omega
  have hb:mh ae ar<ae.length:=by have:=(aj.1 hk).1; omega
  have hx:=ai hb;have hnl:¬ae[mh ae ar].ar<ar:=fun hc=>ig _ ((l2 _ _ hx).1 hc)
  have hke:k=mh ae ar:=by
   rcases bC (mh ae ar) k with cJ|hge
   ·have hkl:=(aj.1 hk).1;have h3:=cm.1 h _ _ hb hkl cJ;have h4:ae[k]=n:=by rw[ai hkl] at hk; injection hk
    rw[h4] at h3;omega
   ·omega
  subst hke;exact⟨by unfold Ji; rw[hk]; simp[he],n,hk,rfl,he⟩
 |none =>
  right;refine⟨?_,rfl⟩;unfold Ji;split
  ·rename_i n hn;have:=fx.1 hf n (aE hn);simpa using this
  ·rfl
def arE(ae:List Node)(next ak ar:Int)(h:oZ ae)(hn:ae.length<=100000):aq bZ 240 [cA 0,aF ar] [cC [ba ae,aF next,aF ak]] =
  some (.tuple [aF (mh ae ar),.bool (Ji ae ar (mh ae ar))],[cC [ba ae,aF next,aF ak]]):=by
 refine aB ?_;have hk:=ate ae ar _ (uV h ar) hn;simp only[adq,ao9,hk,EN,seval]
def afR ae next ak ar h hn p M hM:=cM (p:=p) (M:=M) hM (arE ae next ak ar h hn)
def c194(ae:List Node)(next ak ar:Int)(h:oZ ae)(hn:ae.length<=100000):aq bZ 194 [cA 0,aF ar] [cC [ba ae,aF next,aF ak]] =
  some (.tuple [bL (bm ae ar),.bool (find ae ar).isSome],[cC [ba ae,aF next,aF ak]]):=by
 refine aB ?_;have hk:=fun M=>afR ae next ak ar h hn 0 (cC [ba ae,aF next,aF ak]::M) rfl
 simp only[acY,aen,hk,EN,seval];rcases tu h ar with ⟨h1,n,h2,h3,h4⟩|⟨h1,h2⟩
 ·simp only[aen,h1,h2,h3,bm,aL,EN,seval];rfl
 ·simp only[aen,h1,h2,bm,EN,seval];rfl
def Fe ae next ak ar h hn p M hM:=cM (p:=p) (M:=M) hM (c194 ae next ak ar h hn)
def aq6(ae:List Node)(next ak ar:Int)(h:oZ ae)(hn:ae.length<=100000):aq bZ 197 [cA 0,aF ar] [cC [ba ae,aF next,aF ak]] =
  some (.tuple [bL (gX ae ar).1,aF (gX ae ar).2],[cC [ba ae,aF next,aF ak]]):=by
 refine aB ?_;have hk:=fun M=>Fe ae next ak ar h hn 0 (cC [ba ae,aF next,aF ak]::M) rfl
 simp only[ac0,Yb,hk,bL,aL,EN,seval];unfold gX;cases hf:find ae ar with
 |none=>simp only[Yb,bm,hf,Option.isSome,EN,seval]; first|done|rfl
 |some n =>
  simp only[Yb,bm,hf,Option.isSome,bz,EN,seval]
  repeat' ((first|apply bA|apply bV|apply dP)<;>intro hb<;>simp only[hb,EN,Yb,seval])
  all_goals (clear hk; simp_all [Node.zero])
def Zk ae next ak ar h hn p M hM:=cM (p:=p) (M:=M) hM (aq6 ae next ak ar h hn)
end
section
open Go
set_option maxRecDepth 100000 in
def MM{s pre r:List UInt8}{n:UInt8}(h:s=pre++n::r) :
  (n.toNat<128/\Utf8.decode ⟨s.toArray⟩ pre.length=(n.toNat,1)) \/
  ∃c m r',n::r=m++r'/\m≠[]/\(∀b,b∈m->128<=b.toNat)/\128<=c/\c<2147483648/\Utf8.decode ⟨s.toArray⟩ pre.length=(c,m.length):=by
 have hg:∀k,(⟨s.toArray⟩:ByteArray).get! (pre.length+k)=(n::r).getD k 0:=fun k=>by
  subst h
  show((pre++n::r).toArray)[pre.length+k]! = _
  simp only[List.getElem!_toArray,List.getElem!_eq_getElem?_getD,lf];rw[bj aJ,iY];rfl
 have hsz:(⟨s.toArray⟩:ByteArray).size=pre.length+(n::r).length:=by
  show s.toArray.size=_
  subst h; simp
 by_cases hn:n.toNat<128
 ·refine .inl ⟨hn,?_⟩;have h0:=hg 0;simp only[dp,List.getD_cons_zero] at h0;simp[Utf8.decode,h0,hn]
 ·refine .inr ?_;have hn':128<=n.toNat:=aJ;have h0:=hg 0;have h1:=hg 1;have h2:=hg 2;have h3:=hg 3;simp only[dp,List.getD_cons_zero,List.getD_cons_succ] at h0 h1 h2 h3
  have one:∀c,128<=c->c<2147483648->Utf8.decode ⟨s.toArray⟩ pre.length=(c,1)->∃c m r',n::r=m++r'/\m≠[]/\(∀b,b∈m->128<=b.toNat)/\128<=c/\c<2147483648/\Utf8.decode ⟨s.toArray⟩ pre.length=(c,m.length) :=
   fun c hc hc2 hd=>⟨c,[n],r,rfl,dx,by simpa using hn',hc,hc2,hd⟩
  have big:∀k,k<r.length->128<=(r.getD k 0).toNat->∃b,r[k]?=some b/\128<=b.toNat:=fun k hk hb=>by
   refine⟨r[k],ai hk,?_⟩;simpa[lf,ai hk] using hb
  have cJ:¬n.toNat<0x80:=aJ;have hN:n.toNat<256:=n.toNat_lt;unfold Utf8.decode at one ⊢;simp only[dp,h0,h1,h2,h3,hsz,aw,cJ,aD] at one ⊢
  by_cases hA:(n.toNat / 32==6&&(decide (pre.length+1<pre.length+(r.length+1))&&(r.getD 0 0).toNat / 64==2))=true
  ·simp only[hA,aI] at one ⊢;simp only[bw,eu,bh] at hA;obtain⟨hA1,hA2,hA3⟩:=hA
   by_cases hc:n.toNat % 32*64+(r.getD 0 0).toNat % 64>=0x80
   ·simp only[hc,aI] at one ⊢;obtain⟨b0,g0,g1⟩:=big 0 aJ aJ
    match r,g0 with
    |_::r',g0 =>
     cases g0;exact⟨_,[n,_],r',rfl,dx,by simp[hn',g1],hc,aJ,rfl⟩
   ·simp only[hc,aD] at one ⊢;exact one _ ml ml rfl
  ·simp only[hA,aD] at one ⊢
   by_cases hB:(n.toNat / 16==14&&(decide (pre.length+1<pre.length+(r.length+1))&&(r.getD 0 0).toNat / 64==2)&&(decide (pre.length+2<pre.length+(r.length+1))&&(r.getD 1 0).toNat / 64==2))=true
   ·simp only[hB,aI] at one ⊢;simp only[bw,eu,bh] at hB;obtain⟨⟨hB1,hB2,hB3⟩,hB4,hB5⟩:=hB
    by_cases hc:((n.toNat % 16*4096+(r.getD 0 0).toNat % 64*64+(r.getD 1 0).toNat % 64>=0x800:Bool)&&Utf8.valid ((n.toNat % 16*4096+(r.getD 0 0).toNat % 64*64+(r.getD 1 0).toNat % 64:Nat):Int))=true
    ·simp only[hc,aI] at one ⊢;simp only[bw,bh] at hc;obtain⟨b0,g0,g1⟩:=big 0 aJ aJ;obtain⟨b1,k0,k1⟩:=big 1 aJ aJ
     match r,g0,k0 with
     |_::_::r',g0,k0 =>
      cases g0;cases k0;exact⟨_,[n,_,_],r',rfl,dx,by simp[hn',g1,k1],aJ,aJ,rfl⟩
    ·simp only[hc,aD] at one ⊢;exact one _ ml ml rfl
   ·simp only[hB,aD] at one ⊢
    by_cases hC:(n.toNat / 8==30&&(decide (pre.length+1<pre.length+(r.length+1))&&(r.getD 0 0).toNat / 64==2)&&(decide (pre.length+2<pre.length+(r.length+1))&&(r.getD 1 0).toNat / 64==2)&&(decide (pre.length+3<pre.length+(r.length+1))&&(r.getD 2 0).toNat / 64==2))=true
    ·simp only[hC,aI] at one ⊢;simp only[bw,eu,bh] at hC;obtain⟨⟨⟨hB1,hB2,hB3⟩,hB4,hB5⟩,hB6,hB7⟩:=hC
     by_cases hc:((n.toNat % 8*262144+(r.getD 0 0).toNat % 64*4096+(r.getD 1 0).toNat % 64*64+(r.getD 2 0).toNat % 64>=0x10000:Bool)&&Utf8.valid ((n.toNat % 8*262144+(r.getD 0 0).toNat % 64*4096+(r.getD 1 0).toNat % 64*64+(r.getD 2 0).toNat % 64:Nat):Int))=true
     ·simp only[hc,aI] at one ⊢;simp only[bw,bh] at hc;obtain⟨b0,g0,g1⟩:=big 0 aJ aJ;obtain⟨b1,k0,k1⟩:=big 1 aJ aJ;obtain⟨b2,l0,l1⟩:=big 2 aJ aJ
      match r,g0,k0,l0 with
      |_::_::_::r',g0,k0,l0 =>
       cases g0;cases k0;cases l0;exact⟨_,[n,_,_,_],r',rfl,dx,by simp[hn',g1,k1,l1],aJ,aJ,rfl⟩
     ·simp only[hc,aD] at one ⊢;exact one _ ml ml rfl
    ·simp only[hC,aD] at one ⊢;exact one _ ml ml rfl
end
section
open Go Go.Abs
section
attribute [local irreducible] eX fJ lu gK eb kr aq aU cq bI
def pk(_:Bytes):Prop:=True
def all_true{m:Bytes}(h:∀b,b∈m->128<=b.toNat):m.all tc=true:=by
 rw[bN];intro b hb;have:=h b hb;have h1:¬((b.toNat:Int)<32):=aJ;have h2:¬((b.toNat:Int)=47):=aJ;simp[tc,h1,h2]
def aav{s:Bytes}(hs:s.length<=100000)(ha:pk s){k:List K}{R:Bool->Option (ag×aC)}
  (hx:∀e p,kr (aq bZ) [.tmp 2] 0 k ⟨.exit 0,e,[.nW s p]⟩=R true) (hr:∀p,kr (aq bZ) [.tmp 2] 0 k ⟨.ret,[(2,.bool false)],[.nW s p]⟩=R false) :
  ∀(q:Nat)(l pre:Bytes),l.length<=q->s=pre++l->eX (aq bZ) [.tmp 2] 0 k (.loop [21] Ns) [(21,.j7 0)] [.nW s pre.length]=R (l.all tc):=by
 intro q;induction q with
 |zero =>
  intro l pre hq h;have h0:l=[]:=dH aJ;subst h0;rw[bG];have cJ:(pre.length<s.length)=False:=by rw[h]; simp
  simp only[wM,cJ,EN,seval];exact hx _ _
 |succ q ih =>
  intro l pre hq h;cases l with
  |nil =>
   rw[bG];have cJ:(pre.length<s.length)=False:=by rw[h]; simp
   simp only[wM,cJ,EN,seval];exact hx _ _
  |cons n r =>
   rw[bG];have cJ:(pre.length<s.length)=True:=by rw[h]; simp
   rcases MM h with ⟨hn,hd⟩|⟨c,m,r',hm,hne,hb,hc,hc2,hd⟩
   ·have hi:=ih r (pre++[n]) (by simp at hq; omega) (by rw[h]; simp)
    simp only[aA,aw,az,aK] at hi;simp only[wM,cJ,hd,EN,seval]
    repeat' ((first|apply bA|apply bV|apply dP)<;>intro hb<;>simp only[hb,wM,hd,EV,seval])
    all_goals first
     |(refine(hr _).trans ?_; congr 1; symm; clear hi ih hx hr hd h; simp_all [tc]; done)
     |(refine hi.trans ?_; congr 1; symm; clear hi ih hx hr hd h; simp_all [tc]; done)
   ·have hml:0<m.length:=gS.2 hne;have hl2:(n::r).length=m.length+r'.length:=by rw[hm]; simp
    have hi:=ih r' (pre++m) (by simp at hq hl2; omega) (by rw[h,hm]; simp)
    simp only[aA] at hi;have h32:decide ((c:Int)<32)=false:=gm;have h47:((c:Int)==47)=false:=by rw[ke]; omega
    rw[hm,oI,all_true hb,cN];simp only[wM,cJ,hd,h32,h47,EN,seval];exact hi
def c198(s:Bytes)(hs:s.length<=100000)(ha:pk s):aq bZ 198 [.str s] []=some (.bool (fW s),[]):=by
 refine aB ?_;simp only[I3,wM,EN,seval];have hl:=fun k hx hr=>aav (k:=k) (R:=fun b=>some (ag.bool b,[])) hs ha hx hr s.length s [] (au _) rfl
 have he:(s==[])=decide ((s.length:Int)<1):=by cases s<;>simp; omega
 rw[he]
 repeat' ((first|apply bA|apply bV|apply dP)<;>intro hb<;>simp only[hb,EN,wM,seval])
 all_goals first
  |(clear hl he; simp_all [fW]; done)
  |(refine(hl _ (fun e p=>by simp only[wM,EN,seval]) (fun p=>by simp only[wM,EN,seval])).trans ?_; clear hl he; simp_all [fW]; done)
def afO s hs ha:=cP (c198 s hs ha)
def atj(a b:Bytes)(M:aC):aU (aq bZ) 286 [.str a,.str b] M=some (aF (Lib.compareBytes a b),M) :=
 cO (fg (g:=Af) rfl rfl) M
def arK(a b:Bytes):aq bZ 251 [.str a,.str b] []=some (aF (Lib.compareBytes a b),[]):=by
 refine aB ?_;simp only[adv,apd,atj,EN,seval]
def as8 a b:=cP (arK a b)
def MJ:∀(a b:Bytes),(Lib.compareBytes a b<0)=(strLt a b=true)
 | [],[]=>by simp[Lib.compareBytes,strLt]
 | [],_::_=>by simp[Lib.compareBytes,strLt]
 |_::_,[]=>by simp[Lib.compareBytes,strLt]
 |a::x,b::y=>by
  rw[Lib.compareBytes,strLt]
  by_cases h1:a<b
  ·simp[h1]
  ·by_cases h2:b<a
   ·have h3:¬a=b:=by rintro rfl; exact oS _ h2
    simp[h1,h2,h3]
   ·have h3:a=b:=by rw[<-kM]; simp only[kX] at h1 h2; omega
    subst h3;simp[h1,MJ x y]
def MI:∀(a b:Bytes),(Lib.compareBytes a b==0)=(a==b)
 | [],[]=>by simp[Lib.compareBytes]
 | [],_::_=>by simp[Lib.compareBytes]
 |_::_,[]=>by simp[Lib.compareBytes]
 |a::x,b::y=>by
  rw[Lib.compareBytes]
  by_cases h1:a<b
  ·have h3:¬a=b:=by rintro rfl; exact oS _ h1
   simp[h1,h3]
  ·by_cases h2:b<a
   ·have h3:¬a=b:=by rintro rfl; exact oS _ h2
    simp[h1,h2,h3]
   ·have h3:a=b:=by rw[<-kM]; simp only[kX] at h1 h2; omega
    subst h3;simp only[h1,aD,MI x y];simp
def arJ(e:gP)(s:Bytes):aq bZ 250 [.agg (gk e),.str s] []=some (aF (Lib.compareBytes e.name s),[]):=by
 refine aB ?_;simp only[adu,apc,iJ,gk,as8,EN,seval]
def as7 e s:=cP (arJ e s)
structure Ov(bc:List gP)(s:Bytes)(b:Nat):Prop where
 le:b<=bc.length
 lt:∀h n,bc[h]?=some n->(strLt n.name s=true↔h<b)
def zY(bc:List gP)(s:Bytes)(b:Nat):Bool:=match bc[b]? with
 |some n=>n.name==s
 |none=>false
def arI(bc:List gP)(s:Bytes)(b:Nat)(hb:Ov bc s b)(hn:bc.length<=100000):aq bZ 249 [jc bc,.str s,.func 250 []] []=some (.tuple [aF b,.bool (zY bc s b)],[]):=by
 have h:=Zc (f:=249) (sz:=3) (T:=bZ) (c:=fun n:gP=>Lib.compareBytes n.name s) (e:=gk) (fv := .func 250 []) (key := .str s) (M:=[]) fu rfl ⟨hb.le,fun h n hn=>by simp only[MJ,bh]; exact hb.lt h n hn⟩ hn (fun _=>rfl) (fun _=>rfl) (.inl ⟨_,_,rfl⟩) rfl rfl rfl rfl rfl fun _ _ => .inl ⟨_,_,rfl,as7 _ _ _⟩
 simp only[MI] at h;rw[show zY bc s b=pn (fun x=>x.name==s) bc b by unfold zY pn; cases bc[b]?<;>rfl]
 exact h
def as6 bc s b hb hn:=cP (arI bc s b hb hn)
def ri(l:List gP):Prop:=l.Pairwise fun a b=>strLt a.name b.name=true
def mw(l:List gP)(s:Bytes):Nat:=(l.takeWhile fun n=>strLt n.name s).length
def aq7(n:Node)(s:Bytes)(b:Nat)(hb:Ov n.bc s b)(hn:n.bc.length<=100000):aq bZ 199 [bL n,.str s] []=some (.tuple [aF b,.bool (zY n.bc s b)],[]):=by
 refine aB ?_;have hk:=as6 n.bc s b hb hn;simp only[ac1,aoV,bL,aL,hk,EN,seval]
def S2(a b c:Int)(d:Bytes)(e:List gP)(u:Int)(s:Bytes)(i:Nat)(hb:Ov e s i)(hn:e.length<=100000)(M:aC):aU (aq bZ) 199 [.agg [aF a,aF b,aF c,cX d,jc e,aF u],.str s] M=some (.tuple [aF i,.bool (zY e s i)],M) :=
 cO (aq7 ⟨a,b,c,d,e,u⟩ s i hb hn) M
end
section
open Go.RowKit Go.Shelf
def Fp{α:Type}(b0:Nat)(F:Fence)(n:Nat)(P:Program)(g:Nat)(lb:Array Value)(encs:α->Array Value)(Kp:World->World->Prop)(S Sp:List α->Prop)(N:Nat)(w:World):Prop :=
 ∀(l:Nat)(J Jx:List α->World->Prop)(W:World),Below w.heap.size w W->AbidesFrom W.heap.size J->AbidesFrom W.heap.size Jx->(∀s A v,J s A->J s (A.setCell ⟨b0,0,none⟩ v)) ->
  (∀pre x W1,J pre W1->pre.length<N->YieldAt F (n-1) P l (encs x) W1 fun e W' =>
   (e = .returned (.bool true)/\J (pre++[x]) W'/\Kp W1 W')\/(e = .returned (.bool false)/\Jx (pre++[x]) W')) ->
  J [] W ->
  CallsIn F n P g (#[.func (.yield l) #[] #[]]++lb) W fun e W'=>(∃v,e = .returned v)/\((∃xs,S xs/\J xs W')\/(∃pre,Sp pre/\Jx pre W'))
def yv{F:Fence}{n:Nat}{P:Program}{b0:Nat}{α:Type}{g:Operand}{ps:Array Tmp}{assign body:Code}{Q:Exit->Act->World->Prop}{a:Act}{w:World}(hb0w:b0<w.heap.size)
  (hro:F.round=none) (h1:1<=n) {gf:Nat} {lb:Array Value} (hg:a.eval g = .func (.func gf) #[] lb) (hFg:F.fn gf) (eg:∀args w,(callFunc gf args).run P w = .ok (.enter gf args) w)
  {encs:α->Array Value} {Kp:World->World->Prop} {S Sp:List α->Prop} {N:Nat} {w0:World} (hseq:Fp b0 F (n-1) P gf lb encs Kp S Sp N w0)
  (hKt:∀ {A B C:World},Kp A B->Kp B C->Kp A C) (hKb:∀(W:World)(l:Nat)(o o':Obj),w.heap.size<=l->W.heap[l]?=some o->o.isCells=false->o.isWalk=false->Kp W (W.putObj l o')) (hb0:Below w0.heap.size w0 w) (hps:∀x,(encs x).size=ps.size)
  (I:List α->World->Prop) (Ix:Code->List α->World->Prop) (hI:OwnFrom w.heap.size I) (hIx:∀c,OwnFrom w.heap.size (Ix c)) (hIc:∀s A v,I s A->I s (A.setCell ⟨b0,0,none⟩ v)) (h0:I [] w) (a₁:α->Act)
  (hassign:∀(l:Nat)(x:α)(W:World)(K:Act->World->Prop),K (a₁ x) W ->
   assign.wpIn (F.inRound l) (n-1-1) P (Exit.then K (fun _ _ _=>False)) { tmps:=(ps.zip (encs x)).foldl (fun t (p,v)=>t.setIfInBounds p v) a.tmps,defers:=[] } W)
  (hbody:∀(l:Nat)(pre:List α)(x:α)(W:World),I pre W->pre.length<N->body.wpIn (F.inRound l) (n-1-1) P (ownPostK Kp I Ix (pre++[x]) W) (a₁ x) W)
  (hdone:∀(D:Nat)(xs:List α)(W:World),w.heap.size<=D->S xs->I xs W->W.heap[D]?=some (.deferred (some []))->Q .normal { a with defers:={ target := .collected D,args := #[] }::a.defers } W)
  (hstop:∀(D:Nat)(c:Code)(pre:List α)(W:World),w.heap.size<=D->Sp pre->Ix c pre W->W.heap[D]?=some (.deferred (some []))->c.wpIn F n P Q { a with defers:={ target := .collected D,args := #[] }::a.defers } W) :
  (Code.rangeFunc g ps assign body).wpIn F n P Q a w:=by
 refine wpIn_rangeFunc ?_;intro fn hfn;rw[hro];obtain⟨rec,hrec⟩:∃rec:LoopState->Option Code->Loop,rec=fun st pe=>{ state:=st,pending:=pe,fn,tmps:=a.tmps,params:=ps,assign,body,defers:=w.heap.size }:=⟨_,rfl⟩
 obtain⟨W1,hW1⟩:∃W1,(w.alloc (.deferred (some []))).alloc (.loop (rec .ready none))=W1:=⟨_,rfl⟩
 have hL1:W1.heap[w.heap.size+1]?=some (.loop (rec .ready none)):=by
  rw[<-hW1]; have:=World.alloc_heap_new (w.alloc (.deferred (some []))) (.loop (rec .ready none)); rwa[World.size_alloc] at this
 have hK1:W1.heap[w.heap.size]?=some (.deferred (some [])):=by
  rw[<-hW1]; exact(Below.heap_alloc _ _ _ dx).trans (World.alloc_heap_new w _)
 have hI1:I [] W1:=by rw[<-hW1]; exact hI.alloc _ (hI.alloc _ h0)
 have hb1:Below w0.heap.size w0 W1:=by
  rw[<-hW1]; exact hb0.trans ((((Below.refl _ w).alloc (au _) _).alloc dx _).mono hb0.size)
 refine⟨w.heap.size+1,[{ target := .collected w.heap.size,args := #[] }],W1,{ target := .fn (.func gf) lb,args := #[.func (.yield (w.heap.size+1)) #[] #[]] },W1,gf,
  #[.func (.yield (w.heap.size+1)) #[] #[]]++lb,W1,?_,?_,?_,?_,fun _=>h1,?_⟩
 ·rw[<-hW1,hrec]; exact run_enterLoop_outer _ _ _ _ _
 ·simp only[resolve,hg];simp[go_sem]
 ·intro f' hf'; simp[Target.leads] at hf'; subst hf'; exact hFg
 ·simp[invoke,go_sem,eg]
 ·have hnw:∀ {A B:World} {row:Option Nat},(∀r,row=some r->W1.heap.size<=r/\∃o:Obj,A.heap[r]?=some o/\o.isWalk=true)->(∀r,row=some r->w.heap.size<=r/\∃o:Obj,A.heap[r]?=some o/\o.isCells=false) :=
   fun hr r e=>by obtain⟨hB,o,ho,hw⟩:=hr r e; exact⟨by rw[<-hW1] at hB; simp at hB; omega,o,ho,Obj.not_cells_of_walk hw⟩
  refine(hseq (w.heap.size+1)
   (fun pre W=>I pre W/\W.heap[w.heap.size+1]?=some (.loop (rec .ready none))/\W.heap[w.heap.size]?=some (.deferred (some [])))
   (fun pre W=>∃c,Ix c pre W/\W.heap[w.heap.size+1]?=some (.loop (rec .done (some c)))/\W.heap[w.heap.size]?=some (.deferred (some [])))
   W1 hb1
   (fun s A B row hs hg' hr=>⟨hI s A B row hs.1 hg' (hnw (B:=B) hr),(grownBy_keeps hg' (fun r e=>(hr r e).2) hs.2.1 rfl).trans hs.2.1,(grownBy_keeps hg' (fun r e=>(hr r e).2) hs.2.2 rfl).trans hs.2.2⟩)
   (fun s A B row hs hg' hr=>by
    obtain⟨c,hc,hl,hk⟩:=hs;exact⟨c,hIx c s A B row hc hg' (hnw (B:=B) hr),(grownBy_keeps hg' (fun r e=>(hr r e).2) hl rfl).trans hl,(grownBy_keeps hg' (fun r e=>(hr r e).2) hk rfl).trans hk⟩)
   (fun s A v hs=>⟨hIc s A v hs.1,(Below.heap_setCell _ _ _ _ (by show _≠b0; omega)).trans hs.2.1,(Below.heap_setCell _ _ _ _ (by show _≠b0; omega)).trans hs.2.2⟩)
   ?_ ⟨hI1,hL1,hK1⟩).mono ?_
  ·rintro pre x W ⟨hi,hl,hk⟩ dQ;have cJ:w.heap.size+1<W.heap.size:=(fK.1 hl).1;have hy:=run_yield (P:=P) (args:=encs x) hl (by rw[hrec]; exact hps x)
   rw[hrec] at hy;refine⟨fn,_,assign,body,hy,roundIn_of_wpIn hfn (hassign _ x W _ ⟨_,run_beginRound hl (by rw[hrec]),?_⟩)⟩
   have hl2:(W.putObj (w.heap.size+1) (.loop { rec .ready none with state := .busy })).heap[w.heap.size+1]?=some (.loop { rec .ready none with state := .busy }):=World.putObj_heap_same cJ
   have hk2:(W.putObj (w.heap.size+1) (.loop { rec .ready none with state := .busy })).heap[w.heap.size]?=some (.deferred (some [])):=(World.putObj_heap_other aJ).trans hk
   have hw2:Kp W (W.putObj (w.heap.size+1) (.loop { rec .ready none with state := .busy })):=hKb _ _ _ _ aJ hl rfl rfl
   refine wpIn_mono (hbody _ pre x _ (hI.putObj _ hi aJ hl rfl) dQ) ?_
   have fin:∀(jump:Option Code)(W3:World),KeepsOthers (W.putObj (w.heap.size+1) (.loop { rec .ready none with state := .busy })) W3 ->
     (Instr.endRound (w.heap.size+1) jump).run P W3 = .ok (.bool jump.isNone) (W3.putObj (w.heap.size+1) (.loop (rec (if jump.isNone then .ready else .done) jump))) /\
     W3.heap[w.heap.size+1]?=some (.loop { rec .ready none with state := .busy }) /\
     (W3.putObj (w.heap.size+1) (.loop (rec (if jump.isNone then .ready else .done) jump))).heap[w.heap.size+1]?=some (.loop (rec (if jump.isNone then .ready else .done) jump)) /\
     (W3.putObj (w.heap.size+1) (.loop (rec (if jump.isNone then .ready else .done) jump))).heap[w.heap.size]?=some (.deferred (some [])):=fun jump W3 hk3=>by
    have hl3:=hk3.same _ _ hl2 rfl;have:=run_endRound (P:=P) jump hl3;rw[hrec] at this ⊢;exact⟨this,by rw[hrec] at hl3; exact hl3,World.putObj_heap_same (fK.1 hl3).1,(World.putObj_heap_other aJ).trans (hk3.same _ _ hk2 rfl)⟩
   rintro e a3 W3 hp;cases e with
   |normal =>
    obtain⟨hk3,hkp3,hi3⟩:=hp;obtain⟨hr,hl3,hl4,hk4⟩:=fin none W3 hk3;exact⟨_,_,hr,.inl ⟨rfl,⟨hI.putObj _ hi3 aJ hl3 rfl,hl4,hk4⟩,hKt (hKt hw2 hkp3) (hKb _ _ _ _ aJ hl3 rfl rfl)⟩⟩
   |ret =>
    obtain⟨hk3,hi3⟩:=hp;obtain⟨hr,hl3,hl4,hk4⟩:=fin (some .ret) W3 hk3;exact⟨_,_,hr,.inr ⟨rfl,.ret,(hIx _).putObj _ hi3 aJ hl3 rfl,hl4,hk4⟩⟩
   |exit id =>
    obtain⟨hk3,hi3⟩:=hp;obtain⟨hr,hl3,hl4,hk4⟩:=fin (some (.exit id)) W3 hk3;exact⟨_,_,hr,.inr ⟨rfl,.exit id,(hIx _).putObj _ hi3 aJ hl3 rfl,hl4,hk4⟩⟩
   |goto t =>
    obtain⟨hk3,hi3⟩:=hp;obtain⟨hr,hl3,hl4,hk4⟩:=fin (some (.goto t)) W3 hk3;exact⟨_,_,hr,.inr ⟨rfl,.goto t,(hIx _).putObj _ hi3 aJ hl3 rfl,hl4,hk4⟩⟩
   |panic ch=>exact hp.elim
   |outgrown=>exact hp.elim
  ·rintro e W2 ⟨⟨v,rfl⟩,(⟨xs,hS,hi,hl,hk⟩|⟨pre,hSp,c,hi,hl,hk⟩)⟩
   ·exact⟨none,_,by have:=run_endLoop (P:=P) hl (by rw[hrec]; simp); rw[hrec] at this; exact this,hdone _ xs _ (au _) hS (hI.putObj _ hi aJ hl rfl) ((World.putObj_heap_other aJ).trans hk)⟩
   ·exact⟨some c,_,by have:=run_endLoop (P:=P) hl (by rw[hrec]; simp); rw[hrec] at this; exact this,hstop _ c pre _ (au _) hSp ((hIx c).putObj _ hi aJ hl rfl) ((World.putObj_heap_other aJ).trans hk)⟩
def Nl:J:=⟨fun _=>none,fun _ _=>False⟩
def WY(w:World):Rel Nl [] w where
 inj:=fun _ _ _ h=>by cases h
 lt:=fun _ _ h=>by cases h
 fix:=fun _ _ h=>by cases h
 tick:=fun _ _ _ _ h=>by cases h
 arr:=fun _ _ _ _ h=>by cases h
 vk:=fun _ _ h=>by cases h
 AF:=fun _ _ h=>h.elim
@[reducible] def G0:kC:={ g:=fun _=>none }
def ahv:@pg G0 Tryz.prog (Fq [] f198) f198=some I3:=fu
def ahw:@pg G0 Tryz.prog (Fq [] f275) f275=some Nb:=fu
def ahx:@pg G0 Tryz.prog (Fq [] f302) f302=some Nc:=fu
def ahy:@pg G0 Tryz.prog (Fq [] f325) f325=some I4:=fu
def Hv{α:Type}{x:α}{P:Prop}(h:(none:Option α)=some x):P:=by cases h
def amd(w:World):@sV G0 Nl [] w:=@sV.mk G0 _ _ _ (fun b vs k v h=>Hv (show(none:Option (List Value))=some vs from h)) (fun b vs h=>Hv (show(none:Option (List Value))=some vs from h)) (fun b p h=>Hv (show(none:Option (Value->Prop))=some p from h))
def ab0:Nat->Option eJ
 |198=>some I3
 |275=>some Nb
 |302=>some Nc
 |325=>some I4
 |_=>none
noncomputable def EO:zA:=⟨ab0,fun _=>none⟩
def abv:@vp G0 Tryz.prog EO:=by
 refine @vp.mk G0 _ _ (fun f fn h=>?_) (fun f g h=>by cases h)
 simp only[EO] at h;unfold ab0 at h;split at h
 ·cases h; exact⟨_,_,func198,ahv⟩
 ·cases h; exact⟨_,_,func275,ahw⟩
 ·cases h; exact⟨_,_,func302,ahx⟩
 ·cases h; exact⟨_,_,func325,ahy⟩
 ·cases h
def ah2:@nM G0 Tryz.prog (aq EO):=@qU G0 _ fu _ abv
section
attribute [local irreducible] eX fJ lu gK eb kr aq aU cq bI
def VY{s:Bytes}(hs:s.length<=100000)(ha:pk s){k:List K}{R:Bool->Option (ag×aC)}
  (hx:∀e p,kr (aq EO) [.tmp 2] 0 k ⟨.exit 0,e,[.nW s p]⟩=R true) (hr:∀p,kr (aq EO) [.tmp 2] 0 k ⟨.ret,[(2,.bool false)],[.nW s p]⟩=R false) :
  ∀(q:Nat)(l pre:Bytes),l.length<=q->s=pre++l->eX (aq EO) [.tmp 2] 0 k (.loop [21] Ns) [(21,.j7 0)] [.nW s pre.length]=R (l.all tc):=by
 intro q;induction q with
 |zero =>
  intro l pre hq h;have h0:l=[]:=dH aJ;subst h0;rw[bG];have cJ:(pre.length<s.length)=False:=by rw[h]; simp
  simp only[wM,cJ,EN,seval];exact hx _ _
 |succ q ih =>
  intro l pre hq h;cases l with
  |nil =>
   rw[bG];have cJ:(pre.length<s.length)=False:=by rw[h]; simp
   simp only[wM,cJ,EN,seval];exact hx _ _
  |cons n r =>
   rw[bG];have cJ:(pre.length<s.length)=True:=by rw[h]; simp
   rcases MM h with ⟨hn,hd⟩|⟨c,m,r',hm,hne,hb,hc,hc2,hd⟩
   ·have hi:=ih r (pre++[n]) (by simp at hq; omega) (by rw[h]; simp)
    simp only[aA,aw,az,aK] at hi;simp only[wM,cJ,hd,EN,seval]
    repeat' ((first|apply bA|apply bV|apply dP)<;>intro hb<;>simp only[hb,wM,hd,EV,seval])
    all_goals first
     |(refine(hr _).trans ?_; congr 1; symm; clear hi ih hx hr hd h; simp_all [tc]; done)
     |(refine hi.trans ?_; congr 1; symm; clear hi ih hx hr hd h; simp_all [tc]; done)
   ·have hml:0<m.length:=gS.2 hne;have hl2:(n::r).length=m.length+r'.length:=by rw[hm]; simp
    have hi:=ih r' (pre++m) (by simp at hq hl2; omega) (by rw[h,hm]; simp)
    simp only[aA] at hi;have h32:decide ((c:Int)<32)=false:=gm;have h47:((c:Int)==47)=false:=by rw[ke]; omega
    rw[hm,oI,all_true hb,cN];simp only[wM,cJ,hd,h32,h47,EN,seval];exact hi
def akY(s:Bytes)(hs:s.length<=100000)(ha:pk s):aq EO 198 [.str s] []=some (.bool (fW s),[]):=by
 refine aB ?_;simp only[I3,wM,EN,seval];have hl:=fun k hx hr=>VY (k:=k) (R:=fun b=>some (ag.bool b,[])) hs ha hx hr s.length s [] (au _) rfl
 have he:(s==[])=decide ((s.length:Int)<1):=by cases s<;>simp; omega
 rw[he]
 repeat' ((first|apply bA|apply bV|apply dP)<;>intro hb<;>simp only[hb,EN,wM,seval])
 all_goals first
  |(clear hl he; simp_all [fW]; done)
  |(refine(hl _ (fun e p=>by simp only[wM,EN,seval]) (fun p=>by simp only[wM,EN,seval])).trans ?_; clear hl he; simp_all [fW]; done)
end
def Ex{f:Nat}{args:List ag}{r:ag}(h:aq EO f args []=some (r,[]))(hp:r.jo=false)(w:World)(vs:Array Value)(hl:args.length=vs.size)(hv:∀(i:Nat)(c:ag)(v:Value),args[i]?=some c->vs[i]?=some v->gn Nl [] w c v) :
  Calls Tryz.prog f vs w fun e w'=>∃v j',e = .returned v/\w.grownBy w' none/\gn j' [] w' r v:=by
 refine((ah2 f args [] _ h).2 Nl w vs (WY w) (amd w) hl hv).mono ?_;intro e w' hce;obtain⟨v,rfl,j',_,hx,hr⟩:=hce.ret hp;exact⟨v,j',rfl,⟨hx.os,hx.tape,hx.output,hx.size,fun k hk _=>(hx.ur k hk fun i hi=>by cases hi).1⟩,hr⟩
def Xb(s:Bytes)(hs:s.length<=100000)(ha:pk s)(w:World):Calls Tryz.prog 198 #[.string (bs s)] w fun e w'=>e = .returned (.bool (fW s))/\w.grownBy w' none:=by
 refine(Ex (akY s hs ha) rfl w #[.string (bs s)] rfl ?_).mono ?_
 ·intro i c v h1 h2
  match i with
  |0=>cases h1; cases h2; exact .plain (.str _)
  |i+1=>cases h1
 ·rintro e w' ⟨v,j',rfl,hg,hr⟩;rw[hr.jB];exact⟨rfl,hg⟩
set_option maxHeartbeats 1000000 in
set_option maxRecDepth 100000 in
def SP(a:ByteArray)(c:Int)(w:World) :
  Calls Tryz.prog 303 #[.string a,.int .u8 c] w fun e w'=>e = .returned (.int .i64 (Lib.indexByte a.data.toList c.toNat.toUInt8))/\w'=w:=by
 go_enter func303,ntmps303
 go_wp2
 rw[run_callFunc_extern func326 fu fu fu (e:=Extern.BytealgIndexByte.indexByte) fu,Lib.run_indexByteString];simp only[Result.andThen];rw[Oper.upon_value]
 go_wp2
 go_ret
 exact⟨rfl,rfl⟩
set_option maxHeartbeats 1000000 in
set_option maxRecDepth 100000 in
def SO(a:ByteArray)(c:Int)(w:World) :
  Calls Tryz.prog 276 #[.string a,.int .u8 c] w fun e w'=>e = .returned (.int .i64 (Lib.indexByte a.data.toList c.toNat.toUInt8))/\w'=w:=by
 go_enter func276,ntmps276
 go_wp2_with (go_at_call 303; refine(SP _ _ _).mono ?_; rintro e w' ⟨rfl,rfl⟩)
 go_ret
 exact⟨rfl,rfl⟩
section ev
attribute [local irreducible] eX fJ lu gK eb kr aq aU cq bI
def ua:Bytes->Bytes×Bool
 |b::r=>if b=47 then (r,true) else (b::r,false)
 | []=>([],false)
def Pp:Bytes->Bool
 |b::_=>b==47
 | []=>false
def ar4(s:Bytes):aq EO 325 [.str s,.str [47]] []=some (.bool (Pp s),[]):=by
 refine aB ?_;cases s with
 |nil =>
  have h0:decide (((1:Nat):Int)<=((0:Nat):Int))=false:=ml;simp only[I4,Yg,h0,EN,seval];simp only[Pp,Yg,h0,EN,seval]
 |cons b r =>
  have h1:(1:Int)<=(r.length:Int)+1:=aJ;simp only[I4,Yg,EN,seval];simp[Pp,h1,gD,Yg,EN,seval]
  try (cases hb:(b==47)<;>simp_all)
def amS s:=cP (ar4 s)
def ar3(s:Bytes):aq EO 302 [.str s,.str [47]] []=some (.tuple [.str (ua s).1,.bool (ua s).2],[]):=by
 refine aB ?_;simp only[Nc,Yf,amS,EN,seval];cases s with
 |nil=>simp only[Pp,Yf,amS,EN,seval]; rfl
 |cons b r =>
  by_cases hb:b=47
  ·have h1:(1:Int)<=(r.length:Int)+1:=aJ;have h2:(0:Int)<=(r.length:Int)+1:=aJ;simp[Pp,hb,Yf,ua,gD,h1,h2,EN,seval]
  ·have hb':(b==47)=false:=by simpa using hb
   simp only[Pp,hb',Yf,EN,seval];simp[ua,hb]
def atl s:=cP (ar3 s)
def arY(s:Bytes):aq EO 275 [.str s,.str [47]] []=some (.tuple [.str (ua s).1,.bool (ua s).2],[]):=by
 refine aB ?_;simp only[Nb,apm,atl,EN,seval]
end ev
def afa(s:Bytes)(w:World):Calls Tryz.prog 275 #[.string (bs s),.string ⟨#[47]⟩] w fun e w'=>e = .returned (.tuple #[.string (bs (ua s).1),.bool (ua s).2])/\w.grownBy w' none:=by
 refine(Ex (arY s) rfl w #[.string (bs s),.string ⟨#[47]⟩] rfl ?_).mono ?_
 ·intro i c v h1 h2
  match i with
  |0=>cases h1; cases h2; exact .plain (.str _)
  |1=>cases h1; cases h2; exact .plain (.str [47])
  |i+2=>cases h1
 ·rintro e w' ⟨v,j',rfl,hg,hr⟩;obtain⟨vs,rfl,hl,hv⟩:=hr.tQ;obtain⟨l⟩:=vs
  match l,hl with
  | [u1,u2],_ =>
   rw[(hv 0 _ u1 rfl rfl).kB,(hv 1 _ u2 rfl rfl).jB];exact⟨rfl,hg⟩
def IG(s:Bytes):Nat:=if Lib.indexByte s 47<0 then s.length else (Lib.indexByte s 47).toNat
def uv(s:Bytes):Bytes×Bool:=((ua s).1.take (IG (ua s).1),(ua s).2)
def sP(s:Bytes):Bytes:=(ua s).1.drop (IG (ua s).1)
def wo:Nat->Bytes->List (Bytes×Bool)
 |0,_=>[]
 |n+1,s=>match s with
  | []=>[]
  |b::r=>uv (b::r)::wo n (sP (b::r))
def index_le(l:Bytes)(c:UInt8):Lib.indexByte l c<=l.length:=by
 induction l with
 |nil=>simp[Lib.indexByte]
 |cons b r ih =>
  simp only[Lib.indexByte];split
  ·simp; omega
  ·split
   ·simp; omega
   ·simp; omega
def RB(s:Bytes):(ua s).1.length<=s.length:=by
 cases s with
 |nil=>simp[ua]
 |cons b r=>simp only[ua]; split<;>simp
def EB{s:Bytes}(h:s≠[]):(sP s).length<s.length:=by
 cases s with
 |nil=>exact absurd rfl h
 |cons b r =>
  unfold sP;rw[fS]
  by_cases hb:b=47
  ·have:ua (b::r)=(r,true):=by simp[ua,hb]
   rw[this]; simp; omega
  ·have e:ua (b::r)=(b::r,false):=by simp[ua,hb]
   rw[e]
   have:0<IG (b::r):=by
    unfold IG;have hb':(b==47)=false:=by simpa using hb
    have hg:=Lib.indexByte_ge r 47;split
    ·simp
    ·rename_i hn;simp only[Lib.indexByte,hb',af,aD] at hn ⊢;split
     ·rename_i he; simp[he] at hn
     ·rename_i he;have:Lib.indexByte r 47 ≠ -1:=by simpa using he
      omega
   simp only[aw];omega
def Hx:∀(n m:Nat)(s:Bytes),s.length<=n->s.length<=m->wo n s=wo m s:=by
 intro n;induction n with
 |zero =>
  intro m s h _;have:s=[]:=by cases s with|nil=>rfl|cons b r=>simp at h
  subst this;cases m<;>rfl
 |succ n ih =>
  intro m s h h';cases s with
  |nil=>cases m<;>rfl
  |cons b r =>
   cases m with
   |zero=>simp at h'
   |succ m =>
    have:=EB (s:=b::r) dx;simp only[wo];rw[ih m _ aJ aJ]
def nw(s:Bytes):List (Bytes×Bool):=wo s.length s
def Ag{s:Bytes}(h:s≠[]):nw s=uv s::nw (sP s):=by
 cases s with
 |nil=>exact absurd rfl h
 |cons b r =>
  have:=EB (s:=b::r) dx;unfold nw;rw[show(b::r).length=r.length+1 from rfl,wo]
  rw[Hx r.length (sP (b::r)).length _ (by simp at this; omega) aJ]
def BT{s:Bytes}(h:pk s):pk (uv s).1:=trivial
def Dg{s:Bytes}(h:pk s):pk (sP s):=trivial
def Qb(s:Bytes):(uv s).1.length<=s.length:=by
 have:=RB s;unfold uv;rw[cr];omega
abbrev PA:={ x:Bytes×Bool // pk x.1/\x.1.length<=100000 }
abbrev YQ(x:PA):Array Value := #[.string (bs x.1.1),.bool x.1.2]
def G3(b0:Nat)(w:World):Nat:=match w.cell? ⟨b0,0,none⟩ with
 |some (.string s)=>s.size
 |_=>0
section
attribute [local go_sem] Oper.semAt_some
set_option maxHeartbeats 1000000 in
def Qc(n:Nat)(s:Bytes)(w:World) :
  CallsIn Fence.wide n Tryz.prog 231 #[.string (bs s)] w fun e w'=>e = .returned (.func (.func 274) #[] #[.pointer (some ⟨w.heap.size,0,none⟩)])/\w'=w.alloc (.cells #[.string (bs s)] 9):=by
 refine callsIn_of_wp func231 rfl trivial ?_ rfl;simp only[ntmps231,da,aw,az,Nat.reduceAdd,Nat.reduceSub,jM,jN,lh,kc,aP,aG]
 gi_wp2
 go_ret
 exact⟨rfl,rfl⟩
def MB(c:Bytes)(n:Nat):bs (c.drop n)=(bs c).extract n (bs c).size:=by
 rw[yV,show(bs c).size=c.length from rfl,bF]
def wb{b0:Nat}{w:World}{s:Bytes}(h:Boxed w b0 9 (.string (bs s))):G3 b0 w=s.length:=by
 unfold G3;rw[h.cell];rfl
set_option maxRecDepth 100000 in
set_option maxHeartbeats 1000000 in
def Zf(n:Nat)(hn:3<=n)(l b0 N:Nat)(s0:Bytes)(ha:pk s0)(hs:s0.length<=100000)(hN:(nw s0).length<=N)(J Jx:List PA->World->Prop)(W:World)(hJ:AbidesFrom W.heap.size J)(hJc:∀s A v,J s A->J s (A.setCell ⟨b0,0,none⟩ v))
  (hY:∀pre x W1,J pre W1->pre.length<N->YieldAt Fence.wide (n-1) Tryz.prog l (YQ x) W1 fun e W' =>
   (e = .returned (.bool true)/\J (pre++[x]) W'/\W'.heap[b0]?=W1.heap[b0]?)\/(e = .returned (.bool false)/\Jx (pre++[x]) W'))
  (hB:Boxed W b0 9 (.string (bs s0))) (h0:J [] W) :
  CallsIn Fence.wide n Tryz.prog 274 #[.func (.yield l) #[] #[],.pointer (some ⟨b0,0,none⟩)] W fun e W'=>(∃v,e = .returned v) /\
   ((∃xs:List PA,xs.map (·.1)=nw s0/\J xs W')\/(∃pre:List PA,pre.map (·.1) <+: nw s0/\Jx pre W')):=by
 refine callsIn_of_wp func274 rfl trivial ?_ rfl;simp only[ntmps274,da,aw,az,Nat.reduceAdd,Nat.reduceSub,jM,jN,lh,kc,aP,aG]
 gi_wp2
 gi_loopw [3] (fun _ wr=>∃(pre:List PA) (rest:Bytes),Boxed wr b0 9 (.string (bs rest))/\pk rest/\rest.length<=100000/\nw s0=pre.map (·.1)++nw rest/\J pre wr)
  (fun _ wr=>G3 b0 wr)
 case atStart =>
  exact⟨[],s0,hB,ha,hs,rfl,h0⟩
 case round =>
  obtain⟨pre,rest,hb,hra,hrl,hp,hJs⟩:=hrel;have hf:=hb.frozen;cases rest with
  |nil =>
   have hc:wr.cell? ⟨b0,0,none⟩=some (.string ⟨#[]⟩):=hb.cell
   gi_wp2
   go_end0
   exact⟨⟨_,rfl⟩,.inl ⟨pre,by rw[hp]; simp[nw,wo],hJs⟩⟩
  |cons x rest =>
   have hc:=hb.cell;have hne:(!(bs (x::rest)).toList.isEmpty)=true:=by simp[bs]
   gi_wp2
   refine⟨trivial,fun h=>(by cases h),(callsIn_wide.2 (afa _ _)).mono ?_⟩
   rintro e w1 ⟨rfl,hg⟩;have hb1:Boxed w1 b0 9 (.string (bs (x::rest))):=hb.kept hg dx;have hJ1:J pre w1:=hJ pre wr w1 none hJs hg (fun r e=>by cases e)
   have hbr:=hb;clear hb hc hf hJs;have hc1:=hb1.cell;have hf1:=hb1.frozen
   gi_wp2
   refine⟨trivial,fun h=>(by cases h),(callsIn_wide.2 (SO _ _ _)).mono ?_⟩
   rintro e w2 ⟨rfl,rfl⟩
   have dQ:pre.length<N:=by
    have:=congrArg List.length hp;rw[Ag (s:=x::rest) dx] at this;simp at this;omega
   have hpl:=Qb (x::rest);have hrest:=EB (s:=x::rest) dx;obtain⟨fn,tmps,assign,body,hy,hR⟩:=hY pre ⟨uv (x::rest),BT hra,aJ⟩ w2 hJ1 dQ
   have hpn:nw s0=(pre++[⟨uv (x::rest),BT hra,aJ⟩]:List PA).map (·.1)++nw (sP (x::rest)):=by
    rw[hp,Ag dx]; simp
   obtain⟨c,hc⟩:∃c,(ua (x::rest)).1=c:=⟨_,rfl⟩;have hix:=index_le c 47
   by_cases hi:Lib.indexByte c 47<0
   ·have he:uv (x::rest)=(c,(ua (x::rest)).2):=by simp[uv,hc,IG,hi]
    have hre:sP (x::rest)=[]:=by simp[sP,hc,IG,hi]
    simp only[YQ,he] at hy;rw[hc];have hi':Lib.indexByte (bs c).data.toList 47<0:=hi
    gi_wp2
    refine⟨fun h=>(by cases h),hR.mono ?_⟩
    rintro e W3 (⟨rfl,hJ3,hk3⟩|⟨rfl,hJx3⟩)
    ·have hb3:Boxed W3 b0 9 (.string (bs (x::rest))):=hk3.trans hb1;have hc3:=hb3.cell;have hf3:=hb3.frozen
     gi_wp2
     go_roundw
     case rel =>
      exact⟨_,sP (x::rest),(by rw[hre]; exact(hb3.set _)),Dg hra,aJ,hpn,hJc _ _ _ hJ3⟩
     case measure =>
      rw[wb (s:=sP (x::rest)) (by rw[hre]; exact(hb3.set _)),wb hbr]
      exact hrest
    ·gi_wp2
     refine bodyPost_ret (results_none rfl _ _ _) rfl ?_;exact⟨⟨_,rfl⟩,.inr ⟨_,⟨nw (sP (x::rest)),hpn.symm⟩,hJx3⟩⟩
   ·have hi0:0<=Lib.indexByte c 47:=aJ;have he:uv (x::rest)=(c.take (Lib.indexByte c 47).toNat,(ua (x::rest)).2):=by simp[uv,hc,IG,hi]
    have hre:sP (x::rest)=c.drop (Lib.indexByte c 47).toNat:=by simp[sP,hc,IG,hi]
    simp only[YQ,he] at hy;rw[show bs (c.take (Lib.indexByte c 47).toNat)=(bs c).extract 0 (Lib.indexByte (bs c).data.toList 47).toNat by rw[yV]; rfl] at hy
    rw[hc];have hi':¬Lib.indexByte (bs c).data.toList 47<0:=hi;have hi2:Lib.indexByte (bs c).data.toList 47<=(bs c).size:=hix
    gi_wp2
    refine⟨fun h=>(by cases h),hR.mono ?_⟩
    rintro e W3 (⟨rfl,hJ3,hk3⟩|⟨rfl,hJx3⟩)
    ·have hb3:Boxed W3 b0 9 (.string (bs (x::rest))):=hk3.trans hb1;have hc3:=hb3.cell;have hf3:=hb3.frozen
     gi_wp2
     go_roundw
     case rel =>
      exact⟨_,sP (x::rest),(by rw[hre,MB]; exact(hb3.set _)),Dg hra,aJ,hpn,hJc _ _ _ hJ3⟩
     case measure =>
      rw[wb (s:=sP (x::rest)) (by rw[hre,MB]; exact(hb3.set _)),wb hbr]
      exact hrest
    ·gi_wp2
     refine bodyPost_ret (results_none rfl _ _ _) rfl ?_;exact⟨⟨_,rfl⟩,.inr ⟨_,⟨nw (sP (x::rest)),hpn.symm⟩,hJx3⟩⟩
def E3(x:Bytes×Bool)(n:Nat):Bool := !x.2 || !fW x.1||n==12
def qL:List (Bytes×Bool)->Nat->Option (List Bytes)
 | [],_=>some []
 |x::r,n=>if E3 x n then none else (qL r (n+1)).map (x.1 :: ·)
def BF:∀(a b:List (Bytes×Bool)) (n:Nat),qL (a++b) n=(qL a n).bind fun l=>(qL b (n+a.length)).map (l ++ ·):=by
 intro a;induction a with
 |nil=>intro b n; simp[qL]
 |cons x r ih =>
  intro b n;simp only[aG,qL];split
  ·rfl
  ·rw[ih,show n+1+r.length=n+(x::r).length by simp; omega]
   cases qL r (n+1) with
   |none=>rfl
   |some l=>simp; rfl
def gH(s:Bytes):List Bytes×Int:=if s=[47] then ([],0) else match qL (nw s) 0 with
 |none=>([],60)
 |some []=>([],60)
 |some l=>(l,0)
def Nf(pre:List PA):Prop:=qL (pre.map (·.1)) 0=some (pre.map (·.1.1))/\pre.length<=12
def Lz{pre:List PA}{x:PA}(h:Nf pre)(hb:E3 x.1 pre.length=false):Nf (pre++[x]):=by
 refine⟨?_,?_⟩
 ·rw[aW,BF,h.1];simp[qL,hb]
 ·have:pre.length≠12:=by intro e; rw[e] at hb; simp[E3] at hb
  have:=h.2;simp; omega
def AL{pre:List PA}{x:PA}(h:Nf pre)(hb:E3 x.1 pre.length=true):qL ((pre++[x]).map (·.1)) 0=none:=by
 rw[aW,BF,h.1];simp[qL,hb]
def Qk{a l:List (Bytes×Bool)}(h:a <+: l)(hn:qL a 0=none):qL l 0=none:=by
 obtain⟨b,rfl⟩:=h;rw[BF,hn]; rfl
def aml:(Tryz.prog.info? 9).map (fun i=>(i.zero,i.size,i.bytes))=some (some (.string ⟨#[]⟩),1,16):=fu
abbrev Hb(b:Bytes):Value := .string (bs b)
def appended{W w1:World}{n₀ B:Nat}{v v':Value}{k m:Nat}{xs ys:List Value}{tmp:Obj}
  (hv:Boxed W B 44 v) (hrow:W.ownsRow n₀ 9 1 v k xs) (hown':w1.ownsRow n₀ 9 1 v' m ys) (hgrow:(W.alloc tmp).grownBy w1 v.ownBlock) :
  Boxed w1 B 44 v/\Boxed (w1.setCell ⟨B,0,none⟩ v') B 44 v'/\(w1.setCell ⟨B,0,none⟩ v').ownsRow n₀ 9 1 v' m ys/\KeepsOthers W (w1.setCell ⟨B,0,none⟩ v') /\
  (w1.setCell ⟨B,0,none⟩ v').os=W.os/\(w1.setCell ⟨B,0,none⟩ v').tape=W.tape/\(w1.setCell ⟨B,0,none⟩ v').output=W.output/\W.heap.size<=(w1.setCell ⟨B,0,none⟩ v').heap.size /\
  ∀q,q<n₀->q<W.heap.size->q≠B->(w1.setCell ⟨B,0,none⟩ v').heap[q]?=W.heap[q]?:=by
 have hv1:Boxed w1 B 44 v:=(hv.alloc tmp).kept hgrow (hv.not_row ml hrow);have hs:=grownBy_setCell' w1 B v';refine⟨hv1,hv1.set v',hown'.kept hs (.inr (hv1.not_row ml hown').symm),?_,?_,?_,?_,?_,?_⟩
 ·refine((KeepsOthers.alloc W tmp).trans (KeepsOthers.of_grownBy hgrow fun j o ej hj=>?_)).trans (KeepsOthers.setCell _ _ _)
  rcases(hrow.alloc tmp).2 with ⟨rfl,_⟩|⟨g,cap,cur,rfl,_,hgb,_⟩
  ·simp[Value.ownBlock] at ej
  ·obtain rfl:g=j:=by simpa[Value.ownBlock] using ej
   rw[hgb] at hj; cases hj; rfl
 ·exact hs.os.trans hgrow.os
 ·exact hs.tape.trans hgrow.tape
 ·exact hs.output.trans hgrow.output
 ·have h1:=hgrow.size;have h2:=hs.size;simp at h1;omega
 ·intro q hq hqw hqB;have cJ:q<(W.alloc tmp).heap.size:=gm;rw[hs.block q (bu cJ hgrow.size) (fun e=>hqB (by cases e; rfl)),hgrow.block q cJ ?_]
  ·exact Below.heap_alloc _ _ _ hqw
  ·intro e;rcases hrow.2 with ⟨rfl,_⟩|⟨g,cap,cur,rfl,hb,_,_⟩
   ·simp[Value.ownBlock] at e
   ·obtain rfl:q=g:=by simpa[Value.ownBlock] using e
    omega
structure E1(w:World)(pre:List PA)(W:World):Prop where
 Hg:Nf pre
 r0:Boxed W w.heap.size 44 (.slice none 0 0)
 r1:Boxed W (w.heap.size+1) 43 (.int .i64 0)
 row:∃v,Boxed W (w.heap.size+2) 44 v/\W.ownsRow (w.heap.size+4) 9 1 v pre.length (pre.map fun x=>Hb x.1.1)
 below:Below w.heap.size w W
 sz:w.heap.size+4<=W.heap.size
structure GX(w:World)(c:Code)(pre:List PA)(W:World):Prop where
 ret:c = .ret
 bad:qL (pre.map (·.1)) 0=none
 r0:Boxed W w.heap.size 44 (.slice none 0 0)
 r1:Boxed W (w.heap.size+1) 43 (.int .i64 60)
 below:Below w.heap.size w W
def tX{W W':World}{row:Option Nat}{B k:Nat}{t:TypeId}{v:Value}(h:Boxed W B t v)(hg:W.grownBy W' row)(hr:∀r,row=some r->k<=r/\∃o:Obj,W.heap[r]?=some o/\o.isCells=false):Boxed W' B t v :=
 h.kept hg fun e=>by obtain⟨_,o,ho,hc⟩:=hr B e.symm; rw[show W.heap[B]?=_ from h] at ho; cases ho; cases hc
def E1.own{w:World}:OwnFrom (w.heap.size+4) (E1 w):=fun s A B row hs hg hr=>by
 obtain⟨v,hv,hrow⟩:=hs.row;exact⟨hs.Hg,tX hs.r0 hg hr,tX hs.r1 hg hr,⟨v,tX hv hg hr,((holdsRow_own (β:=Unit) (w.heap.size+4) (w.heap.size+2) 44 9 1 (fun _=>s.length) (fun _=>s.map fun x=>Hb x.1.1) (fun _ u=>u=v)) () A B row ⟨v,hv,hrow,rfl⟩ hg (fun r e=>(hr r e).2)).elim fun u hu=>hu.2.2▸hu.2.1⟩,ownFrom_below (β:=Unit) (au _) aJ () A B row hs.below hg hr,aY hs.sz hg.size⟩
def GX.own{w:World}(c:Code):OwnFrom (w.heap.size+4) (GX w c):=fun s A B row hs hg hr =>
 ⟨hs.ret,hs.bad,tX hs.r0 hg hr,tX hs.r1 hg hr,ownFrom_below (β:=Unit) (au _) aJ () A B row hs.below hg hr⟩
def E1.cell{w:World}(s:List PA)(A:World)(u:Value)(hs:E1 w s A):E1 w s (A.setCell ⟨w.heap.size+3,0,none⟩ u):=by
 obtain⟨v,hv,hrow⟩:=hs.row;have hg:=grownBy_setCell' A (w.heap.size+3) u;refine⟨hs.Hg,hs.r0.other aJ _,hs.r1.other aJ _,⟨v,hv.other aJ _,hrow.kept hg ?_⟩,hs.below.setCell (p:=⟨w.heap.size+3,0,none⟩) dx _,aY hs.sz hg.size⟩;rcases hrow.2 with ⟨rfl,_⟩|⟨g,cap,cur,rfl,hb,_,_⟩
 ·exact .inl rfl
 ·refine .inr fun e=>?_
  have:g=w.heap.size+3:=by simpa[Value.ownBlock] using e
  omega
def GX.made{w W:World}{pre:List PA}(h0:Boxed W w.heap.size 44 (.slice none 0 0))(h1:Boxed W (w.heap.size+1) 43 (.int .i64 0))(hb:Below w.heap.size w W)(hbad:qL (pre.map (·.1)) 0=none) :
  KeepsOthers W ((W.setCell ⟨w.heap.size,0,none⟩ (.slice none 0 0)).setCell ⟨w.heap.size+1,0,none⟩ (.int .i64 60))/\GX w .ret pre ((W.setCell ⟨w.heap.size,0,none⟩ (.slice none 0 0)).setCell ⟨w.heap.size+1,0,none⟩ (.int .i64 60)):=by
 refine⟨(KeepsOthers.setCell _ _ _).trans (KeepsOthers.setCell _ _ _),rfl,hbad,(h0.set _).other aJ _,?_,(hb.setCell (p:=⟨w.heap.size,0,none⟩) (au _) _).setCell (p:=⟨w.heap.size+1,0,none⟩) dx _⟩;exact(h1.other aJ _).set _
def BC{W:World}{n₀ k:Nat}{v:Value}{xs:List Value}(h:W.ownsRow n₀ 9 1 v k xs):∃p cap,v = .slice p k cap:=by
 rcases h.2 with ⟨rfl,rfl⟩|⟨g,cap,cur,rfl,_⟩
 ·exact⟨_,_,rfl⟩
 ·exact⟨_,_,rfl⟩
def abo{W:World}{n₀ n₁ k D:Nat}{v:Value}{xs:List Value}{x:Option (List Deferred)}{o:Obj}(h:W.ownsRow n₀ 9 1 v k xs)(hn:n₁<=n₀)(hD:W.heap[D]?=some (.deferred x)):(W.putObj D o).ownsRow n₁ 9 1 v k xs:=by
 refine⟨h.1,?_⟩;rcases h.2 with h0|⟨g,cap,cur,e,hb,hg,hr⟩
 ·exact .inl h0
 ·refine .inr ⟨g,cap,cur,e,aJ,?_,hr⟩;exact(World.putObj_heap_other (fun e=>by subst e; rw[hD] at hg; cases hg)).trans hg
def JW{W:World}{n₀ k B:Nat}{v:Value}{xs:List Value}(h:W.ownsRow n₀ 9 1 v k xs)(hB:B<n₀)(u:Value):(W.setCell ⟨B,0,none⟩ u).ownsRow n₀ 9 1 v k xs:=by
 refine⟨h.1,?_⟩;rcases h.2 with h0|⟨g,cap,cur,e,hb,hg,hr⟩
 ·exact .inl h0
 ·exact .inr ⟨g,cap,cur,e,hb,(Below.heap_setCell _ _ _ _ (by show _≠B; omega)).trans hg,hr⟩
def tG{W:World}{B D:Nat}{t:TypeId}{v:Value}{x:Option (List Deferred)}{o:Obj}(h:Boxed W B t v)(hD:W.heap[D]?=some (.deferred x)):Boxed (W.putObj D o) B t v :=
 (World.putObj_heap_other (fun e=>by subst e; rw[show W.heap[B]?=_ from h] at hD; cases hD)).trans h
def AO{w W:World}{D:Nat}{o:Obj}(h:Below w.heap.size w W)(hD:w.heap.size<=D):Below w.heap.size w (W.putObj D o) :=
 ⟨h.os,h.tape,h.output,by simpa[World.putObj] using h.size,fun k hk=>(World.putObj_heap_other aJ).trans (h.block k hk)⟩
def yf{W:World}{B D:Nat}{o:Obj}{u:Value}(h:W.heap[D]?=some o)(hB:D≠B):(W.setCell ⟨B,0,none⟩ u).heap[D]?=some o:=(Below.heap_setCell _ _ _ _ (by show _≠B; omega)).trans h
def results165{W:World}{b:Nat}{v u:Value}{tmps:Array Value}(h2:tmps[2]?=some (.pointer (some ⟨b,0,none⟩)))(h3:tmps[3]?=some (.pointer (some ⟨b+1,0,none⟩)))(hv:Boxed W b 44 v)(hu:Boxed W (b+1) 43 u):(results f165 tmps).run Tryz.prog W = .ok (.tuple #[v,u]) W:=by
 have c0:=hv.cell;have c1:=hu.cell;simp[results,f165,go_sem,c0,c1,h2,h3]
def xm{F:Fence}{n:Nat}{P:Program}{fn:Func}{tmps:Array Value}{R:Ending->World->Prop}{D:Nat}{W W':World}{v:Value}(hD:(Instr.takeDeferred D).run P W = .ok [] W')(hv:(results fn tmps).run P W' = .ok v W')(hR:R (.returned v) W') :
  LeavesInM F n P fn tmps R [{ target := .collected D,args := #[] }] .returning W :=
 ⟨dx,.inl ⟨D,W',rfl,hD,⟨v,hv,hR⟩⟩⟩
set_option maxRecDepth 100000 in
set_option maxHeartbeats 2000000 in
def Xt(n:Nat)(hn:6<=n)(s:Bytes)(ha:pk s)(hs:s.length<=100000)(w:World) :
  CallsIn Fence.wide n Tryz.prog 165 #[.string (bs s)] w fun e W'=>∃v,e = .returned (.tuple #[v,.int .i64 (gH s).2])/\W'.ownsRow w.heap.size 9 1 v (gH s).1.length ((gH s).1.map Hb)/\Below w.heap.size w W':=by
 have h1:1<=n:=aJ;obtain⟨i0,hi,hz0,hz1,hz2⟩:=info_parts aml;refine callsIn_of_wp_marks func165 rfl trivial ?_ rfl;simp only[ntmps165,da,aw,az,Nat.reduceAdd,Nat.reduceSub,jM,jN,lh,kc,aP,aG];have b0:=Boxed.new w 44 (.slice none 0 0);have b1:=Boxed.new (w.alloc (.cells #[.slice none 0 0] 44)) 43 (.int .i64 0);have b2:=Boxed.new ((w.alloc (.cells #[.slice none 0 0] 44)).alloc (.cells #[.int .i64 0] 43)) 44 (.slice none 0 0);have b3:=Boxed.new (((w.alloc (.cells #[.slice none 0 0] 44)).alloc (.cells #[.int .i64 0] 43)).alloc (.cells #[.slice none 0 0] 44)) 9 (.string (bs s));simp only[World.size_alloc] at b1 b2 b3;have hB2:Below w.heap.size w ((w.alloc (.cells #[.slice none 0 0] 44)).alloc (.cells #[.int .i64 0] 43)):=((Below.refl _ w).alloc (au _) _).alloc dx _;have hB4:=(hB2.alloc gm (.cells #[.slice none 0 0] 44)).alloc gm (.cells #[.string (bs s)] 9)
 by_cases hs47:s=[47]
 ·subst hs47;have ht:((bs [47]).toList==[47])=true:=by rw[vt]; rfl
  gi_wp2
  have c0:=(b0.alloc (.cells #[.int .i64 0] 43)).cell;have c1:=b1.cell;refine⟨.tuple #[.slice none 0 0,.int .i64 0],?_,_,rfl,World.ownsRow_nil _ _ _ _,hB2⟩;simp[results,f165,go_sem,c0,c1]
 have ht:((bs s).toList==[47])=false:=by rw[vt]; simpa using hs47
 gi_wp2
 refine⟨trivial,(Qc _ s _).mono ?_⟩;rintro e w' ⟨rfl,rfl⟩
 gi_wp2
 obtain⟨W4,hW4⟩:∃W4,(((w.alloc (.cells #[.slice none 0 0] 44)).alloc (.cells #[.int .i64 0] 43)).alloc (.cells #[.slice none 0 0] 44)).alloc (.cells #[.string (bs s)] 9)=W4:=⟨_,rfl⟩;have hsz:W4.heap.size=w.heap.size+4:=by rw[<-hW4]; simp
 have e0:Boxed W4 w.heap.size 44 (.slice none 0 0):=by rw[<-hW4]; exact((b0.alloc _).alloc _).alloc _
 have e1:Boxed W4 (w.heap.size+1) 43 (.int .i64 0):=by rw[<-hW4]; exact(b1.alloc _).alloc _
 have e2:Boxed W4 (w.heap.size+2) 44 (.slice none 0 0):=by rw[<-hW4]; exact b2.alloc _
 rw[hW4] at b3 hB4 ⊢
 have hseq:Fp (w.heap.size+3) Fence.wide (n-1) Tryz.prog 274 #[.pointer (some ⟨w.heap.size+3,0,none⟩)] YQ (fun A B=>B.heap[w.heap.size+3]?=A.heap[w.heap.size+3]?) (fun xs=>xs.map (·.1)=nw s) (fun pre=>pre.map (·.1) <+: nw s) (nw s).length W4 :=
  fun l J Jx W hW hJ hJx hJc hY h0=>Zf (n-1) aJ l _ _ s ha hs (au _) J Jx W hJ hJc hY ((hW.block _ aJ).trans b3) h0
 refine yv (b0:=w.heap.size+3) aJ rfl h1 (gf:=274) (lb := #[.pointer (some ⟨w.heap.size+3,0,none⟩)]) rfl trivial (enters_of func274 fu rfl) hseq
  (fun h k=>k.trans h) (fun W l o o' hl _ _ _=>World.putObj_heap_other aJ) (Below.refl _ _) (fun _=>rfl)
  (E1 w) (GX w) (by rw[hsz]; exact E1.own) (fun c=>by rw[hsz]; exact GX.own c) E1.cell
  ⟨⟨rfl,dx⟩,e0,e1,⟨_,e2,World.ownsRow_nil _ _ _ _⟩,hB4,aJ⟩
  (fun x=>{ tmps := #[.string (bs s),undef,.pointer (some ⟨w.heap.size,0,none⟩),.pointer (some ⟨w.heap.size+1,0,none⟩),.pointer (some ⟨w.heap.size+1+1,0,none⟩),.string (bs x.1.1),.bool x.1.2,.string (bs s),.bool false,.string (bs s),.func (.func 274) #[] #[.pointer (some ⟨w.heap.size+1+1+1,0,none⟩)],.string (bs x.1.1),.bool x.1.2,
   undef,undef,undef,undef,undef,undef,undef,undef,undef,undef,undef,undef,undef,undef,undef,undef,undef,undef,undef,undef],defers:=[] }) ?assign ?body ?done ?stop
 case assign =>
  intro l x W K hK
  gi_wp2
  exact hK
 case body =>
  rintro l pre ⟨⟨nm,ok⟩,hxa,hxl⟩ W hInv cJ;obtain⟨v,hv,hrow⟩:=hInv.row;have hc0:=hInv.r0.cell;have hf0:=hInv.r0.frozen;have hc1:=hInv.r1.cell;have hf1:=hInv.r1.frozen;cases ok with
  |false =>
   gi_wp2
   refine⟨trivial,?_⟩
   gi_wp2
   exact GX.made hInv.r0 hInv.r1 hInv.below (AL hInv.Hg (by simp[E3]))
  |true =>
   gi_wp2
   refine⟨trivial,fun h=>(by cases h),(CallsIn.inRound l (callsIn_wide.2 (Xb nm hxl hxa W))).mono ?_⟩
   rintro e W5 ⟨rfl,hg5⟩;have hInv5:E1 w pre W5:=E1.own pre W W5 none hInv hg5 (fun r e=>by cases e)
   have hK5:KeepsOthers W W5:=KeepsOthers.of_grownBy hg5 (fun j o e=>by cases e)
   clear hc0 hf0 hc1 hf1 hrow hv v;obtain⟨v,hv,hrow⟩:=hInv5.row;have hc0:=hInv5.r0.cell;have hf0:=hInv5.r0.frozen;have hc1:=hInv5.r1.cell;have hf1:=hInv5.r1.frozen;have hc2:W5.cell? ⟨w.heap.size+1+1,0,none⟩=some v:=hv.cell;have hf2:W5.frozen? ⟨w.heap.size+1+1,0,none⟩=false:=hv.frozen;cases hnm:fW nm with
   |false =>
    gi_wp2
    have:=GX.made hInv5.r0 hInv5.r1 hInv5.below (AL (x:=⟨(nm,true),hxa,hxl⟩) hInv5.Hg (by simp[E3,hnm]))
    exact⟨hK5.trans this.1,this.2⟩
   |true =>
    obtain⟨p,cap,rfl⟩:=BC hrow
    by_cases hl:pre.length=12
    ·have hl':((pre.length:Int)==12)=true:=by simp[hl]
     gi_wp2
     have:=GX.made hInv5.r0 hInv5.r1 hInv5.below (AL (x:=⟨(nm,true),hxa,hxl⟩) hInv5.Hg (by simp[E3,hnm,hl]))
     exact⟨hK5.trans this.1,this.2⟩
    ·have hl':((pre.length:Int)==12)=false:=gm
     gi_wp2_with (gi_at_builtin; generalize hX:wpListIn _ _ _ _ _ _ _ _=X)
     subst hX;refine wpListIn_append_own _ rfl _ _ 44 rfl (w.heap.size+4) 9 i0 (.string ⟨#[]⟩) 1 16 underlying44 hi hz0 hz1 hz2 rfl ml _ _ _ rfl (hrow.alloc _) ⟨W5.heap.size,0,none⟩ 1 1 [Hb nm] rfl rfl (cell_one_new _ _ _) (by simp[Value.oneCell']) (by have:=hInv5.Hg.2; simp[maxLen]; omega) (by have:=hInv5.Hg.2; omega) (by have:=hv.lt; simp; omega) ?_
     intro v' w1 hown' hgrow hiff;obtain⟨q0,q1,q2,q3,q4,q5,q6,q7,q8⟩:=appended hv hrow hown' hgrow;have hc2':w1.cell? ⟨w.heap.size+1+1,0,none⟩=some (.slice p pre.length cap):=q0.cell;have hf2':w1.frozen? ⟨w.heap.size+1+1,0,none⟩=false:=q0.frozen;obtain⟨p',cap',rfl⟩:=BC hown'
     gi_wp2
     refine⟨hK5.trans q3,(q8 _ aJ (by have:=hInv5.sz; omega) aJ).trans (hg5.block _ (by have:=hInv.sz; omega) dx),?_⟩
     refine⟨Lz hInv5.Hg (by simp[E3,hnm,hl]),(q8 _ aJ hInv5.r0.lt aJ).trans hInv5.r0,(q8 _ aJ hInv5.r1.lt aJ).trans hInv5.r1,⟨_,q1,by simpa using q2⟩,?_,aY hInv5.sz q7⟩
     exact hInv5.below.trans ⟨q4,q5,q6,q7,fun q hq=>q8 q aJ (by have:=hInv5.below.size; omega) aJ⟩
 case done =>
  rintro D ys W hD hys hInv hK;obtain⟨v,hv,hrow⟩:=hInv.row;have hc0:=hInv.r0.cell;have hf0:=hInv.r0.frozen;have hc1:=hInv.r1.cell;have hf1:=hInv.r1.frozen;have hc2:W.cell? ⟨w.heap.size+1+1,0,none⟩=some v:=hv.cell;have hf2:W.frozen? ⟨w.heap.size+1+1,0,none⟩=false:=hv.frozen;obtain⟨p,cap,rfl⟩:=BC hrow
  by_cases hl:ys.length=0
  ·have hl':((ys.length:Int)==0)=true:=by simp[hl]
   have hy:ys=[]:=dz.1 hl
   have hsp:gH s=([],60):=by
    rw[hy] at hys;simp[gH,hs47,<-hys,qL]
   gi_wp2
   have hm:=yf (u := .int .i64 60) (yf (u := .slice none 0 0) hK (B:=w.heap.size) aJ) (B:=w.heap.size+1) aJ;have k0:Boxed ((W.setCell ⟨w.heap.size,0,none⟩ (.slice none 0 0)).setCell ⟨w.heap.size+1,0,none⟩ (.int .i64 60)) w.heap.size 44 (.slice none 0 0):=(hInv.r0.set _).other aJ _;have k1:Boxed ((W.setCell ⟨w.heap.size,0,none⟩ (.slice none 0 0)).setCell ⟨w.heap.size+1,0,none⟩ (.int .i64 60)) (w.heap.size+1) 43 (.int .i64 60):=(hInv.r1.other aJ _).set _;refine xm (run_takeDeferred hm) (results165 rfl rfl (tG k0 hm) (tG k1 hm)) ⟨_,rfl,World.ownsRow_nil _ _ _ _,AO ((hInv.below.setCell (p:=⟨w.heap.size,0,none⟩) (au _) _).setCell (p:=⟨w.heap.size+1,0,none⟩) dx _) aJ⟩
  ·have hl':((ys.length:Int)==0)=false:=by rw[ke]; omega
   have hsp:gH s=(ys.map (·.1.1),0):=by
    have h0:=hInv.Hg.1;rw[hys] at h0;cases ys with
    |nil=>simp at hl
    |cons y ys=>simp[gH,hs47,h0]
   gi_wp2
   have hm:=yf (u := .int .i64 0) (yf (u := .slice p ys.length cap) hK (B:=w.heap.size) aJ) (B:=w.heap.size+1) aJ;have k0:Boxed ((W.setCell ⟨w.heap.size,0,none⟩ (.slice p ys.length cap)).setCell ⟨w.heap.size+1,0,none⟩ (.int .i64 0)) w.heap.size 44 (.slice p ys.length cap):=(hInv.r0.set _).other aJ _;have k1:Boxed ((W.setCell ⟨w.heap.size,0,none⟩ (.slice p ys.length cap)).setCell ⟨w.heap.size+1,0,none⟩ (.int .i64 0)) (w.heap.size+1) 43 (.int .i64 0):=(hInv.r1.other aJ _).set _;refine xm (run_takeDeferred hm) (results165 rfl rfl (tG k0 hm) (tG k1 hm)) ⟨_,rfl,?_,AO ((hInv.below.setCell (p:=⟨w.heap.size,0,none⟩) (au _) _).setCell (p:=⟨w.heap.size+1,0,none⟩) dx _) aJ⟩;have:=abo (JW (JW hrow (by omega:w.heap.size<_) (.slice p ys.length cap)) (by omega:w.heap.size+1<_) (.int .i64 0)) (by omega:w.heap.size<=_) hm (o := .deferred none)
   simpa[Function.comp_def] using this
 case stop =>
  rintro D c pre W hD hpre hOut hK;obtain rfl:=hOut.ret;have hsp:gH s=([],60):=by simp[gH,hs47,Qk hpre hOut.bad]
  gi_wp2
  refine xm (run_takeDeferred hK) (results165 rfl rfl (tG hOut.r0 hK) (tG hOut.r1 hK)) ⟨_,rfl,World.ownsRow_nil _ _ _ _,AO hOut.below aJ⟩
def Xr(s:Bytes)(ha:pk s)(hs:s.length<=100000)(w:World) :
  Calls Tryz.prog 165 #[.string (bs s)] w fun e W'=>∃v,e = .returned (.tuple #[v,.int .i64 (gH s).2])/\W'.ownsRow w.heap.size 9 1 v (gH s).1.length ((gH s).1.map Hb)/\Below w.heap.size w W' :=
 callsIn_wide.1 (Xt 6 aJ s ha hs w)
end
end
instance (s:Bytes):Decidable (pk s):=inferInstanceAs (Decidable True)
def Ep:List ag->aC->Option (ag×aC)
 | [.str s],M=>if pk s/\s.length<=100000 then some (.tuple [.slice .sh ((gH s).1.map .str),.int .i64 (gH s).2],M) else none
 |_,_=>none
def Ql{args:List ag}{M:aC}{x:ag×aC}(h:Ep args M=some x):dr Tryz.prog 165 args M x:=by
 unfold Ep at h;split at h
 ·rename_i s;split at h
  ·rename_i hs;cases h;refine nN.call ?_;intro j w vs hr hG hl hv;obtain⟨u,rfl⟩:=C2 hl;have h1:=(hv 0 _ u rfl rfl).kB;subst h1;refine(Xr s hs.1 hs.2 w).mono ?_;rintro e w' ⟨v,rfl,⟨dQ,hown⟩,hb⟩;refine⟨_,j,rfl,hr.grow hb.size hb.os hb.tape hb.output hb.block,Ext.grow hb.size hb.os hb.tape hb.output hb.block,.tuple rfl ?_⟩;intro i c v' hi hv'
   match i with
   |0 =>
    cases hi; cases hv';refine .plain ?_;rcases hown with ⟨rfl,h0⟩|⟨g,cap,cur,rfl,hg,hg',hn1,_,hcs,htk⟩
    ·rw[dz.1 h0];exact fR.nil _ _ _
    ·refine .slice _ _ _ _ g 0 1 (fun k=>Hb ((gH s).1.getD k [])) dx (by simpa using hn1) (fun _=>rfl) ?_ ?_ ?_
     ·intro x hx;obtain⟨b,_,rfl⟩:=eL.1 hx;rfl
     ·intro i x k c hx hc;rw[aX] at hx;obtain⟨b,hb',rfl⟩:=aV.1 hx
      match k with
      |0 =>
       have hi:i<(gH s).1.length:=(aj.1 hb').1;refine⟨?_,?_,?_,?_⟩
       ·have h1:cur.toList[i]?=some (Hb b):=by
         have:(cur.toList.take ((gH s).1.length*1))[i]?=some (Hb b):=by rw[htk,aX,hb']; rfl
         rwa[bH aJ] at this
        have h2:cur[i]?=some (Hb b):=by simpa using h1
        have h3:(gH s).1.getD i []=b:=by simp[List.getD,hb']
        simp only[pO,dp,aK];rw[h3];simp[World.cell?,hg',h2]
       ·exact lt_of_block hg'
       ·intro id hid hji;have:=hr.lt id g hid hji; omega
       ·intro hx; have:=hr.AF g _ hx; omega
      |k+1=>cases hc
     ·intro i x k c hx hc;rw[aX] at hx;obtain⟨b,hb',rfl⟩:=aV.1 hx
      match k with
      |0 =>
       cases hc;have h3:(gH s).1.getD i []=b:=by simp[List.getD,hb']
       simp only[pO,dp];rw[h3];exact .str _
      |k+1=>cases hc
   |1=>cases hi; cases hv'; exact .plain (.int _ _)
   |i+2=>cases hi
  ·cases h
 ·cases h
section
attribute [local irreducible] eX fJ lu gK eb kr aq aU cq bI
def rP:∀a:Bytes,strLt a a=false
 | []=>rfl
 |a::x=>by simp[strLt,rP x,oS]
def xM:∀ {a b c:Bytes},strLt a b=true->strLt b c=true->strLt a c=true
 | [],b,[],_,h2=>by cases b<;>simp[strLt] at h2
 | [],_,_::_,_,_=>rfl
 |_::_,[],_,h1,_=>by simp[strLt] at h1
 |_::_,_::_,[],_,h2=>by simp[strLt] at h2
 |a::x,b::y,c::z,h1,h2=>by
  simp only[strLt,df,bw,bh,eu] at h1 h2 ⊢;simp only[kX] at h1 h2 ⊢;rcases h1 with h1|⟨h1,h1'⟩
  ·rcases h2 with h2|⟨h2,_⟩
   ·left; omega
   ·left; rw[<-h2]; exact h1
  ·rcases h2 with h2|⟨h2,h2'⟩
   ·left; rw[h1]; exact h2
   ·right; exact⟨h1.trans h2,xM h1' h2'⟩
def sr{l:List gP}(h:ri l)(s:Bytes):Ov l s (mw l s):=by
 unfold mw;induction l with
 |nil=>exact⟨dx,fun h n hn=>by simp at hn⟩
 |cons a r ih =>
  obtain⟨h1,h2⟩:=du.1 h;obtain⟨i1,i2⟩:=ih h2
  by_cases ha:strLt a.name s=true
  ·rw[iz,aZ ha];refine⟨by simpa using i1,fun k n hn=>?_⟩
   cases k with
   |zero=>simp at hn; subst hn; simp[ha]
   |succ k=>rw[i2 k n (by simpa using hn)]; simp
  ·rw[iz,aR ha];refine⟨dx,fun k n hn=>?_⟩
   simp only[az,jJ,iff_false];cases k with
   |zero=>simp at hn; subst hn; exact ha
   |succ k=>exact fun hc=>ha (xM (h1 n (aE (by simpa using hn))) hc)
def jY{l:List gP}{s:Bytes}{e:gP}(h:gx l s=some e):e∈l/\e.name=s:=by
 unfold gx at h;exact⟨iG h,by simpa using List.find?_some h⟩
def w8{l:List gP}(h:ri l)(s:Bytes):(zY l s (mw l s)=true/\∃n,l[mw l s]?=some n/\gx l s=some n/\n.name=s)\/(zY l s (mw l s)=false/\gx l s=none):=by
 obtain⟨l1,l2⟩:=sr h s;cases hf:gx l s with
 |some n =>
  left;obtain⟨hm,he⟩:=jY hf;obtain⟨k,hk⟩:=bX hm;have hkb:¬k<mw l s:=fun hc=>by have:=(l2 k n hk).2 hc; rw[he,rP] at this; cases this
  have hb:mw l s<l.length:=by have:=(aj.1 hk).1; omega
  have hx:=ai hb;have hnl:¬strLt l[mw l s].name s=true:=fun hc=>ig _ ((l2 _ _ hx).1 hc)
  have hke:k=mw l s:=by
   rcases bC (mw l s) k with cJ|hge
   ·have hkl:=(aj.1 hk).1;have h3:=cm.1 h _ _ hb hkl cJ;have h4:l[k]=n:=by rw[ai hkl] at hk; injection hk
    rw[h4,he] at h3;exact absurd h3 hnl
   ·omega
  subst hke;exact⟨by unfold zY; rw[hk]; simp[he],n,hk,rfl,he⟩
 |none =>
  right;refine⟨?_,rfl⟩;unfold zY;split
  ·rename_i n hn;have:=fx.1 hf n (aE hn);simpa using this
  ·rfl
structure rV(t:Tree):Prop where
 mr:oZ t.ae
 bc:∀n,n∈t.ae->ri n.bc
def rV.dir{t:Tree}(h:rV t)(ar:Int):ri (gX t.ae ar).1.bc:=by
 unfold gX;split
 ·exact List.Pairwise.nil
 ·rename_i n hn;split
  ·exact h.bc n (cH hn).1
  ·exact List.Pairwise.nil
def aqu(t:Tree)(ar:Int)(s:Bytes)(ht:Small t)(hr:rV t)(hs:s.length<=100000)(ha:pk s):aq bZ 151 [br t,aF ar,.str s] []=some (.tuple [aF (fh t.ae ar s).1,aF (fh t.ae ar s).2],[]):=by
 obtain⟨ae,next,ak⟩:=t
 have hn:ae.length<=100000:=ht.ae;have hd:(gX ae ar).1.bc.length<=100000:=tI ht ar;have hE:ri (gX ae ar).1.bc:=hr.dir ar;have hk:=fun b M=>Zk ae next ak ar hr.mr hn 1 (b :: cC [ba ae,aF next,aF ak]::M) rfl
 refine aB ?_;simp only[acD,Kt,br,aM,hk,bL,aL,EN,seval];unfold fh;refine bA (fun hb=>?_) (fun hb=>?_)
 ·simp only[Kt,EN,seval];clear hk;simp_all
 ·simp only[Kt,afO,hs,ha,EN,seval];refine bA (fun hb'=>?_) (fun hb'=>?_)
  ·simp only[Kt,EN,seval];clear hk;simp_all
  ·have hk2:=fun a b c d u M=>S2 a b c d (gX ae ar).1.bc u s _ (sr hE s) hd M
   simp only[Kt,hk2,EN,seval];rcases w8 hE s with ⟨h1,e,h2,h3,_⟩|⟨h1,h2⟩
   ·simp only[Kt,h1,h2,gk,EN,seval];clear hk hk2;simp_all
   ·simp only[Kt,h1,EN,seval];clear hk hk2;simp_all
def Zi(ae:List Node)(next ak ar:Int)(s:Bytes)(ht:Small ⟨ae,next,ak⟩)(hr:rV ⟨ae,next,ak⟩)(hs:s.length<=100000)(ha:pk s)(M:aC):aU (aq bZ) 151 [.agg [ba ae,aF next,aF ak],aF ar,.str s] M =
  some (.tuple [aF (fh ae ar s).1,aF (fh ae ar s).2],M):=cO (aqu ⟨ae,next,ak⟩ ar s ht hr hs ha) M
def aq3(t:Tree)(ar:Int)(ht:Small t)(hr:rV t):aq bZ 191 [br t,aF ar] []=some (.tuple [bL (bm t.ae ar),.bool (find t.ae ar).isSome],[]):=by
 obtain⟨ae,next,ak⟩:=t
 have hn:ae.length<=100000:=ht.ae;have hk:=fun b c M=>Fe ae next ak ar hr.mr hn 2 (b::c :: cC [ba ae,aF next,aF ak]::M) rfl
 refine aB ?_;simp only[acV,aoU,br,aM,hk,bL,aL,EN,seval]
abbrev mV(n:Int):ag := .int .i64 n
def uF(l:List Int):wid (l.map mV) 1=True:=by
 simp only[fH,jb];intro x hx;obtain⟨n,_,rfl⟩:=eL.1 hx;rfl
def uD(ae:List Node):Nat->Int->List Int->List Int
 |0,_,out=>out
 |m+1,ar,out=>if ar != 1 then (if !(find ae ar).isSome||(bm ae ar).kind != 2 then out else uD ae m (bm ae ar).up (out++[(bm ae ar).up])) else out
def uJ(ae:List Node)(ar:Int):List Int:=uD ae ae.length ar [ar]
def aaw{ae:List Node}{next ak:Int}(h:oZ ae)(hn:ae.length<=100000){k:List K}{R:List Int->Option (ag×aC)}
  (hx:∀(out:List Int) v q,kr (aq bZ) [.tmp 4] 1 k ⟨.exit 0,[(0,cA 0),(1,v),(5,.slice (.own 1) (out.map mV)),(22,q)],[cC [ba ae,aF next,aF ak],.tick 1 out.length]⟩=R out)
  (hr:∀(out:List Int) b,kr (aq bZ) [.tmp 4] 1 k ⟨.ret,[(4,.slice (.own 1) (out.map mV))],[cC [ba ae,aF next,aF ak],.tick 1 out.length,b]⟩=R out) :
  ∀(m:Nat)(ar:Int)(out:List Int),out.length+m=ae.length+1->eX (aq bZ) [.tmp 4] 1 k (.loop [0,1,5] Z5) [(0,cA 0),(1,aF ar),(5,.slice (.own 1) (out.map mV))] [cC [ba ae,aF next,aF ak],.tick 1 out.length]=R (uD ae m ar out):=by
 intro m;induction m with
 |zero =>
  intro ar out ho;rw[bG];have hd':((out.length:Int)<=(ae.length:Int))=False:=gm;simp only[CC,EN,seval]
  repeat' ((first|apply bA|apply bV|apply dP)<;>intro hb<;>simp only[hb,EN,CC,hd',seval])
  all_goals exact hx _ _ _
 |succ m ih =>
  intro ar out ho;rw[bG];have hd':((out.length:Int)<=(ae.length:Int))=True:=gm;have r1:ct (out.length+1) 8=True:=qM;have hk:=fun M=>Fe ae next ak ar h hn 0 (cC [ba ae,aF next,aF ak]::M) rfl
  have hi:=ih (bm ae ar).up (out++[(bm ae ar).up]) gm;simp only[aW,aH,aQ,aA,aw,az,aK] at hi;rw[uD];simp only[CC,EN,seval];refine bV (fun hb=>?_) (fun hb=>?_)
  ·simp only[CC,hb,hd',hk,bL,aL,EN,seval];refine bV (fun hb1=>?_) (fun hb1=>?_)
   ·simp only[CC,hb1,EN,seval];refine bA (fun hb2=>?_) (fun hb2=>?_)
    ·simp only[CC,hb2,hb1,er,cV,EN,seval];exact hr _ _
    ·simp only[CC,hb2,hb1,r1,uF,fE,af,EN,seval];exact hi
   ·simp only[CC,hb1,dM,EN,seval];exact hr _ _
  ·simp only[CC,hb,af,EN,seval];exact hx _ _ _
def aq8(ae:List Node)(next ak ar:Int)(h:oZ ae)(hn:ae.length<=100000):aq bZ 200 [cA 0,aF ar] [cC [ba ae,aF next,aF ak]] =
  some (gG ((uJ ae ar).map mV),[cC [ba ae,aF next,aF ak]]):=by
 refine aB ?_;simp only[Sn,CC,EN,seval];exact aaw (R:=fun out=>some (gG (out.map mV),[cC [ba ae,aF next,aF ak]])) h hn (fun out v q=>by simp only[CC,EN,seval]) (fun out b=>by simp only[CC,EN,seval]) ae.length ar [ar] gm
def afP ae next ak ar h hn p M hM:=cM (p:=p) (M:=M) hM (aq8 ae next ak ar h hn)
def yo(ae:List Node):∀(m:Nat)(ar:Int)(out:List Int),out.length<=(uD ae m ar out).length/\(uD ae m ar out).length<=out.length+m
 |0,_,out=>⟨au _,au _⟩
 |m+1,ar,out=>by
  rw[uD];split
  ·split
   ·exact⟨au _,aJ⟩
   ·have:=yo ae m (bm ae ar).up (out++[(bm ae ar).up]);simp at this;omega
  ·exact⟨au _,aJ⟩
def uE(ae:List Node)(ar:Int):1<=(uJ ae ar).length/\(uJ ae ar).length<=ae.length+1:=by
 have:=yo ae ae.length ar [ar];simp at this;unfold uJ;omega
def arD(ae:List Node)(next ak ar:Int)(h:oZ ae)(hn:ae.length<=100000):aq bZ 239 [cA 0,aF ar] [cC [ba ae,aF next,aF ak]] =
  some (aF (((uJ ae ar).length-1:Nat):Int),[cC [ba ae,aF next,aF ak]]):=by
 refine aB ?_;have hk:=fun M=>afP ae next ak ar h hn 0 (cC [ba ae,aF next,aF ak]::M) rfl
 have hl:=uE ae ar;have hw:IntKind.i64.wrap (((uJ ae ar).length:Int)-1)=(((uJ ae ar).length-1:Nat):Int):=by rw[gA aJ aJ]; omega
 simp only[adp,ao8,hk,hw,EN,seval]
def amP ae next ak ar h hn p M hM:=cM (p:=p) (M:=M) hM (arD ae next ak ar h hn)
def BR(n:Node)(rest:List Node):∀(pre out:List Node),(∀m,m∈pre->m.ar<n.ar)->oz n (pre++rest) out false=oz n rest (out++pre) false
 | [],out,_=>dx
 |m::r,out,h=>by
  have hm:=h m (bD ..);have h1:¬n.ar<=m.ar:=aJ;have h2:¬m.ar=n.ar:=aJ;rw[aG,oz];simp only[p9,h1,h2,decide_false,dR,fE,af,aD];rw[BR n rest r _ fun x hx=>h x (bt _ hx)]
  simp
def zw(n:Node):∀(rest out:List Node),(∀m,m∈rest->n.ar<m.ar)->oz n rest out true=(out++rest,true)
 | [],out,_=>by simp[oz]
 |m::r,out,h=>by
  have hm:=h m (bD ..);have h2:¬m.ar=n.ar:=aJ;rw[oz];simp only[cu,cI,h2,dM,af,aD];rw[zw n r _ fun x hx=>h x (bt _ hx)]
  simp
def vS{ae:List Node}{ar:Int}{b:Nat}(h:Yi ae ar b):∀m,m∈ae.take b->m.ar<ar:=fun m hm=>by
 obtain⟨k,hk⟩:=bX hm;rw[fy] at hk;split at hk
 ·rename_i cJ; exact(h.lt k m hk).2 cJ
 ·cases hk
def FG{ae:List Node}{ar:Int}{b:Nat}(h:Yi ae ar b):∀m,m∈ae.drop b->ar<=m.ar:=fun m hm=>by
 obtain⟨k,hk⟩:=bX hm;rw[cF] at hk;have:=h.lt _ m hk;have hn:¬b+k<b:=aJ;have:=fun hc=>hn (this.1 hc)
 omega
def yp{ae:List Node}(h:oZ ae){n:Node}(hf:find ae n.ar=none):eV ae n=ae.take (mh ae n.ar)++n::ae.drop (mh ae n.ar):=by
 have hl:=uV h n.ar
 have hd:∀m,m∈ae.drop (mh ae n.ar)->n.ar<m.ar:=fun m hm=>by
  have h1:=FG hl m hm;have h2:=fx.1 hf m (dA hm);have:¬m.ar=n.ar:=by simpa using h2
  omega
 unfold eV;rw[show oz n ae [] false=oz n (ae.take (mh ae n.ar)++ae.drop (mh ae n.ar)) [] false by rw[cv]]
 rw[BR n _ _ _ (vS hl)];generalize ae.drop (mh ae n.ar)=rest at hd;cases rest with
 |nil=>simp[oz]
 |cons m r =>
  have hm:=hd m (bD ..);have h1:n.ar<=m.ar:=aJ;have h2:¬m.ar=n.ar:=aJ;rw[oz];simp only[p9,h1,h2,decide_true,dG,gb,er,aI,aD];rw[zw n r _ fun x hx=>hd x (bt _ hx)]
  simp
def tT{ae:List Node}(h:oZ ae){n o:Node}(ho:ae[mh ae n.ar]?=some o)(he:o.ar=n.ar):eV ae n=ae.set (mh ae n.ar) n:=by
 have hl:=uV h n.ar;have cJ:=(aj.1 ho).1
 have hdr:ae.drop (mh ae n.ar)=o::ae.drop (mh ae n.ar+1):=by
  rw[cW cJ];rw[ai cJ] at ho; injection ho with ho; rw[ho]
 have hd:∀m,m∈ae.drop (mh ae n.ar+1)->n.ar<m.ar:=fun m hm=>by
  obtain⟨k,hk⟩:=bX hm;rw[cF] at hk;have hkl:=(aj.1 hk).1;have h3:=cm.1 h _ _ cJ hkl aJ;have h4:ae[mh ae n.ar+1+k]=m:=by rw[ai hkl] at hk; injection hk
  have h5:ae[mh ae n.ar]=o:=by rw[ai cJ] at ho; injection ho
  rw[h4,h5] at h3;omega
 unfold eV;rw[show oz n ae [] false=oz n (ae.take (mh ae n.ar)++ae.drop (mh ae n.ar)) [] false by rw[cv]]
 rw[BR n _ _ _ (vS hl),hdr,oz];simp only[p9,he,dU,decide_true,dG,gb,er,aI,dg];rw[zw n _ _ hd,ju,aZ cJ];simp
def p85{ae:List Node}(h0:ae≠[])(hn:ae.length<=100000)(M:aC):aq bZ 241 [ba ae] M=some (.cD M.length 0 6 0 ae.length,M++[.arr 6 0 (ae.map bL)]):=by
 refine fg (g:=mR 6 80) rfl ?_;obtain⟨a,r,rfl⟩:=fj h0;have hw:wid ((a::r).map bL) 6:=by have:=GJ (a::r); simpa using this
 have hr:ct ((a::r).map bL).length 80:=by have:=sx (a:=(a::r).length) (b:=80) aJ aJ; simpa using this
 unfold mR;simp only[aH] at hw hr ⊢;rw[fi ⟨hw,hr⟩];simp
def p86{ae:List Node}{b:Nat}(hb:b<=ae.length)(hn:ae.length<=100000)(n:Node)(c0 c1:cL) :
  aq bZ 242 [.cD 2 0 6 0 ae.length,aF b,gG [.agg (aL n)]] [c0,c1,.arr 6 0 (ae.map bL)]=some (.cD 2 1 6 0 (ae.length+1),[c0,c1,.arr 6 1 ((ae.take b++n::ae.drop b).map bL)]):=by
 refine fg (g:=kZ 6 80) rfl ?_;have hr:ct ((ae.map bL).length+1) 80:=by have:=sx (a:=ae.length+1) (b:=80) aJ aJ; simpa using this
 unfold kZ;simp only[nth];rw[fi ⟨trivial,trivial,trivial,dx,aJ,by simpa using hb,rfl,hr⟩]
 simp[iR,bL]
def Xh(ae:List Node)(b:Nat)(o n:Node)(h:ae[b]?=some o):(iR (ae.map bL) b (putCells (bL o) 0 (aL n)))=(ae.set b n).map bL:=by
 have:putCells (bL o) 0 (aL n)=bL n:=rfl;rw[this,fe,gh]
def aqW(ae:List Node)(next ak:Int)(n:Node)(h:oZ ae)(h0:ae≠[])(hn:ae.length<=100000):aq bZ 182 [cA 0,bL n] [cC [ba ae,aF next,aF ak]] =
  some (.tuple [],[cC [ba (eV ae n),aF next,aF ak]]):=by
 refine aB ?_;have hk:=fun M=>afR ae next ak n.ar h hn 0 (cC [ba ae,aF next,aF ak]::M) rfl
 have hp:=fun M=>p85 h0 hn M
 have hle:=(uV h n.ar).le;simp only[Sh,aem,bL,aL,hk,hp,EN,seval];rcases tu h n.ar with ⟨h1,o,h2,h3,h4⟩|⟨h1,h2⟩
 ·have cJ:((mh ae n.ar:Int)<(ae.length:Int))=True:=by have:=(aj.1 h2).1; simp; omega
  simp only[aem,h1,h2,cJ,bP,gq,cZ,EN,seval];have e:=Xh ae _ o n h2;simp only[aL] at e;rw[e,tT h h2 h4,bB dx]
 ·have hi:=fun c0 c1=>p86 hle hn n c0 c1
  simp only[aL] at hi;simp only[aem,h1,hi,gq,cZ,EN,seval];rw[yp h h2,bB gm]
def LG(ae:List Node)(next ak a b c:Int)(d:Bytes)(e:List gP)(u:Int)(h:oZ ae)(h0:ae≠[])(hn:ae.length<=100000)(p:Nat)(M:aC)(hM:nth M p=some (cC [ba ae,aF next,aF ak])) :
  aU (aq bZ) 182 [cA p,.agg [aF a,aF b,aF c,cX d,jc e,aF u]] M=some (.tuple [],iR M p (cC [ba (eV ae ⟨a,b,c,d,e,u⟩),aF next,aF ak])) :=
 tv hM (aqW ae next ak ⟨a,b,c,d,e,u⟩ h h0 hn) rfl rfl rfl rfl rfl rfl rfl rfl rfl rfl
def FZ:(∀M cs,ag.rq M (.agg cs) = .agg (cs.map (ag.n9 M)))/\(∀M i o,ag.rq M (.ptr i o) = .ptr i o)/\(∀M k n,ag.rq M (.int k n) = .int k n)/\(∀M s,ag.rq M (.str s) = .str s) /\
  (∀M k n,ag.n9 M (.int k n) = .int k n)/\(∀M s,ag.n9 M (.str s) = .str s)/\(∀M tk xs,ag.n9 M (.slice tk xs) = .slice tk xs)/\(∀M b,ag.n9 M (.bool b) = .bool b) /\
  (∀M id ver sz lo hi,ag.n9 M (.cD id ver sz lo hi)=match nth M id with
   |some (.arr _ v xs)=>if v=ver then gG ((xs.take hi).drop lo) else .any
   |_ => .any)/\(∀i a b c d,ag.nH (.cD i a b c d)=[i]):=by
 refine⟨?_,?_,?_,?_,?_,?_,?_,?_,?_,?_⟩<;>intros<;>rfl
def AE{ae:List Node}(h:oZ ae){ar:Int}{o:Node}(ho:ae[mh ae ar]?=some o)(he:o.ar=ar):fQ ae ar=ae.take (mh ae ar)++ae.drop (mh ae ar+1):=by
 have hl:=uV h ar;have cJ:=(aj.1 ho).1
 have hd:∀m,m∈ae.drop (mh ae ar+1)->ar<m.ar:=fun m hm=>by
  obtain⟨k,hk⟩:=bX hm;rw[cF] at hk;have hkl:=(aj.1 hk).1;have h3:=cm.1 h _ _ cJ hkl aJ;have h4:ae[mh ae ar+1+k]=m:=by rw[ai hkl] at hk; injection hk
  have h5:ae[mh ae ar]=o:=by rw[ai cJ] at ho; injection ho
  rw[h4,h5] at h3;omega
 have hdr:ae.drop (mh ae ar)=o::ae.drop (mh ae ar+1):=by
  rw[cW cJ];rw[ai cJ] at ho; injection ho with ho; rw[ho]
 unfold fQ;rw[show ae.filter (fun n=>n.ar != ar)=(ae.take (mh ae ar)++ae.drop (mh ae ar)).filter (fun n=>n.ar != ar) by rw[cv]]
 rw[kE,hdr,fq];simp only[he,av,af,aD];rw[jj.2 fun m hm=>by have:=vS hl m hm; simp; omega,jj.2 fun m hm=>by have:=hd m hm; simp; omega]
def yN{ae:List Node}{ar:Int}(hf:find ae ar=none):fQ ae ar=ae :=
 jj.2 fun m hm=>by simpa using fx.1 hf m hm
def aub{ae:List Node}{b:Nat}(hb:b<ae.length)(hn:ae.length<=100000)(c0:cL) :
  aq bZ 283 [.cD 1 0 6 0 ae.length,aF b,aF ((b+1:Nat):Int)] [c0,.arr 6 0 (ae.map bL)]=some (.cD 1 1 6 0 (ae.length-1),[c0,.arr 6 1 ((ae.take b++ae.drop (b+1)).map bL)]):=by
 refine fg (g:=lJ 6) rfl ?_;unfold lJ;simp only[nth];rw[fi ⟨trivial,trivial,trivial,dx,aJ,by simpa using hb,aJ,gm⟩]
 simp[iR]
def arF(ae:List Node)(next ak ar:Int)(h:oZ ae)(hn:ae.length<=100000):aq bZ 244 [cA 0,aF ar] [cC [ba ae,aF next,aF ak]] =
  some (.tuple [],[cC [ba (fQ ae ar),aF next,aF ak]]):=by
 refine aB ?_;have hk:=fun M=>afR ae next ak ar h hn 0 (cC [ba ae,aF next,aF ak]::M) rfl
 simp only[St,aet,hk,EN,seval];rcases tu h ar with ⟨h1,o,h2,h3,h4⟩|⟨h1,h2⟩
 ·have cJ:=(aj.1 h2).1;have h0:ae≠[]:=by rintro rfl; simp at h2
  have hp:=fun M=>p85 h0 hn M
  have hd:=fun c0=>aub cJ hn c0
  have hw:IntKind.i64.wrap ((mh ae ar:Int)+1)=((mh ae ar+1:Nat):Int):=by rw[gA aJ aJ]; rfl
  simp only[aet,h1,hp,hd,hw,gq,cZ,EN,seval];rw[AE h h2 h4,bB gm]
 ·simp only[aet,h1,EN,seval];rw[yN h2]
def amQ(ae:List Node)(next ak ar:Int)(h:oZ ae)(hn:ae.length<=100000)(p:Nat)(M:aC)(hM:nth M p=some (cC [ba ae,aF next,aF ak])) :
  aU (aq bZ) 244 [cA p,aF ar] M=some (.tuple [],iR M p (cC [ba (fQ ae ar),aF next,aF ak])) :=
 tv hM (arF ae next ak ar h hn) rfl rfl rfl rfl rfl rfl rfl rfl rfl rfl
def Mp{a b:Bytes}(h:strLt a b=true):strLt b a=false:=by
 cases hb:strLt b a with
 |false=>rfl
 |true=>have:=xM h hb; rw[rP] at this; cases this
def xL:∀(a b:Bytes),strLt a b=true\/a=b\/strLt b a=true
 | [],[] => .inr (.inl rfl)
 | [],_::_ => .inl rfl
 |_::_,[] => .inr (.inr rfl)
 |a::x,b::y=>by
  simp only[strLt,df,bw,bh,eu,mD,kX];rcases xL x y with h|h|h
  ·rcases ja a.toNat b.toNat with h1|h1|h1
   ·exact .inl (.inl h1)
   ·exact .inl (.inr ⟨kM.1 h1,h⟩)
   ·exact .inr (.inr (.inl h1))
  ·rcases ja a.toNat b.toNat with h1|h1|h1
   ·exact .inl (.inl h1)
   ·exact .inr (.inl ⟨kM.1 h1,h⟩)
   ·exact .inr (.inr (.inl h1))
  ·rcases ja a.toNat b.toNat with h1|h1|h1
   ·exact .inl (.inl h1)
   ·exact .inr (.inr (.inr ⟨(kM.1 h1).symm,h⟩))
   ·exact .inr (.inr (.inl h1))
def Pm{a b:Bytes}(h:strLt a b=true):gtB a b=false:=by simp[gtB,h]
def Pk{a b:Bytes}(h:strLt b a=true):gtB a b=true:=by
 have h1:=Mp h;have h2:¬a=b:=by rintro rfl; rw[rP] at h; cases h
 simp[gtB,h1,h2]
def Jf(e:gP)(rest:List gP):∀(pre out:List gP),(∀m,m∈pre->strLt m.name e.name=true)->vF e (pre++rest) out false=vF e rest (out++pre) false
 | [],out,_=>dx
 |m::r,out,h=>by
  rw[aG,vF,Pm (h m (bD ..))];simp only[dR,fE,af,aD];rw[Jf e rest r _ fun x hx=>h x (bt _ hx)]
  simp
def F4(e:gP):∀(rest out:List gP),vF e rest out true=(out++rest,true)
 | [],out=>by simp[vF]
 |m::r,out=>by
  rw[vF];simp only[cu,cI,dM,af,aD];rw[F4 e r];simp
def BK{l:List gP}{s:Bytes}{b:Nat}(h:Ov l s b):∀m,m∈l.take b->strLt m.name s=true:=fun m hm=>by
 obtain⟨k,hk⟩:=bX hm;rw[fy] at hk;split at hk
 ·rename_i cJ; exact(h.lt k m hk).2 cJ
 ·cases hk
def DA{l:List gP}{s:Bytes}{b:Nat}(h:Ov l s b):∀m,m∈l.drop b->strLt m.name s=false:=fun m hm=>by
 obtain⟨k,hk⟩:=bX hm;rw[cF] at hk;have:=h.lt _ m hk;have hn:¬b+k<b:=aJ;cases hc:strLt m.name s with
 |false=>rfl
 |true=>exact absurd (this.1 hc) hn
def vE{l:List gP}(h:ri l){e:gP}(hf:gx l e.name=none):zd l e=l.take (mw l e.name)++e::l.drop (mw l e.name):=by
 have hl:=sr h e.name
 have hd:∀m,m∈l.drop (mw l e.name)->strLt e.name m.name=true:=fun m hm=>by
  have h1:=DA hl m hm;have h2:=fx.1 hf m (dA hm);have h3:¬m.name=e.name:=by simpa using h2
  rcases xL m.name e.name with h4|h4|h4
  ·rw[h1] at h4; cases h4
  ·exact absurd h4 h3
  ·exact h4
 unfold zd;rw[show vF e l [] false=vF e (l.take (mw l e.name)++l.drop (mw l e.name)) [] false by rw[cv]]
 rw[Jf e _ _ _ (BK hl)];generalize l.drop (mw l e.name)=rest at hd;cases rest with
 |nil=>simp[vF]
 |cons m r =>
  rw[vF,Pk (hd m (bD ..))];simp only[dG,gb,er,aI];rw[F4];simp
def FF{l:List gP}(h:ri l){s:Bytes}{o:gP}(ho:l[mw l s]?=some o)(he:o.name=s):j8 l s=l.take (mw l s)++l.drop (mw l s+1):=by
 have hl:=sr h s;have cJ:=(aj.1 ho).1
 have hdr:l.drop (mw l s)=o::l.drop (mw l s+1):=by
  rw[cW cJ];rw[ai cJ] at ho; injection ho with ho; rw[ho]
 have hd:∀m,m∈l.drop (mw l s+1)->strLt s m.name=true:=fun m hm=>by
  obtain⟨k,hk⟩:=bX hm;rw[cF] at hk;have hkl:=(aj.1 hk).1;have h3:=cm.1 h _ _ cJ hkl aJ;have h4:l[mw l s+1+k]=m:=by rw[ai hkl] at hk; injection hk
  have h5:l[mw l s]=o:=by rw[ai cJ] at ho; injection ho
  rw[h4,h5,he] at h3;exact h3
 have ne:∀ {a b:Bytes},strLt a b=true->¬a=b:=fun {a b} h=>by rintro rfl; rw[rP] at h; cases h
 unfold j8;rw[show l.filter (fun n=>n.name != s)=(l.take (mw l s)++l.drop (mw l s)).filter (fun n=>n.name != s) by rw[cv]]
 rw[kE,hdr,fq];simp only[he,av,af,aD];rw[jj.2 fun m hm=>by simpa using ne (BK hl m hm),jj.2 fun m hm=>by simpa using fun hc=>ne (hd m hm) hc.symm]
def Lf{l:List gP}{s:Bytes}(hf:gx l s=none):j8 l s=l :=
 jj.2 fun m hm=>by simpa using fx.1 hf m hm
def p58{l:List gP}(h0:l≠[])(hn:l.length<=100000)(M:aC):aq bZ 205 [jc l] M=some (.cD M.length 0 3 0 l.length,M++[.arr 3 0 (l.map iJ)]):=by
 refine fg (g:=mR 3 32) rfl ?_;obtain⟨a,r,rfl⟩:=fj h0;have hw:wid ((a::r).map iJ) 3:=by have:=Kg (a::r); simpa using this
 have hr:ct ((a::r).map iJ).length 32:=by have:=sx (a:=(a::r).length) (b:=32) aJ aJ; simpa using this
 unfold mR;simp only[aH] at hw hr ⊢;rw[fi ⟨hw,hr⟩];simp
def anK(M:aC):aq bZ 205 [gG []] M=some (.slice .c0 [],M):=fg (g:=mR 3 32) rfl rfl
def p87{l:List gP}{b:Nat}(hb:b<=l.length)(hn:l.length<=100000)(e:gP)(c0 c1:cL) :
  aq bZ 243 [.cD 2 0 3 0 l.length,aF b,gG [.agg (gk e)]] [c0,c1,.arr 3 0 (l.map iJ)]=some (.cD 2 1 3 0 (l.length+1),[c0,c1,.arr 3 1 ((l.take b++e::l.drop b).map iJ)]):=by
 refine fg (g:=kZ 3 32) rfl ?_;have hr:ct ((l.map iJ).length+1) 32:=by have:=sx (a:=l.length+1) (b:=32) aJ aJ; simpa using this
 unfold kZ;simp only[nth];rw[fi ⟨trivial,trivial,trivial,dx,aJ,by simpa using hb,rfl,hr⟩]
 simp[iR,iJ]
def aud(e:gP)(M:aC):aq bZ 243 [.slice .c0 [],aF 0,gG [.agg (gk e)]] M=some (.cD M.length 0 3 0 1,M++[.arr 3 0 [.agg (gk e)]]):=by
 refine fg (g:=kZ 3 32) rfl ?_
 show cq ((0:Int)=0/\(ag.agg (gk e)).cells.length=3) _=_
 exact fi ⟨rfl,rfl⟩
def p84{l:List gP}{b:Nat}(hb:b<l.length)(hn:l.length<=100000)(c0 c1:cL) :
  aq bZ 248 [.cD 2 0 3 0 l.length,aF b,aF ((b+1:Nat):Int)] [c0,c1,.arr 3 0 (l.map iJ)]=some (.cD 2 1 3 0 (l.length-1),[c0,c1,.arr 3 1 ((l.take b++l.drop (b+1)).map iJ)]):=by
 refine fg (g:=lJ 3) rfl ?_;unfold lJ;simp only[nth];rw[fi ⟨trivial,trivial,trivial,dx,aJ,by simpa using hb,aJ,gm⟩]
 simp[iR]
def Ms{ae:List Node}(h:oZ ae){n:Node}(hf:find ae n.ar=some n):eV ae n=ae:=by
 rcases tu h n.ar with ⟨_,o,h2,h3,h4⟩|⟨_,h2⟩
 ·rw[hf] at h3; cases h3;rw[tT h h2 rfl];apply cp;intro i
  by_cases e:mh ae n.ar=i
  ·subst e; rw[eE (aj.1 h2).1,h2]
  ·rw[fa e]
 ·rw[hf] at h2; cases h2
def aqX(ae:List Node)(next ak dir:Int)(s:Bytes)(ar:Int)(h:oZ ae)(hn:ae.length<=100000){n:Node}(hf:find ae dir=some n)(hE:ri n.bc)(hl:n.bc.length<=99999)(hs:gx n.bc s=none) :
  aq bZ 183 [cA 0,aF dir,.str s,aF ar] [cC [ba ae,aF next,aF ak]]=some (.tuple [],[cC (aM (iu ⟨ae,next,ak⟩ dir s ar))]):=by
 refine aB ?_;have h0:ae≠[]:=by rintro rfl; simp[find] at hf
 have hnn:bm ae dir=n:=by simp[bm,hf]
 have hk:=fun M=>Fe ae next ak dir h hn 0 (cC [ba ae,aF next,aF ak]::M) rfl
 have hk2:=fun a b c d u M=>S2 a b c d n.bc u s _ (sr hE s) aJ M
 have hle:=(sr hE s).le
 have hres:iu ⟨ae,next,ak⟩ dir s ar=⟨eV ae { n with bc:=n.bc.take (mw n.bc s)++⟨s,ar,ak⟩::n.bc.drop (mw n.bc s) },next,nz (ak+1)⟩:=by
  have:=vE hE (e:=⟨s,ar,ak⟩) hs;simp only[iu,hf,bz,this]
 rw[hres,aM];have hp:=fun a b c d e u M=>LG ae next (nz (ak+1)) a b c d e u h h0 hn 0 (cC [ba ae,aF next,aF (nz (ak+1))]::M) rfl
 simp only[Si,QU,hk,hnn,bL,aL,hk2,EN,seval]
 by_cases hne:n.bc=[]
 ·have hlow:mw n.bc s=0:=by rw[hne]; rfl
  have hi:=fun M=>aud ⟨s,ar,ak⟩ M
  simp only[gk] at hi;have hlow0:mw [] s=0:=rfl;have hc0:((0:Nat):Int)=0:=rfl;simp only[QU,hne,hlow0,hc0,jc,anK,hi,FZ,qm,EN,seval];rw[show gG [ag.agg [.str s,aF ar,aF ak]]=jc [⟨s,ar,ak⟩] from rfl]
  simp only[QU,hp,EN,seval]
 ·have hc:=fun M=>p58 hne (show n.bc.length<=100000 by omega) M
  have hi:=fun c0 c1=>p87 hle (show n.bc.length<=100000 by omega) ⟨s,ar,ak⟩ c0 c1
  simp only[gk] at hi;simp only[QU,hc,hi,FZ,qm,EN,seval];have ht:List.take (n.bc.length+1) (List.map iJ (List.take (mw n.bc s) n.bc++⟨s,ar,ak⟩::List.drop (mw n.bc s) n.bc))=List.map iJ (List.take (mw n.bc s) n.bc++⟨s,ar,ak⟩::List.drop (mw n.bc s) n.bc):=bB gm;rw[ht];simp only[QU,hp,EN,seval]
def Zj(ae:List Node)(next ak dir:Int)(s:Bytes)(ar:Int)(h:oZ ae)(hn:ae.length<=100000){n:Node}(hf:find ae dir=some n)(hE:ri n.bc)(hl:n.bc.length<=99999)(hs:gx n.bc s=none)(p:Nat)(M:aC)(hM:nth M p=some (cC [ba ae,aF next,aF ak])) :
  aU (aq bZ) 183 [cA p,aF dir,.str s,aF ar] M=some (.tuple [],iR M p (cC (aM (iu ⟨ae,next,ak⟩ dir s ar)))) :=
 tv hM (aqX ae next ak dir s ar h hn hf hE hl hs) rfl rfl rfl rfl rfl rfl rfl rfl rfl rfl
def aq5(ae:List Node)(next ak dir:Int)(s:Bytes)(h:oZ ae)(hn:ae.length<=100000){n:Node}(hf:find ae dir=some n)(hE:ri n.bc)(hl:n.bc.length<=99999) :
  aq bZ 195 [cA 0,aF dir,.str s] [cC [ba ae,aF next,aF ak]]=some (.tuple [],[cC [ba (dD ae dir s),aF next,aF ak]]):=by
 refine aB ?_;have h0:ae≠[]:=by rintro rfl; simp[find] at hf
 have hnn:bm ae dir=n:=by simp[bm,hf]
 have hino:n.ar=dir:=(cH hf).2;have hk:=fun M=>Fe ae next ak dir h hn 0 (cC [ba ae,aF next,aF ak]::M) rfl
 have hk2:=fun a b c d u M=>S2 a b c d n.bc u s _ (sr hE s) aJ M
 have hp:=fun a b c d e u M=>LG ae next ak a b c d e u h h0 hn 0 (cC [ba ae,aF next,aF ak]::M) rfl
 have hres:dD ae dir s=eV ae { n with bc:=j8 n.bc s }:=by simp only[dD,hf,bz]
 rw[hres];simp only[Sm,Ya,hk,hnn,bL,aL,hk2,EN,seval];rcases w8 hE s with ⟨h1,o,h2,h3,h4⟩|⟨h1,h2⟩
 ·have cJ:=(aj.1 h2).1;have hne:n.bc≠[]:=by intro hc; rw[hc] at h2; simp at h2
  have hc:=fun M=>p58 hne (show n.bc.length<=100000 by omega) M
  have hd:=fun c0 c1=>p84 cJ (show n.bc.length<=100000 by omega) c0 c1
  have hw:IntKind.i64.wrap ((mw n.bc s:Int)+1)=((mw n.bc s+1:Nat):Int):=by rw[gA aJ aJ]; rfl
  simp only[Ya,h1,hc,hd,hw,FZ,qm,EN,seval];have ht:List.take (n.bc.length-1) (List.map iJ (List.take (mw n.bc s) n.bc++List.drop (mw n.bc s+1) n.bc))=List.map iJ (List.take (mw n.bc s) n.bc++List.drop (mw n.bc s+1) n.bc):=bB gm;rw[ht];simp only[Ya,hp,EN,seval];rw[FF hE h2 h4]
 ·simp only[Ya,h1,EN,seval];rw[Lf h2];have:eV ae n=ae:=Ms h (by rw[hino]; exact hf)
  rw[show({ n with bc:=n.bc }:Node)=n from rfl,this]
def afN(ae:List Node)(next ak dir:Int)(s:Bytes)(h:oZ ae)(hn:ae.length<=100000){n:Node}(hf:find ae dir=some n)(hE:ri n.bc)(hl:n.bc.length<=99999)(p:Nat)(M:aC)(hM:nth M p=some (cC [ba ae,aF next,aF ak])) :
  aU (aq bZ) 195 [cA p,aF dir,.str s] M=some (.tuple [],iR M p (cC [ba (dD ae dir s),aF next,aF ak])) :=
 tv hM (aq5 ae next ak dir s h hn hf hE hl) rfl rfl rfl rfl rfl rfl rfl rfl rfl rfl
def kJ(ae:List Node)(n:Node):List Node:=if n.kind==2 then fQ ae n.ar else eV ae { n with eG:=nz (n.eG-1) }
def c196(ae:List Node)(next ak:Int)(n:Node)(h:oZ ae)(h0:ae≠[])(hn:ae.length<=100000) :
  aq bZ 196 [cA 0,bL n] [cC [ba ae,aF next,aF ak]]=some (.tuple [],[cC [ba (kJ ae n),aF next,aF ak]]):=by
 refine aB ?_;have hp:=fun a b c d e u M=>LG ae next ak a b c d e u h h0 hn 0 (cC [ba ae,aF next,aF ak]::M) rfl
 have hd:=fun M=>amQ ae next ak n.ar h hn 0 (cC [ba ae,aF next,aF ak]::M) rfl
 simp only[acZ,aeo,bL,aL,EN,seval];unfold kJ;refine bA (fun hb=>?_) (fun hb=>?_)
 ·simp only[aeo,hb,hd,EN,seval]
 ·simp only[aeo,hb,hp,af,EN,seval]
def amF(ae:List Node)(next ak a b c:Int)(d:Bytes)(e:List gP)(u:Int)(h:oZ ae)(h0:ae≠[])(hn:ae.length<=100000)(p:Nat)(M:aC)(hM:nth M p=some (cC [ba ae,aF next,aF ak])) :
  aU (aq bZ) 196 [cA p,.agg [aF a,aF b,aF c,cX d,jc e,aF u]] M=some (.tuple [],iR M p (cC [ba (kJ ae ⟨a,b,c,d,e,u⟩),aF next,aF ak])) :=
 tv hM (c196 ae next ak ⟨a,b,c,d,e,u⟩ h h0 hn) rfl rfl rfl rfl rfl rfl rfl rfl rfl rfl
def sy(ae:List Node)(ar:Int):Nat:=(uJ ae ar).length-1
def pj(t:Tree)(dir:Int)(s:Bytes):Int :=
 if (gX t.ae dir).2 != 0 then (gX t.ae dir).2 else if !fW s then 60 else if (gx (gX t.ae dir).1.bc s).isSome=true then 71 else
 if decide ((64:Int)<=(gX t.ae dir).1.bc.length)||(decide ((12:Int)<=sy t.ae dir)||decide ((1099511627776:Int)<=t.ak)) then 76 else 0
def aqV(ae:List Node)(next ak dir:Int)(s:Bytes)(ht:Small ⟨ae,next,ak⟩)(hr:rV ⟨ae,next,ak⟩)(hs:s.length<=100000)(ha:pk s) :
  aq bZ 181 [cA 0,aF dir,.str s] [cC [ba ae,aF next,aF ak]]=some (aF (pj ⟨ae,next,ak⟩ dir s),[cC [ba ae,aF next,aF ak]]):=by
 have hn:ae.length<=100000:=ht.ae;have hd:(gX ae dir).1.bc.length<=100000:=tI ht dir;have hE:ri (gX ae dir).1.bc:=hr.dir dir;have hk:=fun M=>Zk ae next ak dir hr.mr hn 0 (cC [ba ae,aF next,aF ak]::M) rfl
 have hk2:=fun a b c d u M=>S2 a b c d (gX ae dir).1.bc u s _ (sr hE s) hd M
 have hk3:∀M,aU (aq bZ) 239 [cA 0,aF dir] (cC [ba ae,aF next,aF ak]::M)=some (aF (sy ae dir),cC [ba ae,aF next,aF ak]::M):=fun M=>amP ae next ak dir hr.mr hn 0 (cC [ba ae,aF next,aF ak]::M) rfl
 refine aB ?_;simp only[acR,HV,hk,bL,aL,EN,seval];refine bA (fun hb=>?_) (fun hb=>?_)
 ·simp only[HV,hb,EN,seval];clear hk hk2 hk3;simp_all only[pj,qB,↓reduceIte,reduceCtorEq,av]
 simp only[HV,hb,afO,hs,ha,EN,seval];refine bA (fun hb1=>?_) (fun hb1=>?_)
 ·simp only[HV,hb1,EN,seval];clear hk hk2 hk3;simp_all only[pj,qB,↓reduceIte,reduceCtorEq,av]
 simp only[HV,hb1,hk2,EN,seval];rcases w8 hE s with ⟨h1,o,h2,h3,h4⟩|⟨h1,h2⟩
 ·simp only[HV,h1,EN,seval];clear hk hk2 hk3;simp_all only[pj,bW,qB,↓reduceIte,reduceCtorEq,av]
 ·simp only[HV,h1,EN,seval]
  repeat' ((first|apply bA|apply bV|apply dP)<;>intro hb<;>simp only[hb,EN,HV,hk3,seval])
  all_goals (clear hk hk2 hk3; simp_all only[pj,cY,qB,↓reduceIte,reduceCtorEq,av]; done)
def amC ae next ak dir s ht hr hs ha p M hM:=cM (p:=p) (M:=M) hM (aqV ae next ak dir s ht hr hs ha)
def Ad(x y:Node):Int:=if x.kind==2&&y.kind != 2 then 73 else if x.kind != 2&&y.kind==2 then 72 else if decide ((0:Int)<y.bc.length) then 74 else 0
def ara(x y:Node):aq bZ 202 [bL x,bL y] []=some (aF (Ad x y),[]):=by
 refine aB ?_;simp only[ac3,aiF,bL,aL,EN,seval]
 repeat' ((first|apply bA|apply bV|apply dP)<;>intro hb<;>simp only[hb,EN,aiF,seval])
 all_goals (simp_all only[Ad,qB,↓reduceIte,reduceCtorEq,av]; done)
def aq0(t:Tree)(ar:Int)(ht:Small t)(hr:rV t):aq bZ 187 [br t,aF ar] []=some (.tuple [br (kH t ar).1,aF (kH t ar).2],[]):=by
 obtain⟨ae,next,ak⟩:=t
 have hn:ae.length<=100000:=ht.ae;refine aB ?_;have hk:=fun b c M=>Fe ae next ak ar hr.mr hn 2 (b::c :: cC [ba ae,aF next,aF ak]::M) rfl
 have hd:=fun b c M=>amQ ae next ak ar hr.mr hn 2 (b::c :: cC [ba ae,aF next,aF ak]::M) rfl
 simp only[acT,aiE,br,aM,hk,bL,aL,EN,seval]
 repeat' ((first|apply bA|apply bV|apply dP)<;>intro hb<;>simp only[hb,EN,aiE,hd,seval])
 all_goals (clear hk hd; simp_all only[kH,br,aM,qB,↓reduceIte,reduceCtorEq,av]; done)
def asG(data:Bytes)(hd:data.length<=100000)(M:aC):aU (aq bZ) 160 [cX data] M=some (cX data,M):=by
 refine cO (fg (g:=pCC 1 1) rfl ?_) M;have hw:wid (data.map pZ) 1:=by have:=sm data; simpa using this
 have hr:ct (data.map pZ).length 1:=by have:=sx (a:=data.length) (b:=1) aJ aJ; simpa using this
 exact fi ⟨hw,hr⟩
def art(t:Tree)(ar:Int)(data:Bytes)(ht:Small t)(hr:rV t)(hd:data.length<=100000):aq bZ 225 [br t,aF ar,cX data] []=some (.tuple [br (rT t ar data).1,aF (rT t ar data).2],[]):=by
 obtain⟨ae,next,ak⟩:=t
 have hn:ae.length<=100000:=ht.ae;refine aB ?_;have hk:=fun b c M=>Fe ae next ak ar hr.mr hn 2 (b::c :: cC [ba ae,aF next,aF ak]::M) rfl
 simp only[adk,Yc,br,aM,hk,bL,aL,EN,seval];cases hf:find ae ar with
 |none =>
  simp only[Yc,cY,EN,seval];clear hk;simp_all only[rT,br,aM,cY,qB,↓reduceIte,reduceCtorEq,av]
 |some n =>
  have h0:ae≠[]:=by rintro rfl; simp[find] at hf
  have hp:=fun x y a b c d e u M=>LG ae next ak a b c d e u hr.mr h0 hn 2 (x::y :: cC [ba ae,aF next,aF ak]::M) rfl
  have hc:=fun M=>asG data hd M
  simp only[Yc,bW,EN,seval]
  repeat' ((first|apply bA|apply bV|apply dP)<;>intro hb<;>simp only[hb,EN,Yc,hp,hc,seval])
  all_goals (clear hk hp hc; simp_all only[rT,br,aM,bW,qB,↓reduceIte,reduceCtorEq,av]; done)
end
def KG{ae:List Node}(h:oZ ae){a b:Node}(ha:a∈ae)(hb:b∈ae)(he:a.ar=b.ar):a=b:=by
 obtain⟨i,hi⟩:=bX ha;obtain⟨k,hk⟩:=bX hb;have hil:=(aj.1 hi).1;have hkl:=(aj.1 hk).1;have e1:ae[i]=a:=by rw[ai hil] at hi; injection hi
 have e2:ae[k]=b:=by rw[ai hkl] at hk; injection hk
 rcases ja i k with cJ|heq|hgt
 ·have:=cm.1 h _ _ hil hkl cJ;rw[e1,e2] at this; omega
 ·subst heq; rw[<-e1,<-e2]
 ·have:=cm.1 h _ _ hkl hil hgt;rw[e1,e2] at this; omega
def ik{ae:List Node}(h:oZ ae){i:Int}{m:Node}:find ae i=some m↔m∈ae/\m.ar=i:=by
 refine⟨cH,fun⟨h1,h2⟩=>?_⟩
 cases hf:find ae i with
 |none =>
  have:=fx.1 hf m h1;simp[h2] at this
 |some k =>
  obtain⟨k1,k2⟩:=cH hf;rw[KG h h1 k1 aJ]
def qK{ae:List Node}{i:Int}:find ae i=none↔∀m,m∈ae->m.ar≠i:=by
 unfold find;rw[fx];simp
def yk{ae:List Node}{b:Nat}{o n:Node}(ho:ae[b]?=some o):ae=ae.take b++o::ae.drop (b+1)/\ae.set b n=ae.take b++n::ae.drop (b+1):=by
 have cJ:=(aj.1 ho).1;constructor
 ·rw[ai cJ] at ho; injection ho with ho
  conv=>lhs; rw[<-cv b ae]
  rw[cW cJ,ho]
 ·rw[ju,aZ cJ]
def vG{ae:List Node}(h:oZ ae){n m:Node}:m∈eV ae n↔m=n\/(m∈ae/\m.ar≠n.ar):=by
 rcases tu h n.ar with ⟨_,o,h2,h3,h4⟩|⟨_,h2⟩
 ·rw[tT h h2 h4];obtain⟨s1,s2⟩:=yk (n:=n) h2;have hon:o∈ae:=(cH h3).1;constructor
  ·intro hm;rw[s2] at hm;rcases bq.1 hm with hm|hm
   ·have hmn:=dS hm;have:=vS (uV h n.ar) m hm;exact .inr ⟨hmn,aJ⟩
   ·rcases bJ.1 hm with rfl|hm
    ·exact .inl rfl
    ·refine .inr ⟨dA hm,fun he=>?_⟩
     have hp:=h;unfold oZ at hp;rw[s1,ft] at hp;have:=(du.1 hp.2.1).1 m hm;omega
  ·rintro(rfl|⟨hm,hne⟩)
   ·rw[s2]; simp
   ·rw[s1] at hm;rw[s2];rcases bq.1 hm with hm|hm
    ·exact eK _ hm
    ·rcases bJ.1 hm with rfl|hm
     ·exact absurd h4 hne
     ·exact iI _ (bt _ hm)
 ·rw[yp h h2];rw[qK] at h2;constructor
  ·intro hm;rcases bq.1 hm with hm|hm
   ·have:=dS hm;exact .inr ⟨this,h2 m this⟩
   ·rcases bJ.1 hm with rfl|hm
    ·exact .inl rfl
    ·have:=dA hm;exact .inr ⟨this,h2 m this⟩
  ·rintro(rfl|⟨hm,_⟩)
   ·simp
   ·rw[<-cv (mh ae n.ar) ae] at hm;rcases bq.1 hm with hm|hm
    ·exact eK _ hm
    ·exact iI _ (bt _ hm)
def lM{ae:List Node}(h:oZ ae)(n:Node):oZ (eV ae n):=by
 have hl:=uV h n.ar;rcases tu h n.ar with ⟨_,o,h2,h3,h4⟩|⟨_,h2⟩
 ·rw[tT h h2 h4];obtain⟨s1,s2⟩:=yk (n:=n) h2;have hp:=h;unfold oZ at hp ⊢;rw[s1,ft] at hp;obtain⟨p1,p2,p3⟩:=hp;obtain⟨p4,p5⟩:=du.1 p2;rw[s2,ft];refine⟨p1,du.2 ⟨fun m hm=>by have:=p4 m hm; omega,p5⟩,fun a ha c hc=>?_⟩
  rcases bJ.1 hc with rfl|hc
  ·exact vS hl a ha
  ·exact p3 a ha c (bt _ hc)
 ·rw[yp h h2];have hp:=h;unfold oZ at hp ⊢;rw[<-cv (mh ae n.ar) ae,ft] at hp;obtain⟨p1,p2,p3⟩:=hp;rw[qK] at h2;rw[ft];refine⟨p1,du.2 ⟨fun m hm=>?_,p2⟩,fun a ha c hc=>?_⟩
  ·have k1:=FG hl m hm;have k2:=h2 m (dA hm);omega
  ·rcases bJ.1 hc with rfl|hc
   ·exact vS hl a ha
   ·exact p3 a ha c hc
def gu{ae:List Node}(h:oZ ae)(n:Node)(i:Int):find (eV ae n) i=if i=n.ar then some n else find ae i:=by
 split
 ·rename_i he;exact(ik (lM h n)).2 ⟨(vG h).2 (.inl rfl),he.symm⟩
 ·rename_i hne;cases hf:find ae i with
  |none =>
   rw[qK] at hf ⊢;intro m hm;rcases(vG h).1 hm with rfl|⟨hm,_⟩
   ·exact fun he=>hne he.symm
   ·exact hf m hm
  |some m =>
   obtain⟨h1,h2⟩:=cH hf;exact(ik (lM h n)).2 ⟨(vG h).2 (.inr ⟨h1,aJ⟩),h2⟩
def rQ{ae:List Node}(h:oZ ae)(i:Int):oZ (fQ ae i):=jQ _ h
def mo{ae:List Node}(h:oZ ae)(k i:Int):find (fQ ae k) i=if i=k then none else find ae i:=by
 split
 ·rename_i he;rw[qK];intro m hm;have:=(eo.1 hm).2;simp at this;omega
 ·rename_i hne;cases hf:find ae i with
  |none =>
   rw[qK] at hf ⊢;exact fun m hm=>hf m (eo.1 hm).1
  |some m =>
   obtain⟨h1,h2⟩:=cH hf;exact(ik (rQ h k)).2 ⟨eo.2 ⟨h1,gm⟩,h2⟩
def SQ{l:List gP}(h:ri l){e:gP}(hf:gx l e.name=none):ri (zd l e):=by
 rw[vE h hf];have hl:=sr h e.name;have hp:=h;unfold ri at hp ⊢;rw[<-cv (mw l e.name) l,ft] at hp;obtain⟨p1,p2,p3⟩:=hp;rw[ft];refine⟨p1,du.2 ⟨fun m hm=>?_,p2⟩,fun a ha c hc=>?_⟩
 ·have k1:=DA hl m hm;have k2:¬m.name=e.name:=by simpa using fx.1 hf m (dA hm)
  rcases xL m.name e.name with h4|h4|h4
  ·rw[k1] at h4; cases h4
  ·exact absurd h4 k2
  ·exact h4
 ·rcases bJ.1 hc with rfl|hc
  ·exact BK hl a ha
  ·exact p3 a ha c hc
def AV{l:List gP}(h:ri l)(s:Bytes):ri (j8 l s):=jQ _ h
def rV.with{t:Tree}(h:rV t){n:Node}(hn:ri n.bc)(next ak:Int):rV ⟨eV t.ae n,next,ak⟩ :=
 ⟨lM h.mr n,fun m hm=>by
  rcases(vG h.mr).1 hm with rfl|⟨hm,_⟩
  ·exact hn
  ·exact h.bc m hm⟩
def rV.u6{t:Tree}(h:rV t)(i next ak:Int):rV ⟨fQ t.ae i,next,ak⟩ :=
 ⟨rQ h.mr i,fun m hm=>h.bc m (eo.1 hm).1⟩
def rV.node{t:Tree}(h:rV t)(i:Int):ri (bm t.ae i).bc:=by
 cases hf:find t.ae i with
 |none=>simp[bm,hf,Node.zero]; exact List.Pairwise.nil
 |some n=>simp[bm,hf]; exact h.bc n (cH hf).1
def rV.left{t:Tree}(h:rV t)(i:Int)(s:Bytes)(next ak:Int):rV ⟨dD t.ae i s,next,ak⟩ :=
 h.with (n:={ bm t.ae i with bc:=j8 (bm t.ae i).bc s }) (AV (h.node i) s) next ak
def rV.nL{t:Tree}(h:rV t)(i:Int)(s:Bytes)(of:Int)(hf:gx (bm t.ae i).bc s=none):rV (iu t i s of) :=
 h.with (n:={ bm t.ae i with bc:=zd (bm t.ae i).bc ⟨s,of,t.ak⟩ }) (SQ (h.node i) hf) t.next (nz (t.ak+1))
section
attribute [local irreducible] eX fJ lu gK eb kr aq aU cq bI
def y8{ae:List Node}{dir:Int}(h:(gX ae dir).2=0):∃d,find ae dir=some d/\d.kind=2/\gX ae dir=(d,0):=by
 unfold gX at h ⊢;split at h
 ·cases h
 ·rename_i d hd;split at h
  ·rename_i hk; exact⟨d,hd,hk,by simp[hd,hk]⟩
  ·cases h
def V7{t:Tree}{dir:Int}{s:Bytes}(h:(pj t dir s != 0)=false):∃d,find t.ae dir=some d/\d.kind=2/\fW s=true/\gx d.bc s=none/\d.bc.length<64/\sy t.ae dir<12/\t.ak<1099511627776:=by
 have h:pj t dir s=0:=by simpa using h
 unfold pj at h;split at h
 ·rename_i hc;rw[h] at hc; cases hc
 ·rename_i hc;obtain⟨d,h1,h2,h3⟩:=y8 (by simpa using hc)
  rw[h3] at h;split at h
  ·cases h
  ·rename_i hk;split at h
   ·cases h
   ·rename_i hf;split at h
    ·cases h
    ·rename_i hm;simp at hk hf hm;exact⟨d,h1,h2,hk,hf,aJ,aJ,aJ⟩
def KC(t:Tree)(ar:Int)(s:Bytes)(kind:Int):Tree×Int×Int :=
 if kind != 1&&kind != 2 then (t,0,1) else if pj t ar s != 0 then (t,0,pj t ar s) else
 if decide ((200:Int)<=t.ae.length)||decide ((1099511627776:Int)<=t.next) then (t,0,76) else
 (iu ⟨eV t.ae ⟨t.next,kind,1,[],[],if kind==2 then ar else 0⟩,nz (t.next+1),t.ak⟩ ar s t.next,t.next,0)
def aqq(t:Tree)(dir:Int)(s:Bytes)(kind:Int)(hz:Sz 1000 t)(hr:rV t)(hs:s.length<=100000)(ha:pk s)(jw:∀m,m∈t.ae->m.ar<t.next) :
  aq bZ 147 [br t,aF dir,.str s,aF kind] []=some (.tuple [br (KC t dir s kind).1,aF (KC t dir s kind).2.1,aF (KC t dir s kind).2.2],[]):=by
 obtain⟨ae,next,ak⟩:=t
 have ht:Small ⟨ae,next,ak⟩:=hz.small aJ
 have hn:ae.length<=100000:=ht.ae;have hk:=fun b c M=>amC ae next ak dir s ht hr hs ha 2 (b::c :: cC [ba ae,aF next,aF ak]::M) rfl
 have last:(pj ⟨ae,next,ak⟩ dir s != 0)=false->∀u,ae≠[]/\∀b c M,aU (aq bZ) 183 [cA 2,aF dir,.str s,aF next] (b::c :: cC [ba (eV ae ⟨next,kind,1,[],[],u⟩),aF (nz (next+1)),aF ak]::M) =
   some (.tuple [],b::c :: cC (aM (iu ⟨eV ae ⟨next,kind,1,[],[],u⟩,nz (next+1),ak⟩ dir s next))::M):=fun hm u=>by
  obtain⟨d,d1,d2,d3,d4,d5,d6,d7⟩:=V7 hm;have dm:=cH d1;have cJ:=jw d dm.1;simp only at cJ;refine⟨by rintro rfl; simp[find] at d1,fun b c M=>?_⟩
  have hz1:Sz 1001 ⟨eV ae ⟨next,kind,1,[],[],u⟩,nz (next+1),ak⟩:=hz.with (n:=⟨next,kind,1,[],[],u⟩) dx dx (nz (next+1)) ak
  have hf:find (eV ae ⟨next,kind,1,[],[],u⟩) dir=some d:=by rw[gu hr.mr,aR gm]; exact d1
  exact Zj (eV ae ⟨next,kind,1,[],[],u⟩) (nz (next+1)) ak dir s next (lM hr.mr _) (hz1.small aJ).ae hf (hr.bc d dm.1) aJ d4 2 (b::c :: cC [ba (eV ae ⟨next,kind,1,[],[],u⟩),aF (nz (next+1)),aF ak]::M) rfl
 refine aB ?_;simp only[acA,aef,br,aM,hk,EN,seval]
 repeat' ((first|apply bA|apply bV|apply dP)<;>intro hb<;>simp only[hb,EN,aef,hk,seval])
 all_goals try (clear hk last; simp_all only[KC,br,aM,qB,↓reduceIte,reduceCtorEq,av]; done)
 all_goals
  have hm:(pj ⟨ae,next,ak⟩ dir s != 0)=false:=by assumption
  have h0:=(last hm 0).1
  have hp:∀u b c M,aU (aq bZ) 182 [cA 2,.agg [aF next,aF kind,aF 1,gG [],gG [],aF u]] (b::c :: cC [ba ae,aF (nz (next+1)),aF ak]::M) =
    some (.tuple [],b::c :: cC [ba (eV ae ⟨next,kind,1,[],[],u⟩),aF (nz (next+1)),aF ak]::M):=fun u b c M=>LG ae (nz (next+1)) ak next kind 1 [] [] u hr.mr h0 hn 2 (b::c :: cC [ba ae,aF (nz (next+1)),aF ak]::M) rfl
  have hl:=fun u=>(last hm u).2
  simp only[aef,hp,hl,aM,EN,seval];clear hk last hp hl;simp_all only[KC,br,aM,qB,↓reduceIte,reduceCtorEq,av]
def lnW(t:Tree)(ar to:Int)(s:Bytes):Tree×Int :=
 if !(find t.ae ar).isSome||((bm t.ae ar).kind==1&&(bm t.ae ar).eG==0) then (t,70) else if (bm t.ae ar).kind==2 then (t,72) else
 if pj t to s != 0 then (t,pj t to s) else
 (iu ⟨eV t.ae { bm t.ae ar with eG:=nz ((bm t.ae ar).eG+1) },t.next,t.ak⟩ to s ar,0)
def aqs(t:Tree)(ar dir:Int)(s:Bytes)(hz:Sz 1000 t)(hr:rV t)(hs:s.length<=100000)(ha:pk s) :
  aq bZ 149 [br t,aF ar,aF dir,.str s] []=some (.tuple [br (lnW t ar dir s).1,aF (lnW t ar dir s).2],[]):=by
 obtain⟨ae,next,ak⟩:=t
 have ht:Small ⟨ae,next,ak⟩:=hz.small aJ
 have hn:ae.length<=100000:=ht.ae;have hg:=fun b c M=>Fe ae next ak ar hr.mr hn 2 (b::c :: cC [ba ae,aF next,aF ak]::M) rfl
 have hk:=fun b c M=>amC ae next ak dir s ht hr hs ha 2 (b::c :: cC [ba ae,aF next,aF ak]::M) rfl
 have last:(pj ⟨ae,next,ak⟩ dir s != 0)=false->(find ae ar).isSome=true->((bm ae ar).kind==2)=false->∀l,ae≠[]/\∀b c M,aU (aq bZ) 183 [cA 2,aF dir,.str s,aF ar] (b::c :: cC [ba (eV ae { bm ae ar with eG:=l }),aF next,aF ak]::M) =
   some (.tuple [],b::c :: cC (aM (iu ⟨eV ae { bm ae ar with eG:=l },next,ak⟩ dir s ar))::M):=fun hm hi hkd l=>by
  obtain⟨d,d1,d2,d3,d4,d5,d6,d7⟩:=V7 hm;have dm:=cH d1;refine⟨by rintro rfl; simp[find] at d1,fun b c M=>?_⟩
  have hfd:=hz.find ar;have hz1:Sz 1001 ⟨eV ae { bm ae ar with eG:=l },next,ak⟩:=hz.with (n:={ bm ae ar with eG:=l }) (iZ hfd.1) hfd.2 next ak
  obtain⟨n,hfn⟩:=fz.1 hi;have hnn:bm ae ar=n:=by simp[bm,hfn]
  have hne:¬dir=(bm ae ar).ar:=fun he=>by
   rw[hnn] at he hkd;have h1:=(cH hfn).2;rw[he,h1,hfn] at d1;injection d1 with d1
   subst d1;simp[d2] at hkd
  have hf:find (eV ae { bm ae ar with eG:=l }) dir=some d:=by rw[gu hr.mr,aR hne]; exact d1
  exact Zj (eV ae { bm ae ar with eG:=l }) next ak dir s ar (lM hr.mr _) (hz1.small aJ).ae hf (hr.bc d dm.1) aJ d4 2 (b::c :: cC [ba (eV ae { bm ae ar with eG:=l }),aF next,aF ak]::M) rfl
 refine aB ?_;simp only[acB,aeg,br,aM,hg,bL,aL,EN,seval]
 repeat' ((first|apply bA|apply bV|apply dP)<;>intro hb<;>simp only[hb,EN,aeg,hk,seval])
 all_goals try (clear hk hg last; simp_all only[lnW,br,aM,qB,↓reduceIte,reduceCtorEq,av]; done)
 all_goals
  have hm:(pj ⟨ae,next,ak⟩ dir s != 0)=false:=by assumption
  have h2:((bm ae ar).kind==2)=false:=by assumption
  have h3:(!(find ae ar).isSome)=false:=by assumption
  have h3:(find ae ar).isSome=true:=by simpa using h3
  have h0:=(last hm h3 h2 0).1;have hp:=fun a b c d e u x y M=>LG ae next ak a b c d e u hr.mr h0 hn 2 (x::y :: cC [ba ae,aF next,aF ak]::M) rfl
  have hl:=fun l=>(last hm h3 h2 l).2
  simp only[aeg,hp,hl,aM,EN,seval];clear hk hg last hp hl;simp_all only[lnW,br,aM,qB,↓reduceIte,reduceCtorEq,av]
def look_ok{ae:List Node}{dir:Int}{s:Bytes}(h:((fh ae dir s).2 != 0)=false):∃d e,find ae dir=some d/\d.kind=2/\fW s=true/\gx d.bc s=some e/\fh ae dir s=(e.ar,0):=by
 have h:(fh ae dir s).2=0:=by simpa using h
 have h':=h;unfold fh at h;split at h
 ·rename_i hc; exact absurd h hc
 ·rename_i hc;obtain⟨d,h1,h2,h3⟩:=y8 (by simpa using hc)
  rw[h3] at h;split at h
  ·cases h
  ·rename_i hk;split at h
   ·cases h
   ·rename_i e he;have hk:fW s=true:=by simpa using hk
    refine⟨d,e,h1,h2,hk,he,?_⟩;unfold fh;rw[h3];simp[hk,he]
def unW(t:Tree)(dir:Int)(s:Bytes):Tree×Int×Int :=
 if (fh t.ae dir s).2 != 0 then (t,0,(fh t.ae dir s).2) else if decide ((0:Int)<(bm t.ae (fh t.ae dir s).1).bc.length) then (t,0,74) else
 (⟨kJ (dD t.ae dir s) (bm t.ae (fh t.ae dir s).1),t.next,t.ak⟩,(fh t.ae dir s).1,0)
def Jr{ae:List Node}(h:oZ ae){dir:Int}{s:Bytes}{d:Node}(hf:find ae dir=some d):dD ae dir s≠[]:=by
 intro hc
 have:({ d with bc:=j8 d.bc s }:Node)∈dD ae dir s:=by
  unfold dD;rw[hf];exact(vG h).2 (.inl rfl)
 rw[hc] at this;cases this
def aqt(t:Tree)(dir:Int)(s:Bytes)(hz:Sz 1000 t)(hr:rV t)(hs:s.length<=100000)(ha:pk s) :
  aq bZ 150 [br t,aF dir,.str s] []=some (.tuple [br (unW t dir s).1,aF (unW t dir s).2.1,aF (unW t dir s).2.2],[]):=by
 obtain⟨ae,next,ak⟩:=t
 have ht:Small ⟨ae,next,ak⟩:=hz.small aJ
 have hn:ae.length<=100000:=ht.ae;have hg:=fun b c M=>Fe ae next ak (fh ae dir s).1 hr.mr hn 2 (b::c :: cC [ba ae,aF next,aF ak]::M) rfl
 have hl:=fun M=>Zi ae next ak dir s ht hr hs ha M
 refine aB ?_;simp only[acC,QS,br,aM,hl,EN,seval];refine bA (fun hb=>?_) (fun hb=>?_)
 ·simp only[QS,hb,EN,seval];clear hg hl;simp_all only[unW,br,aM,qB,↓reduceIte,reduceCtorEq,av]
 obtain⟨d,e,d1,d2,d3,d4,d5⟩:=look_ok hb;have dm:=cH d1;have hde:d.bc.length<=1000:=hz.bc d dm.1;have hsz:Sz 1001 ⟨dD ae dir s,next,ak⟩:=hz.left dir s next ak
 have hv:=fun x y M=>afN ae next ak dir s hr.mr hn d1 (hr.bc d dm.1) aJ 2 (x::y :: cC [ba ae,aF next,aF ak]::M) rfl
 have hu:=fun a b c d' e' u x y M=>amF (dD ae dir s) next ak a b c d' e' u (hr.left dir s next ak).mr (Jr hr.mr d1) (hsz.small aJ).ae 2 (x::y :: cC [ba (dD ae dir s),aF next,aF ak]::M) rfl
 simp only[QS,hb,hg,bL,aL,EN,seval];refine bA (fun hb1=>?_) (fun hb1=>?_)
 ·simp only[QS,hb1,EN,seval];clear hg hl hv hu;simp_all only[unW,br,aM,qB,↓reduceIte,reduceCtorEq,av]
 ·simp only[QS,hb1,hv,hu,EN,seval];clear hg hl hv hu d5;simp_all only[unW,br,aM,qB,↓reduceIte,reduceCtorEq,av]
def LA(x:Int):List Int->Nat->Int
 | [],_ => -1
 |n::r,i=>if x==n then i else LA x r (i+1)
def Nh(x:Int):∀(l:List Int)(i:Nat),decide ((0:Int)<=LA x l i)=l.contains x
 | [],i=>by simp[LA]
 |n::r,i=>by
  unfold LA
  by_cases h:x=n
  ·simp[h]
  ·simp only[eu,h,aD,Nh x r (i+1),List.contains_cons];simp[h]
def aaB{l0:List Int}{x:Int}(hl:l0.length<=100000){k:List K}{R:Int->Option (ag×aC)}
  (hx:∀e,kr (aq bZ) [.tmp 4] 0 k ⟨.exit 0,e,[]⟩=R (-1)) (hr:∀(i:Nat),kr (aq bZ) [.tmp 4] 0 k ⟨.ret,[(4,aF i)],[]⟩=R i) :
  ∀(l pre:List Int),l0=pre++l->eX (aq bZ) [.tmp 4] 0 k (.loop [0,1,7,8] aac) [(0,gG (l0.map mV)),(1,aF x),(7,aF l0.length),(8,aF pre.length)] []=R (LA x l pre.length):=by
 intro l;induction l with
 |nil =>
  intro pre h;rw[bG];simp only[Kv,jL h,EN,seval];exact hx _
 |cons n r ih =>
  intro pre h;rw[bG];have dQ:pre.length+1<=100000:=by rw[h] at hl; simp at hl; omega
  have hw:=zy pre n;have hi:=ih (pre++[n]) (by rw[h]; simp)
  simp only[aA,aw,az,aK] at hi;rw[LA];simp only[Kv,iQ h,gU h,EN,seval];refine bA (fun hb=>?_) (fun hb=>?_)
  ·simp only[Kv,hb,EN,seval];exact hr _
  ·simp only[Kv,hb,hw,af,EN,seval];exact hi
def arL(l:List Int)(x:Int)(hl:l.length<=100000):aq bZ 252 [gG (l.map mV),aF x] []=some (aF (LA x l 0),[]):=by
 refine aB ?_;simp only[adw,Kv,EN,seval];exact aaB (R:=fun z=>some (aF z,[])) hl (fun e=>by simp only[Kv,EN,seval]) (fun i=>by simp only[Kv,EN,seval]) l [] rfl
def as9 l x hl:=cP (arL l x hl)
def aq9(l:List Int)(x:Int)(hl:l.length<=100000):aq bZ 201 [gG (l.map mV),aF x] []=some (.bool (l.contains x),[]):=by
 refine aB ?_;simp only[ac2,aoW,as9,hl,Nh,EN,seval]
def amG l x hl:=cP (aq9 l x hl)
def vd(ae:List Node)(at' own ar:Int)(n:Node):Bool :=
 n.kind==2&&((uJ ae n.ar).contains ar&&(decide ((12:Int)<nz (nz (nz (at'+(uJ ae n.ar).length)-1)-own))||(nz (nz (nz (at'+(uJ ae n.ar).length)-1)-own)==12&&decide ((0:Int)<n.bc.length))))
abbrev th(ae:List Node)(next ak at' own ar:Int):aC:=[.cells [.ptr 4 0],.cells [.int .i64 at'],.cells [.int .i64 own],.cells [.int .i64 ar],.cells [ba ae,.int .i64 next,.int .i64 ak]]
def arN(ae:List Node)(next ak at' own ar:Int)(n:Node)(h:oZ ae)(hn:ae.length<=99999) :
  aq bZ 254 [bL n,cA 0,cA 1,cA 2,cA 3] (th ae next ak at' own ar)=some (.bool (vd ae at' own ar n),th ae next ak at' own ar):=by
 refine aB ?_;have hk:=fun a b c d M=>afP ae next ak n.ar h aJ 4 (a::b::c::d :: cC [ba ae,aF next,aF ak]::M) rfl
 have hl:=uE ae n.ar;have hc:=fun M=>amG (uJ ae n.ar) ar aJ M
 simp only[ady,aiL,th,bL,aL,EN,seval]
 repeat' ((first|apply bA|apply bV|apply dP)<;>intro hb<;>simp only[hb,EN,aiL,hk,hc,seval])
 all_goals (clear hk hc; simp_all only[vd,nz,bne,iq,Bool.not_eq_false',qB,↓reduceIte,reduceCtorEq,av]; done)
end
def adZ(ae:List Node)(next ak at' own ar:Int):jZ (th ae next ak at' own ar) (iB [0,1,2,3,4]) [0,1,2,3,4]=some (th ae next ak at' own ar):=rfl
def anO(ae:List Node)(next ak at' own ar:Int):jZ [cC [ba ae,aF next,aF ak],cC [cA 0],cC [aF ar],cC [aF at'],cC [aF own]] (iB [1,3,4,2,0]) [1,3,4,2,0]=some (th ae next ak at' own ar):=rfl
section
attribute [local irreducible] eX fJ lu gK eb kr aq aU cq bI
def atb(ae:List Node)(next ak at' own ar:Int)(n:Node)(h:oZ ae)(hn:ae.length<=99999) :
  aU (aq bZ) 254 [.agg (aL n),cA 0,cA 1,cA 2,cA 3] (th ae next ak at' own ar)=some (.bool (vd ae at' own ar n),th ae next ak at' own ar) :=
 lj (ids:=[0,1,2,3,4]) rfl rfl (adZ ..) rfl rfl (arN ae next ak at' own ar n h hn) rfl rfl rfl rfl rfl
def ar2(ae:List Node)(next ak at' own ar:Int)(h:oZ ae)(hn:ae.length<=99999):aq bZ 287 [ba ae,.func 254 [cA 0,cA 1,cA 2,cA 3]] (th ae next ak at' own ar) =
  some (aF (qD (vd ae at' own ar) ae 0),th ae next ak at' own ar) :=
 DN (N:=100000) (sz:=6) (e:=aL) fu rfl aJ (fun _=>rfl) (fun _=>rfl) rfl rfl fun x _ => .inl ⟨_,_,rfl,atb ae next ak at' own ar x h hn⟩
def atk(ae:List Node)(next ak at' own ar:Int)(h:oZ ae)(hn:ae.length<=99999):aU (aq bZ) 287 [ba ae,.func 254 [cA 0,cA 1,cA 2,cA 3]] (th ae next ak at' own ar) =
  some (aF (qD (vd ae at' own ar) ae 0),th ae next ak at' own ar) :=
 lj (ids:=[0,1,2,3,4]) rfl rfl (adZ ..) rfl rfl (ar2 ae next ak at' own ar h hn) rfl rfl rfl rfl rfl
def arM(ae:List Node)(next ak at' own ar:Int)(h:oZ ae)(hn:ae.length<=99999):aq bZ 253 [ba ae,.func 254 [cA 0,cA 1,cA 2,cA 3]] (th ae next ak at' own ar) =
  some (.bool (ae.any (vd ae at' own ar)),th ae next ak at' own ar):=by
 refine aB ?_;have hk:=atk ae next ak at' own ar h hn
 simp only[th] at hk;simp only[adx,ape,th,hk,xj,EN,seval]
def ata(ae:List Node)(next ak at' own ar:Int)(h:oZ ae)(hn:ae.length<=99999) :
  aU (aq bZ) 253 [ba ae,.func 254 [cA 1,cA 3,cA 4,cA 2]] [cC [ba ae,aF next,aF ak],cC [cA 0],cC [aF ar],cC [aF at'],cC [aF own]] =
  some (.bool (ae.any (vd ae at' own ar)),[cC [ba ae,aF next,aF ak],cC [cA 0],cC [aF ar],cC [aF at'],cC [aF own]]) :=
 lj (ids:=[1,3,4,2,0]) rfl rfl (anO ..) rfl rfl (arM ae next ak at' own ar h hn) rfl rfl rfl rfl rfl
def IA(ae:List Node)(ar at':Int):Bool:=ae.any (vd ae at' (sy ae ar) ar)
def arb(ae:List Node)(next ak ar at':Int)(h:oZ ae)(hn:ae.length<=99999):aq bZ 203 [cA 0,aF ar,aF at'] [cC [ba ae,aF next,aF ak]] =
  some (.bool (IA ae ar at'),[cC [ba ae,aF next,aF ak]]):=by
 refine aB ?_;have hk:∀M,aU (aq bZ) 239 [cA 0,aF ar] (cC [ba ae,aF next,aF ak]::M)=some (aF (sy ae ar),cC [ba ae,aF next,aF ak]::M):=fun M=>amP ae next ak ar h aJ 0 (cC [ba ae,aF next,aF ak]::M) rfl
 have hd:=ata ae next ak at' (sy ae ar) ar h hn
 unfold IA;simp only[ac4,aoX,hk,hd,EN,seval]
def asU ae next ak ar at' h hn p M hM:=cM (p:=p) (M:=M) hM (arb ae next ak ar at' h hn)
def B7(l:List gP)(s:Bytes):gx (j8 l s) s=none:=by
 unfold gx j8;rw[fx];intro e he;have:=(eo.1 he).2;simpa using this
def vA{l:List gP}{s r:Bytes}(h:gx l r=none):gx (j8 l s) r=none:=by
 unfold gx j8 at *;rw[fx] at *;exact fun e he=>h e (eo.1 he).1
def kP{ae:List Node}(h:oZ ae){dir:Int}{s:Bytes}{d:Node}(hf:find ae dir=some d)(i:Int):find (dD ae dir s) i=if i=dir then some { d with bc:=j8 d.bc s } else find ae i:=by
 have hd:=(cH hf).2;unfold dD;rw[hf];simp only[bz];rw[gu h,show({ d with bc:=j8 d.bc s }:Node).ar=dir from hd]
def HN{ae:List Node}(h:oZ ae)(n:Node):oZ (kJ ae n):=by
 unfold kJ;split
 ·exact rQ h _
 ·exact lM h _
def E8{ae:List Node}(h:oZ ae)(n:Node){i:Int}(hi:i≠n.ar):find (kJ ae n) i=find ae i:=by
 unfold kJ;split
 ·rw[mo h,aR hi]
 ·rw[gu h,aR hi]
def Sz.kJ{b:Nat}{t:Tree}(h:Sz b t){n:Node}(h1:n.bc.length<=b+1)(h2:n.data.length<=100000)(next ak:Int):Sz (b+1) ⟨kJ t.ae n,next,ak⟩:=by
 unfold Go.Proofs.YteoamaffclmdbaaGreatDoor.kJ;split
 ·exact(h.u6 _ next ak).up aJ
 ·exact h.with (n:={ n with eG:=nz (n.eG-1) }) h1 h2 next ak
def yH(t:Tree)(dir:Int)(s:Bytes)(to:Int)(nm:Bytes)(ar:Int)(x y:Node)(there:Bool):Tree :=
 iu ⟨if x.kind==2 then eV (if there then kJ (dD (dD t.ae dir s) to nm) y else dD t.ae dir s) { x with up:=to }
  else if there then kJ (dD (dD t.ae dir s) to nm) y else dD t.ae dir s,t.next,t.ak⟩ to nm ar
set_option maxHeartbeats 1000000 in
def ah8(ae:List Node)(next ak dir:Int)(s:Bytes)(to:Int)(nm:Bytes)(ar:Int)(x y:Node)(there:Bool)(v5 v140:ag)(B0 Bd:cL)(yr:List ag)(hyr:there=true->aF y.ar::yr=aL y)(hz:Sz 1000 ⟨ae,next,ak⟩)(hr:rV ⟨ae,next,ak⟩){dd dt:Node}(hdir:find ae dir=some dd)(hto:find ae to=some dt)
  (hth:there=false->gx dt.bc nm=none) (hx:(x.kind==2)=true->x.ar≠to) (hy:there=true->y.ar≠to) (hx1:x.bc.length<=1000) (hx2:x.data.length<=100000) (hy1:y.bc.length<=1000) (hy2:y.data.length<=100000) :
  eX (aq bZ) [.dK 10 3,.tmp 11,.tmp 12] 0 [] NQ [(1,aF dir),(2,.str s),(3,aF to),(4,.str nm),(5,v5),(10,cA 1),(13,aF ar),(15,cA 2),(17,cA 4),(19,cA 5),(21,.bool there),(140,v140)]
   [B0,.cells zT,cC [ba ae,aF next,aF ak],Bd,cC (aL x),cC (aF y.ar::yr)]=some (.tuple [br (yH ⟨ae,next,ak⟩ dir s to nm ar x y there),aF y.ar,aF 0],[]):=by
 have hasc:oZ ae:=hr.mr;have n1:=hz.left dir s next ak
 have a1:oZ (dD ae dir s):=(hr.left dir s next ak).mr
 have e1:ri dd.bc:=hr.bc dd (cH hdir).1;have e2:ri dt.bc:=hr.bc dt (cH hto).1;have l1:dd.bc.length<=1000:=hz.bc dd (cH hdir).1;have l2:dt.bc.length<=1000:=hz.bc dt (cH hto).1
 obtain⟨d1,f1,g1,m1,q1⟩:∃d1,find (dD ae dir s) to=some d1/\ri d1.bc/\d1.bc.length<=1000/\(gx dt.bc nm=none->gx d1.bc nm=none):=by
  rw[kP hasc hdir];split
  ·rename_i he;subst he;rw[hdir] at hto; cases hto;exact⟨_,rfl,AV e1 s,aY (AW _ _) l1,vA⟩
  ·exact⟨dt,hto,e2,l2,id⟩
 have hv1:=fun a b M=>afN ae next ak dir s hasc (hz.small aJ).ae hdir e1 aJ 2 (a::b :: cC [ba ae,aF next,aF ak]::M) rfl
 have fin:∀(n3:List Node)(d3:Node),oZ n3->Sz 1003 ⟨n3,next,ak⟩->find n3 to=some d3->ri d3.bc->d3.bc.length<=1000->gx d3.bc nm=none ->
   (∀a b M,aU (aq bZ) 183 [cA 2,aF to,.str nm,aF ar] (a::b :: cC [ba n3,aF next,aF ak]::M)=some (.tuple [],a::b :: cC (aM (iu ⟨n3,next,ak⟩ to nm ar))::M)) /\
   ((x.kind==2)=true->(∀a b M,aU (aq bZ) 182 [cA 2,.agg [aF x.ar,aF x.kind,aF x.eG,cX x.data,jc x.bc,aF to]] (a::b :: cC [ba n3,aF next,aF ak]::M) =
     some (.tuple [],a::b :: cC [ba (eV n3 { x with up:=to }),aF next,aF ak]::M)) /\
    ∀a b M,aU (aq bZ) 183 [cA 2,aF to,.str nm,aF ar] (a::b :: cC [ba (eV n3 { x with up:=to }),aF next,aF ak]::M)=some (.tuple [],a::b :: cC (aM (iu ⟨eV n3 { x with up:=to },next,ak⟩ to nm ar))::M)):=by
  intro n3 d3 b1 b2 b3 b4 b5 b6;have h0:n3≠[]:=by rintro rfl; simp[find] at b3
  refine⟨fun a b M=>Zj n3 next ak to nm ar b1 (b2.small aJ).ae b3 b4 aJ b6 2 (a::b :: cC [ba n3,aF next,aF ak]::M) rfl,fun hk=>⟨fun a b M=>LG n3 next ak x.ar x.kind x.eG x.data x.bc to b1 h0 (b2.small aJ).ae 2 (a::b :: cC [ba n3,aF next,aF ak]::M) rfl,fun a b M=>?_⟩⟩
  have b7:Sz 1004 ⟨eV n3 { x with up:=to },next,ak⟩:=b2.with (n:={ x with up:=to }) (aY hx1 aJ) hx2 next ak
  have b8:find (eV n3 { x with up:=to }) to=some d3:=by rw[gu b1,aR (fun he=>hx hk he.symm)]; exact b3
  exact Zj (eV n3 { x with up:=to }) next ak to nm ar (lM b1 _) (b7.small aJ).ae b8 b4 aJ b6 2 (a::b :: cC [ba (eV n3 { x with up:=to }),aF next,aF ak]::M) rfl
 cases hth':there with
 |false =>
  obtain⟨w1,w2⟩:=fin (dD ae dir s) d1 a1 (n1.up aJ) f1 g1 m1 (q1 (hth hth'));cases hkx:(x.kind==2) with
  |false =>
   simp only[yO,hv1,zT,aL,hkx,w1,aM,EN,seval];simp only[yH,hkx,br,aM,qB,↓reduceIte,reduceCtorEq,av]
  |true =>
   obtain⟨w3,w4⟩:=w2 hkx;simp only[yO,hv1,zT,aL,hkx,w3,w4,aM,EN,seval];simp only[yH,hkx,br,aM,qB,↓reduceIte,reduceCtorEq,av]
 |true =>
  have hyr':yr=[aF y.kind,aF y.eG,cX y.data,jc y.bc,aF y.up]:=by have:=hyr hth'; simpa[aL] using this
  subst hyr';have a2:oZ (dD (dD ae dir s) to nm):=(rV.left (t:=⟨dD ae dir s,next,ak⟩) (hr.left dir s next ak) to nm next ak).mr
  have n2:=n1.left to nm next ak
  have f2:find (dD (dD ae dir s) to nm) to=some { d1 with bc:=j8 d1.bc nm }:=by rw[kP a1 f1,aZ rfl]
  have hv2:=fun a b M=>afN (dD ae dir s) next ak to nm a1 (n1.small aJ).ae f1 g1 aJ 2 (a::b :: cC [ba (dD ae dir s),aF next,aF ak]::M) rfl
  have hu:=fun a b M=>amF (dD (dD ae dir s) to nm) next ak y.ar y.kind y.eG y.data y.bc y.up a2 (Jr a1 f1) (n2.small aJ).ae 2 (a::b :: cC [ba (dD (dD ae dir s) to nm),aF next,aF ak]::M) rfl
  have f3:find (kJ (dD (dD ae dir s) to nm) y) to=some { d1 with bc:=j8 d1.bc nm }:=by rw[E8 a2 y (fun he=>hy hth' he.symm)]; exact f2
  obtain⟨w1,w2⟩:=fin (kJ (dD (dD ae dir s) to nm) y) { d1 with bc:=j8 d1.bc nm } (HN a2 y) (n2.kJ (aY hy1 aJ) hy2 next ak) f3 (AV g1 nm) (aY (AW _ _) m1) (B7 _ _)
  cases hkx:(x.kind==2) with
  |false =>
   simp only[yO,hv1,hv2,hu,zT,aL,hkx,w1,aM,EN,seval];simp only[yH,hkx,br,aM,qB,↓reduceIte,reduceCtorEq,av]
  |true =>
   obtain⟨w3,w4⟩:=w2 hkx;simp only[yO,hv1,hv2,hu,zT,aL,hkx,w3,w4,aM,EN,seval];simp only[yH,hkx,br,aM,qB,↓reduceIte,reduceCtorEq,av]
def mB(ae:List Node)(l:List gP)(s:Bytes):Node:=match gx l s with
 |none=>Node.zero
 |some e=>bm ae e.ar
def Ea(t:Tree)(dir to:Int)(bc:List gP)(there:Bool)(kind ar:Int):Bool :=
 ((!there&&to != dir)&&decide ((64:Int)<=bc.length))||(decide ((12:Int)<(uJ t.ae to).length)||((kind==2&&IA t.ae ar (uJ t.ae to).length)||decide ((1099511627776:Int)<=t.ak)))
def ND(t:Tree)(dir:Int)(s:Bytes)(to:Int)(nm:Bytes):Tree×Int×Int :=
 if (fh t.ae dir s).2 != 0 then (t,0,(fh t.ae dir s).2) else
 if (gX t.ae to).2 != 0 then (t,0,(gX t.ae to).2) else
 if !fW nm then (t,0,60) else
 if (mB t.ae (gX t.ae to).1.bc nm).ar==(fh t.ae dir s).1 then (t,0,0) else
 if (bm t.ae (fh t.ae dir s).1).kind==2&&(uJ t.ae to).contains (fh t.ae dir s).1 then (t,0,75) else
 if (gx (gX t.ae to).1.bc nm).isSome&&Ad (bm t.ae (fh t.ae dir s).1) (mB t.ae (gX t.ae to).1.bc nm) != 0 then (t,0,Ad (bm t.ae (fh t.ae dir s).1) (mB t.ae (gX t.ae to).1.bc nm)) else
 if Ea t dir to (gX t.ae to).1.bc (gx (gX t.ae to).1.bc nm).isSome (bm t.ae (fh t.ae dir s).1).kind (fh t.ae dir s).1 then (t,0,76) else
 (yH t dir s to nm (fh t.ae dir s).1 (bm t.ae (fh t.ae dir s).1) (mB t.ae (gX t.ae to).1.bc nm) (gx (gX t.ae to).1.bc nm).isSome,(mB t.ae (gX t.ae to).1.bc nm).ar,0)
def amH(a b c:Int)(d:Bytes)(e:List gP)(u:Int)(a' b' c':Int)(d':Bytes)(e':List gP)(u':Int)(M:aC):aU (aq bZ) 202 [.agg [aF a,aF b,aF c,cX d,jc e,aF u],.agg [aF a',aF b',aF c',cX d',jc e',aF u']] M=some (aF (Ad ⟨a,b,c,d,e,u⟩ ⟨a',b',c',d',e',u'⟩),M) :=
 cO (ara ⟨a,b,c,d,e,u⟩ ⟨a',b',c',d',e',u'⟩) M
def XK(ae:List Node)(to:Int):(uJ ae to).contains to=true:=by
 have key:∀(m:Nat)(ar:Int)(out:List Int),out.contains to=true->(uD ae m ar out).contains to=true:=by
  intro m;induction m with
  |zero=>intro ar out h; exact h
  |succ m ih =>
   intro ar out h;rw[uD];split
   ·split
    ·exact h
    ·exact ih _ _ (by simp at h ⊢; exact .inl h)
   ·exact h
 exact key _ _ _ dx
def Wf{ae:List Node}{i:Int}(h:(bm ae i).kind=2):(bm ae i).ar=i:=by
 cases hf:find ae i with
 |none=>simp[bm,hf,Node.zero] at h
 |some n=>simp[bm,hf]; exact(cH hf).2
set_option maxHeartbeats 4000000 in
def aqv(t:Tree)(dir:Int)(s:Bytes)(to:Int)(nm:Bytes)(hz:Sz 1000 t)(hr:rV t)(hs:s.length<=100000)(ha:pk s)(hs':nm.length<=100000)(ha':pk nm)
  (XU:∀e,gx (gX t.ae to).1.bc nm=some e->(bm t.ae e.ar).ar≠to) :
  aq bZ 152 [br t,aF dir,.str s,aF to,.str nm] []=some (.tuple [br (ND t dir s to nm).1,aF (ND t dir s to nm).2.1,aF (ND t dir s to nm).2.2],[]):=by
 obtain⟨Q,hQ⟩:∃Q,NQ=Q:=⟨_,rfl⟩;obtain⟨ae,next,ak⟩:=t
 have ht:Small ⟨ae,next,ak⟩:=hz.small aJ
 have hn:ae.length<=100000:=ht.ae;have hasc:oZ ae:=hr.mr;have hl:=fun M=>Zi ae next ak dir s ht hr hs ha M
 have hg:=fun i b c M=>Fe ae next ak i hasc hn 2 (b::c :: cC [ba ae,aF next,aF ak]::M) rfl
 have hd:=fun b c M=>Zk ae next ak to hasc hn 2 (b::c :: cC [ba ae,aF next,aF ak]::M) rfl
 have hup:=fun b c M=>afP ae next ak to hasc hn 2 (b::c :: cC [ba ae,aF next,aF ak]::M) rfl
 have hul:=uE ae to;have hn1:ae.length<=1000:=hz.ae;have hc:=fun x M=>amG (uJ ae to) x aJ M
 have hdp:=fun i a b c M=>asU ae next ak i a hasc aJ 2 (b::c :: cC [ba ae,aF next,aF ak]::M) rfl
 have hE:ri (gX ae to).1.bc:=hr.dir to;have hde:(gX ae to).1.bc.length<=100000:=tI ht to;have hen:=fun a b c d u M=>S2 a b c d (gX ae to).1.bc u nm _ (sr hE nm) hde M
 refine aB ?_;simp only[acE,yO,hQ,br,aM,hl,EN,seval];refine bA (fun hb0=>?_) (fun hb0=>?_)
 ·simp only[yO,hQ,hb0,EN,seval];clear hl hg hd hup hc hdp hen XU;simp_all only[ND,br,aM,qB,↓reduceIte,reduceCtorEq,av]
 simp only[yO,hQ,hb0,hd,bL,aL,EN,seval];refine bA (fun hb1=>?_) (fun hb1=>?_)
 ·simp only[yO,hQ,hb1,EN,seval];clear hl hg hd hup hc hdp hen XU;simp_all only[ND,br,aM,qB,↓reduceIte,reduceCtorEq,av]
 simp only[yO,hQ,hb1,afO,hs',ha',EN,seval];refine bA (fun hb2=>?_) (fun hb2=>?_)
 ·simp only[yO,hQ,hb2,EN,seval];clear hl hg hd hup hc hdp hen XU;simp_all only[ND,br,aM,qB,↓reduceIte,reduceCtorEq,av]
 simp only[yO,hQ,hb2,hg,hen,bL,aL,EN,seval];obtain⟨dd,de,e1,e2,e3,e4,e5⟩:=look_ok hb0;obtain⟨dt,g1,g2,g3⟩:=y8 (show(gX ae to).2=0 by simpa using hb1)
 have hx0:=hz.find (fh ae dir s).1;have tail:=fun there y yr hyr hth hy hy1 hy2 v5 v140 B0 Bd hxx=>ah8 ae next ak dir s to nm (fh ae dir s).1 (bm ae (fh ae dir s).1) y there v5 v140 B0 Bd yr hyr hz hr e1 g1 hth hxx hy hx0.1 hx0.2 hy1 hy2
 have hxne:((bm ae (fh ae dir s).1).kind==2)=true->(uJ ae to).contains (fh ae dir s).1=false->(bm ae (fh ae dir s).1).ar≠to:=fun h1 h2 h3=>by
  rw[Wf (by simpa using h1)] at h3
  rw[h3,XK] at h2; cases h2
 have hdte:dt.bc=(gX ae to).1.bc:=by rw[g3]
 rcases w8 hE nm with ⟨h1,o,h2,h3,h4⟩|⟨h1,h2⟩
 ·have hnu:mB ae (gX ae to).1.bc nm=bm ae o.ar:=by simp[mB,h3]
  have hy0:=hz.find o.ar;have tl:=tail true (bm ae o.ar) _ (fun _=>rfl) dx (fun _=>XU o h3) hy0.1 hy0.2
  simp only[aL,zT] at tl;simp only[yO,hQ,h1,h2,hg,bL,aL,gk,EN,seval]
  repeat' ((first|apply bA|apply bV|apply dP)<;>intro hb<;>simp only[hb,EN,yO,hQ,hup,hc,hdp,amH,seval])
  all_goals try (clear hl hg hd hup hc hdp hen XU tail tl hxne e5 g3; simp_all only[ND,Ea,br,aM,bW,qB,↓reduceIte,reduceCtorEq,av]; done)
  all_goals
   subst hQ;refine(tl _ _ _ _ (fun hk=>by first|exact hxne hk (by assumption)|(exfalso; simp_all; done))).trans ?_
   have hmv:ND ⟨ae,next,ak⟩ dir s to nm=(yH ⟨ae,next,ak⟩ dir s to nm (fh ae dir s).1 (bm ae (fh ae dir s).1) (bm ae o.ar) true,(bm ae o.ar).ar,0):=by
    clear hl hg hd hup hc hdp hen XU tail tl hxne e5 g3;simp_all only[ND,Ea,bW,qB,↓reduceIte,reduceCtorEq,av]
   rw[hmv];rfl
 ·have hnu:mB ae (gX ae to).1.bc nm=Node.zero:=by simp[mB,h2]
  have tl:=tail false Node.zero [aF 0,aF 0,.slice .c0 [],.slice .c0 [],aF 0] dx (fun _=>by rw[hdte]; exact h2) dx (by simp[Node.zero]) (by simp[Node.zero])
  have hz0:Node.zero.ar=0:=rfl;simp only[aL,zT,hz0] at tl;simp only[yO,hQ,h1,EN,seval]
  repeat' ((first|apply bA|apply bV|apply dP)<;>intro hb<;>simp only[hb,EN,yO,hQ,hup,hc,hdp,amH,seval])
  all_goals try (clear hl hg hd hup hc hdp hen XU tail tl hxne e5 g3; simp_all only[ND,Ea,br,aM,cY,qB,↓reduceIte,reduceCtorEq,av]; done)
  all_goals
   subst hQ;refine(tl _ _ _ _ (fun hk=>by first|exact hxne hk (by assumption)|(exfalso; simp_all; done))).trans ?_
   have hmv:ND ⟨ae,next,ak⟩ dir s to nm=(yH ⟨ae,next,ak⟩ dir s to nm (fh ae dir s).1 (bm ae (fh ae dir s).1) Node.zero false,0,0):=by
    clear hl hg hd hup hc hdp hen XU tail tl hxne e5 g3;simp_all only[ND,Ea,cY,qB,↓reduceIte,reduceCtorEq,av]
   rw[hmv];rfl
end
def ry(l:List gP)(i:Int):Nat:=l.countP fun e=>e.ar==i
def uO(ns:List Node)(i:Int):Nat:=(ns.map fun n=>ry n.bc i).sum
def zK(i:Int):ry [] i=0:=rfl
def zJ(a b:List gP)(i:Int):ry (a++b) i=ry a i+ry b i:=List.countP_append
def FD(e:gP)(l:List gP)(i:Int):ry (e::l) i=ry l i+(if e.ar=i then 1 else 0):=by simp[ry,lU]
def x6(a b:List Node)(i:Int):uO (a++b) i=uO a i+uO b i:=by simp[uO]
def vw(n:Node)(l:List Node)(i:Int):uO (n::l) i=ry n.bc i+uO l i:=by simp[uO]
def vx{ns:List Node}(h:oZ ns)(n:Node)(i:Int):uO (eV ns n) i+ry (bm ns n.ar).bc i=uO ns i+ry n.bc i:=by
 rcases tu h n.ar with ⟨_,o,h2,h3,h4⟩|⟨_,h2⟩
 ·rw[tT h h2 h4];obtain⟨s1,s2⟩:=yk (n:=n) h2
  have e1:uO ns i=uO (ns.take (mh ns n.ar)) i+(ry o.bc i+uO (ns.drop (mh ns n.ar+1)) i):=by
   rw[<-vw,<-x6,<-s1]
  rw[s2,x6,vw,e1];simp only[bm,h3,bz];omega
 ·rw[yp h h2]
  have e1:uO ns i=uO (ns.take (mh ns n.ar)) i+uO (ns.drop (mh ns n.ar)) i:=by
   rw[<-x6,cv]
  rw[x6,vw,e1];simp only[bm,h2,hZ,Node.zero,zK];omega
def G6{ns:List Node}(h:oZ ns)(k i:Int):uO (fQ ns k) i+ry (bm ns k).bc i=uO ns i:=by
 rcases tu h k with ⟨_,o,h2,h3,h4⟩|⟨_,h2⟩
 ·rw[AE h h2 h4];obtain⟨s1,_⟩:=yk (n:=o) h2
  have e1:uO ns i=uO (ns.take (mh ns k)) i+(ry o.bc i+uO (ns.drop (mh ns k+1)) i):=by
   rw[<-vw,<-x6,<-s1]
  rw[x6,e1];simp only[bm,h3,bz];omega
 ·rw[yN h2];simp only[bm,h2,hZ,Node.zero,zK];omega
def Iv{l:List gP}{i:Int}:0<ry l i↔∃e,e∈l/\e.ar=i:=by simp[ry,List.countP_pos_iff]
theorem wc{i:Int}:∀ {ns:List Node},0<uO ns i↔∃n e,n∈ns/\e∈n.bc/\e.ar=i
 | []=>by simp[uO]
 |n::ns=>by
  rw[vw];constructor
  ·intro h;rcases gZ (ry n.bc i) with h0|h0
   ·obtain⟨m,e,h1,h2,h3⟩:=(wc (i:=i) (ns:=ns)).1 aJ;exact⟨m,e,bt _ h1,h2,h3⟩
   ·obtain⟨e,h1,h2⟩:=Iv.1 h0;exact⟨n,e,bD,h1,h2⟩
  ·rintro⟨m,e,h1,h2,h3⟩;rcases bJ.1 h1 with rfl|h1
   ·have:=Iv.2 ⟨e,h2,h3⟩; omega
   ·have:=(wc (i:=i) (ns:=ns)).2 ⟨m,e,h1,h2,h3⟩; omega
def V8{l:List gP}(h:ri l){e:gP}(hf:gx l e.name=none){x:gP}:x∈zd l e↔x=e\/x∈l:=by
 rw[vE h hf];have:x∈l↔x∈l.take (mw l e.name)\/x∈l.drop (mw l e.name):=by rw[<-bq,cv]
 rw[this,bq,bJ];constructor
 ·rintro(h|h|h)
  ·exact .inr (.inl h)
  ·exact .inl h
  ·exact .inr (.inr h)
 ·rintro(h|h|h)
  ·exact .inr (.inl h)
  ·exact .inl h
  ·exact .inr (.inr h)
def OY{l:List gP}(h:ri l){e:gP}(hf:gx l e.name=none)(i:Int):ry (zd l e) i=ry l i+(if e.ar=i then 1 else 0):=by
 rw[vE h hf,zJ,FD];have:ry l i=ry (l.take (mw l e.name)) i+ry (l.drop (mw l e.name)) i:=by rw[<-zJ,cv]
 omega
def PM{l:List gP}{s:Bytes}{x:gP}:x∈j8 l s↔x∈l/\x.name≠s:=by simp[j8,eo]
def Mh{l:List gP}{b:Nat}{o:gP}(ho:l[b]?=some o):l=l.take b++o::l.drop (b+1):=by
 have cJ:=(aj.1 ho).1;rw[ai cJ] at ho; injection ho with ho
 conv=>lhs; rw[<-cv b l]
 rw[cW cJ,ho]
def K3{l:List gP}(h:ri l){s:Bytes}{o:gP}(hf:gx l s=some o)(i:Int):ry (j8 l s) i+(if o.ar=i then 1 else 0)=ry l i:=by
 rcases w8 h s with ⟨_,o',h2,h3,h4⟩|⟨_,h2⟩
 ·rw[hf] at h3; cases h3;rw[FF h h2 h4]
  have e1:ry l i=ry (l.take (mw l s)) i+(ry (l.drop (mw l s+1)) i+(if o.ar=i then 1 else 0)):=by
   rw[<-FD,<-zJ,<-Mh h2]
  rw[zJ,e1];omega
 ·rw[hf] at h2; cases h2
def yd{ns:List Node}(h:oZ ns){n o:Node}(hf:find ns n.ar=some o):(eV ns n).length=ns.length:=by
 rcases tu h n.ar with ⟨_,o,h2,h3,h4⟩|⟨_,h2⟩
 ·rw[tT h h2 h4,dh]
 ·rw[hf] at h2; cases h2
def Nm(s:Bytes):Prop:=fW s=true
structure dY(t:Tree)(dJ:Int->Nat)(x:Int):Prop where
 lL:rV t
 root:∃r,find t.ae 1=some r/\r.kind=2/\r.up=1
 num:∀i n,find t.ae i=some n->1<=i/\i<t.next
 kind:∀i n,find t.ae i=some n->n.kind=1\/n.kind=2
 file:∀i n,find t.ae i=some n->n.kind=1->n.bc=[]/\n.up=0/\n.data.length<=4096
 dir:∀i n,find t.ae i=some n->n.kind=2->n.data=[]
 CH:∀i n e,find t.ae i=some n->e∈n.bc->1<=e.ak/\e.ak<t.ak/\e.ar≠1/\Nm e.name/\∃m,find t.ae e.ar=some m/\(m.kind=2->m.up=i)
 yq:∀i n,find t.ae i=some n->(n.bc.Pairwise fun a b=>a.ak≠b.ak)/\n.bc.length<=64
 eG:∀i n,find t.ae i=some n->n.eG=(uO t.ae i:Int)+(if i=x then 1 else 0)
 one:∀i n,find t.ae i=some n->n.kind=2->i≠1->n.eG=1
 CF:dJ 1=0
 qI:∀i n,find t.ae i=some n->n.kind=2->i≠1->dJ i=dJ n.up+1/\∃p,find t.ae n.up=some p/\p.kind=2
 deep:∀i n,find t.ae i=some n->n.kind=2->dJ i<=12/\(dJ i=12->n.bc=[])
 ae:t.ae.length<=200
 next:t.next<=1099511627776
 ak:1<=t.ak/\t.ak<=1099511627776
def dY.ar{t:Tree}{dJ:Int->Nat}{x:Int}(_:dY t dJ x){i:Int}{n:Node}(hf:find t.ae i=some n):n.ar=i:=(cH hf).2
theorem dY.gI{t t':Tree}{dJ:Int->Nat}{x x' d:Int}{n n':Node}(h:dY t dJ x)(hs:rV t')(hd:find t.ae d=some n)
  (hf:∀i,find t'.ae i=if i=d then some n' else find t.ae i) (hk:n'.kind=n.kind) (hu:n'.up=n.up)
  (hfile:n.kind=1->n'.bc=[]/\n'.data.length<=4096) (hdir:n.kind=2->n'.data=[])
  (hent:∀e,e∈n'.bc->1<=e.ak/\e.ak<t'.ak/\e.ar≠1/\Nm e.name/\∃m,find t.ae e.ar=some m/\(m.kind=2->m.up=d))
  (hcook:(n'.bc.Pairwise fun a b=>a.ak≠b.ak)/\n'.bc.length<=64)
  (hc:∀i,1<=i->(uO t'.ae i:Int)+(if i=x' then 1 else 0)=uO t.ae i+(if i=x then 1 else 0)+(if i=d then n'.eG-n.eG else 0))
  (h1:n.kind=2->n'.eG=n.eG) (hdeep:dJ d=12->n'.bc=[]) (hn:t'.ae.length<=200) (hnx:t'.next=t.next) (hck:t.ak<=t'.ak) (hck':t'.ak<=1099511627776):dY t' dJ x':=by
 have rn:∀j m,find t.ae j=some m->∃m',find t'.ae j=some m'/\m'.kind=m.kind/\m'.up=m.up:=by
  grind
 have back:∀j m',find t'.ae j=some m'->(j=d/\m'=n')\/(j≠d/\find t.ae j=some m'):=by
  grind
 refine⟨hs,?_,?_,?_,?_,?_,?_,?_,?_,?_,h.CF,?_,?_,hn,by rw[hnx]; exact h.next,⟨by have:=h.ak.1; omega,hck'⟩⟩
 ·obtain⟨r,h1,h2,h3⟩:=h.root
  grind
 ·intro i m hm;rw[hnx];rcases back i m hm with ⟨rfl,rfl⟩|⟨_,hm⟩
  ·exact h.num _ _ hd
  ·exact h.num _ _ hm
 ·intro i m hm;rcases back i m hm with ⟨rfl,rfl⟩|⟨_,hm⟩
  ·rw[hk]; exact h.kind _ _ hd
  ·exact h.kind _ _ hm
 ·intro i m hm hk1;rcases back i m hm with ⟨rfl,rfl⟩|⟨_,hm⟩
  ·rw[hk] at hk1;exact⟨(hfile hk1).1,by rw[hu]; exact(h.file _ _ hd hk1).2.1,(hfile hk1).2⟩
  ·exact h.file _ _ hm hk1
 ·intro i m hm hk1;rcases back i m hm with ⟨rfl,rfl⟩|⟨_,hm⟩
  ·rw[hk] at hk1;exact hdir hk1
  ·exact h.dir _ _ hm hk1
 ·intro i m e hm he
  have key:∀m,find t.ae e.ar=some m/\(m.kind=2->m.up=i)->∃m,find t'.ae e.ar=some m/\(m.kind=2->m.up=i):=by
   grind
  rcases back i m hm with ⟨rfl,rfl⟩|⟨_,hm⟩
  ·obtain⟨a1,a2,a3,a4,k,a5⟩:=hent e he;exact⟨a1,a2,a3,a4,key k a5⟩
  ·obtain⟨a1,a2,a3,a4,k,a5⟩:=h.CH _ _ e hm he;exact⟨a1,aJ,a3,a4,key k a5⟩
 ·intro i m hm;rcases back i m hm with ⟨rfl,rfl⟩|⟨_,hm⟩
  ·exact hcook
  ·exact h.yq _ _ hm
 ·intro i m hm;rcases back i m hm with ⟨rfl,rfl⟩|⟨hne,hm⟩
  ·have:=hc i (h.num _ _ hd).1;have:=h.eG _ _ hd;simp only[↓reduceIte] at *;omega
  ·have:=hc i (h.num _ _ hm).1;have:=h.eG _ _ hm;omega
 ·intro i m hm hk1 hi;rcases back i m hm with ⟨rfl,rfl⟩|⟨_,hm⟩
  ·rw[hk] at hk1;rw[h1 hk1]; exact h.one _ _ hd hk1 hi
  ·exact h.one _ _ hm hk1 hi
 ·intro i m hm hk1 hi;rcases back i m hm with ⟨rfl,rfl⟩|⟨_,hm⟩
  ·rw[hk] at hk1;obtain⟨a,p,b,c⟩:=h.qI _ _ hd hk1 hi
   grind
  ·obtain⟨a,p,b,c⟩:=h.qI _ _ hm hk1 hi;obtain⟨p',k1,k2,_⟩:=rn _ _ b;exact⟨a,p',k1,aJ⟩
 ·intro i m hm hk1;rcases back i m hm with ⟨rfl,rfl⟩|⟨_,hm⟩
  ·rw[hk] at hk1;exact⟨(h.deep _ _ hd hk1).1,hdeep⟩
  ·exact h.deep _ _ hm hk1
theorem dY.left{t:Tree}{dJ:Int->Nat}{d:Int}{n:Node}{s:Bytes}{e:gP}(h:dY t dJ 0)(hd:find t.ae d=some n)(he:gx n.bc s=some e):dY ⟨dD t.ae d s,t.next,t.ak⟩ dJ e.ar:=by
 have hE:ri n.bc:=h.lL.bc n (cH hd).1;have hi:n.ar=d:=h.ar hd;have hem:=jY he;have hw:dD t.ae d s=eV t.ae { n with bc:=j8 n.bc s }:=by grind [dD]
 have hc:∀i,uO (dD t.ae d s) i+(if e.ar=i then 1 else 0)=uO t.ae i:=by
  intro i;have h1:=vx h.lL.mr { n with bc:=j8 n.bc s } i
  have h2:=K3 hE he i;rw[hw]
  grind
 refine h.gI (h.lL.left d s t.next t.ak) hd (kP h.lL.mr hd) rfl rfl ?_ ?_ ?_ ?_ ?_ (fun _=>rfl) ?_ ?_ rfl (dU _) h.ak.2
 ·intro hk;obtain⟨h1,_,h3⟩:=h.file _ _ hd hk
  grind
 ·exact h.dir _ _ hd
 ·intro x hx;exact h.CH _ _ x hd (PM.1 hx).1
 ·exact⟨jQ _ (h.yq _ _ hd).1,aY (bU _ _) (h.yq _ _ hd).2⟩
 ·grind
 ·intro h12;have:=(h.deep _ _ hd ?_).2 h12
  ·grind
  ·rcases h.kind _ _ hd with hk|hk
   ·have:=(h.file _ _ hd hk).1;rw[this] at hem; grind
   omega
 ·rw[hw,yd h.lL.mr (o:=n) jK];exact h.ae
theorem dY.nL{t:Tree}{dJ:Int->Nat}{x d:Int}{n m:Node}{s:Bytes}(h:dY t dJ x)(hd:find t.ae d=some n)(hk:n.kind=2)(he:gx n.bc s=none)(h64:n.bc.length<64)(hnm:Nm s)
  (hx:find t.ae x=some m) (hx1:x≠1) (hup:m.kind=2->m.up=d) (hdp:dJ d<12) (hck:t.ak<1099511627776):dY (iu t d s x) dJ 0:=by
 have hE:ri n.bc:=h.lL.bc n (cH hd).1;have hi:n.ar=d:=h.ar hd;have hcw:nz (t.ak+1)=t.ak+1:=gA (by have:=h.ak; omega) aJ
 have hw:iu t d s x=⟨eV t.ae { n with bc:=zd n.bc ⟨s,x,t.ak⟩ },t.next,t.ak+1⟩:=by grind [iu]
 have hfn:gx n.bc (gP.mk s x t.ak).name=none:=he
 have hc:∀i,uO (iu t d s x).ae i=uO t.ae i+(if x=i then 1 else 0):=by
  intro i;have h1:=vx h.lL.mr { n with bc:=zd n.bc ⟨s,x,t.ak⟩ } i
  have h2:=OY hE hfn i;rw[hw]
  grind
 have hff:∀i,find (iu t d s x).ae i=if i=d then some { n with bc:=zd n.bc ⟨s,x,t.ak⟩ } else find t.ae i:=by
  intro i;rw[hw];have:=gu h.lL.mr { n with bc:=zd n.bc ⟨s,x,t.ak⟩ } i
  rw[this]
  grind
 refine h.gI (h.lL.nL d s x jK) hd hff rfl rfl ?_ ?_ ?_ ?_ ?_ (fun _=>rfl) ?_ ?_ ?_ ?_ ?_
 ·omega
 ·exact h.dir _ _ hd
 ·intro e hem;rw[hw];rcases(V8 hE hfn).1 hem with rfl|hem
  ·exact⟨h.ak.1,jK,hx1,hnm,m,hx,hup⟩
  ·obtain⟨a1,a2,a3,a4,a5⟩:=h.CH _ _ e hd hem
   grind
 ·refine⟨?_,by simp only[vE hE hfn,aA,aw,cr,fS]; omega⟩
  rw[vE hE hfn];have hp:=(h.yq _ _ hd).1;rw[<-cv (mw n.bc s) n.bc,ft] at hp;obtain⟨p1,p2,p3⟩:=hp;rw[ft];refine⟨p1,du.2 ⟨fun a ha=>?_,p2⟩,fun a ha c hc=>?_⟩
  ·have:=(h.CH _ _ a hd (dA ha)).2.1
   grind
  ·rcases bJ.1 hc with rfl|hc
   ·have:=(h.CH _ _ a hd (dS ha)).2.1
    grind
   grind
 ·grind
 ·omega
 ·rw[hw];simp only;rw[yd h.lL.mr (o:=n) jK];exact h.ae
 ·rw[hw]
 ·rw[hw]; grind
 grind
theorem dY.RX{t:Tree}{dJ:Int->Nat}{x x' d:Int}{n n':Node}(h:dY t dJ x)(hd:find t.ae d=some n)(hk:n.kind=1)(hi':n'.ar=d)(hk':n'.kind=1)(hu:n'.up=n.up)(he:n'.bc=n.bc)(hda:n'.data.length<=4096)
  (hx:∀i:Int,1<=i->(if i=x' then 1 else 0:Int)=(if i=x then 1 else 0)+(if i=d then n'.eG-n.eG else 0)):dY ⟨eV t.ae n',t.next,t.ak⟩ dJ x':=by
 have hE:ri n'.bc:=by rw[he]; exact h.lL.bc n (cH hd).1
 have hff:∀i,find (eV t.ae n') i=if i=d then some n' else find t.ae i:=by
  intro i;rw[gu h.lL.mr n' i,hi']
 obtain⟨f1,f2,f3⟩:=h.file _ _ hd hk;refine h.gI (h.lL.with hE t.next t.ak) hd hff aJ hu ?_ ?_ ?_ ?_ ?_ ?_ ?_ ?_ rfl (dU _) h.ak.2
 ·grind
 ·omega
 ·grind
 ·rw[he,f1]; simp
 ·intro i h0;have h1:=vx h.lL.mr n' i
  grind
 ·omega
 ·grind
 ·simp only;rw[yd h.lL.mr (o:=n) jK];exact h.ae
theorem dY.named{t:Tree}{dJ:Int->Nat}{x:Int}(h:dY t dJ x){i:Int}{n:Node}(hi:find t.ae i=some n)(hk:n.kind=2)(h1:i≠1)(hx:i≠x):∃p e,find t.ae n.up=some p/\p.kind=2/\e∈p.bc/\e.ar=i:=by
 have a:=h.eG _ _ hi;have b:=h.one _ _ hi hk h1;obtain⟨m,e,e1,e2,e3⟩:=wc.1 (show 0<uO t.ae i by omega)
 have hm  := (ik h.lL.mr).2 ⟨e1,rfl⟩;obtain⟨_,_,_,_,k,k1,k2⟩:=h.CH _ _ e hm e2;rw[e3,hi] at k1; cases k1;obtain⟨_,p,p1,p2⟩:=h.qI _ _ hi hk h1;rw[k2 hk] at p1 ⊢
 grind
theorem dY.drop{t:Tree}{dJ:Int->Nat}{x k:Int}{n:Node}(h:dY t dJ x)(hx:x=k\/x=0)(hk:find t.ae k=some n)(he:n.bc=[])(h1:k≠1)(hc:uO t.ae k=0):dY ⟨fQ t.ae k,t.next,t.ak⟩ dJ 0:=by
 have hff:∀i m,find (fQ t.ae k) i=some m↔i≠k/\find t.ae i=some m:=by
  intro i m;rw[mo h.lL.mr];split<;>simp_all
 have hcn:∀i,uO (fQ t.ae k) i=uO t.ae i:=by
  intro i;have:=G6 h.lL.mr k i;simp_all [bm,bz,zK]
 have hno:∀i m e,find t.ae i=some m->e∈m.bc->e.ar≠k:=by
  grind [wc,cH]
 refine⟨h.lL.u6 k t.next t.ak,?_,?_,?_,?_,?_,?_,?_,?_,?_,h.CF,?_,?_,?_,h.next,h.ak⟩
 ·obtain⟨r,r1,r2⟩:=h.root
  grind
 ·intro i m hm; exact h.num _ _ ((hff _ _).1 hm).2
 ·intro i m hm; exact h.kind _ _ ((hff _ _).1 hm).2
 ·intro i m hm; exact h.file _ _ ((hff _ _).1 hm).2
 ·intro i m hm; exact h.dir _ _ ((hff _ _).1 hm).2
 ·intro i m e hm hem;have hm':=((hff _ _).1 hm).2;obtain⟨a1,a2,a3,a4,q,a5,a6⟩:=h.CH _ _ e hm' hem
  grind
 ·intro i m hm; exact h.yq _ _ ((hff _ _).1 hm).2
 ·intro i m hm;obtain⟨m1,m2⟩:=(hff _ _).1 hm;have:=h.eG _ _ m2;have h0:=(h.num _ _ m2).1;rw[aR (show i≠0 by omega)]
  grind
 ·intro i m hm; exact h.one _ _ ((hff _ _).1 hm).2
 ·intro i m hm hk2 hi1;obtain⟨m1,m2⟩:=(hff _ _).1 hm;obtain⟨a,p,b,c⟩:=h.qI _ _ m2 hk2 hi1;refine⟨a,p,(hff _ _).2 ⟨fun hh=>?_,b⟩,c⟩
  have h0:=(h.num _ _ m2).1;obtain⟨q,e,q1,_,q3,_⟩:=h.named m2 hk2 hi1 (by rcases hx with rfl|rfl<;>omega)
  rw[hh,hk] at q1; grind
 ·intro i m hm; exact h.deep _ _ ((hff _ _).1 hm).2
 ·exact aY (bU _ _) h.ae
theorem dY.aoa{t:Tree}{dJ dep':Int->Nat}{x to:Int}{n p:Node}(h:dY t dJ x)(hx:find t.ae x=some n)(hk:n.kind=2)(hx1:x≠1)(hp:find t.ae to=some p)(hpk:p.kind=2)
  (h1:dep' 1=0) (hds:∀i m,find t.ae i=some m->m.kind=2->i≠1->i≠x->dep' i=dep' m.up+1) (hdx:dep' x=dep' to+1)
  (hdeep:∀i m,find t.ae i=some m->m.kind=2->dep' i<=12/\(dep' i=12->m.bc=[])):dY ⟨eV t.ae { n with up:=to },t.next,t.ak⟩ dep' x:=by
 have hi:n.ar=x:=h.ar hx
 have hff:∀i,find (eV t.ae { n with up:=to }) i=if i=x then some { n with up:=to } else find t.ae i:=by
  intro i;rw[gu h.lL.mr { n with up:=to } i]
  simp only[hi]
 have rn:∀j m,find t.ae j=some m->∃m',find (eV t.ae { n with up:=to }) j=some m'/\m'.kind=m.kind/\(j≠x->m'.up=m.up):=by
  grind
 have back:∀j m',find (eV t.ae { n with up:=to }) j=some m'->(j=x/\m'={ n with up:=to })\/(j≠x/\find t.ae j=some m'):=by
  grind
 have hcn:∀i,uO (eV t.ae { n with up:=to }) i=uO t.ae i:=by
  intro i;have:=vx h.lL.mr { n with up:=to } i
  grind
 have hc0:uO t.ae x=0:=by
  have a:=h.eG _ n hx;have b:=h.one _ n hx hk hx1;simp only[↓reduceIte] at a;omega
 have hno:∀i m e,find t.ae i=some m->e∈m.bc->e.ar≠x:=by
  intro i m e hm hem hh;have:=wc.2 ⟨m,e,(cH hm).1,hem,hh⟩;omega
 have hent:∀i m e,find t.ae i=some m->e∈m.bc->1<=e.ak/\e.ak<t.ak/\e.ar≠1/\Nm e.name/\∃m,find (eV t.ae { n with up:=to }) e.ar=some m/\(m.kind=2->m.up=i):=by
  intro i m e hm hem;obtain⟨a1,a2,a3,a4,q,a5,a6⟩:=h.CH _ _ e hm hem
  grind
 refine⟨h.lL.with (n:={ n with up:=to }) (h.lL.bc n (cH hx).1) t.next t.ak,?_,?_,?_,?_,?_,?_,?_,?_,?_,h1,?_,?_,?_,h.next,h.ak⟩
 ·obtain⟨r,r1,r2,r3⟩:=h.root
  grind
 ·intro i m hm;rcases back i m hm with ⟨rfl,rfl⟩|⟨_,hm⟩
  ·exact h.num _ n hx
  ·exact h.num _ _ hm
 ·intro i m hm;rcases back i m hm with ⟨rfl,rfl⟩|⟨_,hm⟩
  ·exact h.kind _ n hx
  ·exact h.kind _ _ hm
 ·intro i m hm hk1;rcases back i m hm with ⟨rfl,rfl⟩|⟨_,hm⟩
  ·simp only at hk1; omega
  ·exact h.file _ _ hm hk1
 ·intro i m hm hk1;rcases back i m hm with ⟨rfl,rfl⟩|⟨_,hm⟩
  ·exact h.dir _ n hx hk
  ·exact h.dir _ _ hm hk1
 ·intro i m e hm hem;rcases back i m hm with ⟨rfl,rfl⟩|⟨_,hm⟩
  ·exact hent _ n e hx hem
  ·exact hent _ _ e hm hem
 ·intro i m hm;rcases back i m hm with ⟨rfl,rfl⟩|⟨_,hm⟩
  ·exact h.yq _ n hx
  ·exact h.yq _ _ hm
 ·intro i m hm;simp only[hcn];rcases back i m hm with ⟨rfl,rfl⟩|⟨_,hm⟩
  ·exact h.eG _ n hx
  ·exact h.eG _ _ hm
 ·intro i m hm hk1 hi1;rcases back i m hm with ⟨rfl,rfl⟩|⟨_,hm⟩
  ·exact h.one _ n hx hk hi1
  ·exact h.one _ _ hm hk1 hi1
 ·intro i m hm hk1 hi1;rcases back i m hm with ⟨rfl,rfl⟩|⟨hne,hm⟩
  ·obtain⟨p',k1,k2,_⟩:=rn _ _ hp;exact⟨hdx,p',k1,aJ⟩
  ·obtain⟨_,q,b,c⟩:=h.qI _ _ hm hk1 hi1;obtain⟨q',k1,k2,_⟩:=rn _ _ b;exact⟨hds _ _ hm hk1 hi1 hne,q',k1,aJ⟩
 ·intro i m hm hk1;rcases back i m hm with ⟨rfl,rfl⟩|⟨_,hm⟩
  ·exact hdeep _ n hx hk
  ·exact hdeep _ _ hm hk1
 ·simp only;rw[yd h.lL.mr (o:=n) (by simp only[hi]; exact hx)]
  exact h.ae
def dY.made{t:Tree}{dJ:Int->Nat}{d kind:Int}{p:Node}(h:dY t dJ 0)(hp:find t.ae d=some p)(hpk:p.kind=2)(hk:kind=1\/kind=2)(hdp:dJ d<12)(hl:t.ae.length<200)(hn:t.next<1099511627776) :
  dY ⟨eV t.ae ⟨t.next,kind,1,[],[],if kind==2 then d else 0⟩,t.next+1,t.ak⟩ (fun i=>if i=t.next then dJ d+1 else dJ i) t.next:=by
 have jw:find t.ae t.next=none:=by
  cases hz:find t.ae t.next with
  |none=>rfl
  |some m=>have:=h.num _ _ hz; omega
 have hnx:2<=t.next:=by
  obtain⟨r,r1,_⟩:=h.root;have:=(h.num _ _ r1).2; omega
 generalize hn':Node.mk t.next kind 1 [] [] (if kind==2 then d else 0)=n'
 have i1:n'.ar=t.next:=by rw[<-hn']
 have i2:n'.kind=kind:=by rw[<-hn']
 have i3:n'.eG=1:=by rw[<-hn']
 have i4:n'.data=[]:=by rw[<-hn']
 have i5:n'.bc=[]:=by rw[<-hn']
 have i6:n'.up=if kind==2 then d else 0:=by rw[<-hn']
 have hff:∀i,find (eV t.ae n') i=if i=t.next then some n' else find t.ae i:=by
  intro i;rw[gu h.lL.mr n' i,i1]
 have rn:∀j m,find t.ae j=some m->find (eV t.ae n') j=some m/\j≠t.next:=by
  intro j m hm;have:=(h.num _ _ hm).2;rw[hff,aR aJ];exact⟨hm,aJ⟩
 have back:∀j m',find (eV t.ae n') j=some m'->(j=t.next/\m'=n')\/(j≠t.next/\find t.ae j=some m'):=by
  intro j m' hm;rw[hff] at hm;split at hm
  ·rename_i he; injection hm with hm; exact .inl ⟨he,hm.symm⟩
  ·rename_i he; exact .inr ⟨he,hm⟩
 have hcn:∀i,uO (eV t.ae n') i=uO t.ae i:=by
  intro i;have:=vx h.lL.mr n' i;simp only[bm,i1,jw,hZ,Node.zero,i5,zK] at this;omega
 have hc0:uO t.ae t.next=0:=by
  rcases gZ (uO t.ae t.next) with h0|h0
  ·exact h0
  ·obtain⟨m,e,e1,e2,e3⟩:=wc.1 h0;obtain⟨_,_,_,_,k,k1,_⟩:=h.CH _ _ e ((ik h.lL.mr).2 ⟨e1,rfl⟩) e2;rw[e3,jw] at k1; cases k1
 refine⟨h.lL.with (n:=n') (by rw[i5]; exact List.Pairwise.nil) _ _,?_,?_,?_,?_,?_,?_,?_,?_,?_,?_,?_,?_,?_,?_,h.ak⟩
 ·obtain⟨r,r1,r2⟩:=h.root;exact⟨r,(rn _ _ r1).1,r2⟩
 ·intro i m hm;simp only;rcases back i m hm with ⟨rfl,rfl⟩|⟨_,hm⟩
  ·omega
  ·have:=h.num _ _ hm; omega
 ·intro i m hm;rcases back i m hm with ⟨rfl,rfl⟩|⟨_,hm⟩
  ·rw[i2]; exact hk
  ·exact h.kind _ _ hm
 ·intro i m hm hk1;rcases back i m hm with ⟨rfl,rfl⟩|⟨_,hm⟩
  ·rw[i2] at hk1;exact⟨i5,by rw[i6,hk1]; rfl,by rw[i4]; simp⟩
  ·exact h.file _ _ hm hk1
 ·intro i m hm hk1;rcases back i m hm with ⟨rfl,rfl⟩|⟨_,hm⟩
  ·exact i4
  ·exact h.dir _ _ hm hk1
 ·intro i m e hm hem;rcases back i m hm with ⟨rfl,rfl⟩|⟨_,hm⟩
  ·rw[i5] at hem; cases hem
  ·obtain⟨a1,a2,a3,a4,q,a5,a6⟩:=h.CH _ _ e hm hem;exact⟨a1,a2,a3,a4,q,(rn _ _ a5).1,a6⟩
 ·intro i m hm;rcases back i m hm with ⟨rfl,rfl⟩|⟨_,hm⟩
  ·rw[i5]; exact⟨List.Pairwise.nil,dx⟩
  ·exact h.yq _ _ hm
 ·intro i m hm;simp only[hcn];rcases back i m hm with ⟨rfl,rfl⟩|⟨hne,hm⟩
  ·rw[hc0,i3]; simp
  ·rw[aR hne];have:=h.eG _ _ hm;rw[aR (by have:=(h.num _ _ hm).1; omega)] at this
   exact this
 ·intro i m hm hk1 hi1;rcases back i m hm with ⟨rfl,rfl⟩|⟨_,hm⟩
  ·exact i3
  ·exact h.one _ _ hm hk1 hi1
 ·show(if (1:Int)=t.next then dJ d+1 else dJ 1)=0
  rw[aR aJ]; exact h.CF
 ·intro i m hm hk1 hi1
  show(if i=t.next then dJ d+1 else dJ i)=(if m.up=t.next then dJ d+1 else dJ m.up)+1/\_
  rcases back i m hm with ⟨rfl,rfl⟩|⟨hne,hm⟩
  ·rw[i2] at hk1;have hu:m.up=d:=by rw[i6,hk1]; rfl
   rw[hu,aZ rfl,aR (rn _ _ hp).2];exact⟨rfl,p,(rn _ _ hp).1,hpk⟩
  ·obtain⟨a,q,b,c⟩:=h.qI _ _ hm hk1 hi1;rw[aR hne,aR (rn _ _ b).2];exact⟨a,q,(rn _ _ b).1,c⟩
 ·intro i m hm hk1
  show(if i=t.next then dJ d+1 else dJ i)<=12/\((if i=t.next then dJ d+1 else dJ i)=12->_)
  rcases back i m hm with ⟨rfl,rfl⟩|⟨hne,hm⟩
  ·rw[aZ rfl]; exact⟨aJ,fun _=>i5⟩
  ·rw[aR hne]; exact h.deep _ _ hm hk1
 ·have:=GM t.ae n';simp only; omega
 ·simp only; omega
def cover:∀(k:Nat)(l:List Nat),(∀j,j<k->j∈l)->k<=l.length
 |0,_,_=>cS _
 |k+1,l,h=>by
  have hk:=h k aJ;have:=cover k (l.erase k) (fun j hj=>(List.mem_erase_of_ne aJ).2 (h j aJ))
  rw[List.length_erase_of_mem hk] at this;have:=List.length_pos_of_mem hk;omega
def dY.aof{t:Tree}{dJ:Int->Nat}{x:Int}(h:dY t dJ x):∀(m:Nat)(i:Int)(n:Node),find t.ae i=some n->n.kind=2->dJ i=m->∀k,k<=m->∃j p,find t.ae j=some p/\dJ j=k:=by
 intro m;induction m with
 |zero=>intro i n hi _ hm k hk; exact⟨i,n,hi,aJ⟩
 |succ m ih =>
  intro i n hi hk2 hm k hk;rcases Nat.eq_or_lt_of_le hk with rfl|cJ
  ·exact⟨i,n,hi,hm⟩
  ·have h1:i≠1:=fun hh=>by subst hh; have:=h.CF; omega
   obtain⟨a,p,b,c⟩:=h.qI _ _ hi hk2 h1;exact ih _ p b c aJ k aJ
def dY.Dy{t:Tree}{dJ:Int->Nat}{x:Int}(h:dY t dJ x){i:Int}{n:Node}(hi:find t.ae i=some n)(hk:n.kind=2):dJ i<t.ae.length:=by
 have:=cover (dJ i+1) (t.ae.map fun n=>dJ n.ar) (fun j hj=>by
  obtain⟨a,p,h1,h2⟩:=h.aof _ _ _ hi hk rfl j aJ;rw[eL];exact⟨p,(cH h1).1,by rw[(cH h1).2,h2]⟩)
 rw[cU] at this;omega
def dY.K9{t:Tree}{dJ:Int->Nat}{x:Int}(h:dY t dJ x):∀(m:Nat)(i:Int)(d:Nat)(n:Node),find t.ae i=some n->n.kind=2->dJ i<=m->wg t.ae m i d=d+dJ i:=by
 intro m;induction m with
 |zero=>intro i d n _ _ hd; simp only[wg]; omega
 |succ m ih =>
  intro i d n hi hk hd;simp only[wg];split
  ·rename_i h1; subst h1; have:=h.CF; omega
  ·rename_i h1;obtain⟨a,p,b,c⟩:=h.qI _ _ hi hk h1;have hu:Qq t.ae i=n.up:=by simp[Qq,hi]
   rw[hu,ih _ _ p b c aJ];omega
def dY.qk{t:Tree}{dJ:Int->Nat}{x:Int}(h:dY t dJ x){i:Int}{n:Node}(hi:find t.ae i=some n)(hk:n.kind=2):pR t.ae i=dJ i:=by
 have:=h.K9 201 i 0 n hi hk (by have:=(h.deep _ _ hi hk).1; omega)
 simp only[pR,this]; omega
def dY.yo{t:Tree}{dJ:Int->Nat}{x:Int}(h:dY t dJ x):∀(m:Nat)(i:Int)(out:List Int)(n:Node),find t.ae i=some n->n.kind=2->dJ i<=m->(uD t.ae m i out).length=out.length+dJ i:=by
 intro m;induction m with
 |zero=>intro i out n _ _ hd; simp only[uD]; omega
 |succ m ih =>
  intro i out n hi hk hd;simp only[uD]
  by_cases h1:i=1
  ·subst h1; have:=h.CF; simp; omega
  ·obtain⟨a,p,b,c⟩:=h.qI _ _ hi hk h1;simp only[pb,ne_eq,h1,not_false_eq_true,↓reduceIte,bm,hi,bW,cu,bz,hk,av,fF,af];rw[ih _ _ p b c aJ];simp only[aA,aw,az];omega
def dY.uE{t:Tree}{dJ:Int->Nat}{x:Int}(h:dY t dJ x){i:Int}{n:Node}(hi:find t.ae i=some n)(hk:n.kind=2):(uJ t.ae i).length=dJ i+1:=by
 have:=h.yo t.ae.length i [i] n hi hk (by have:=h.Dy hi hk; omega)
 simp only[uJ,this,aw,az]; omega
def dY.XJ{t:Tree}{dJ:Int->Nat}{x:Int}(_:dY t dJ x){i:Int}{n:Node}(hi:find t.ae i=some n):Qq t.ae i=n.up:=by simp[Qq,hi]
def dY.Dn{t:Tree}{dJ:Int->Nat}{x:Int}(h:dY t dJ x)(of:Int):∀(m:Nat)(i:Int)(n:Node),find t.ae i=some n->n.kind=2->dJ i<m->nn t.ae of m i=nn t.ae of (dJ i+1) i:=by
 intro m;induction m with
 |zero=>intro i n _ _ hd; omega
 |succ m ih =>
  intro i n hi hk hd
  by_cases h1:i=1
  ·subst h1; simp only[nn]; split<;>rfl
  ·obtain⟨a,p,b,c⟩:=h.qI _ _ hi hk h1;simp only[nn,h1,↓reduceIte,h.XJ hi];rw[ih _ p b c aJ,a]
theorem dY.oT{t:Tree}(i:Int):iP t.ae i i=true:=by simp[iP,nn]
theorem dY.qO{t:Tree}{of:Int}(h1:of≠1):iP t.ae 1 of=false:=by
 simp only[iP,nn];rw[aR (fun hh=>h1 hh.symm)]
 rfl
def dY.sA{t:Tree}{dJ:Int->Nat}{x:Int}(h:dY t dJ x){of i:Int}{n:Node}(hi:find t.ae i=some n)(hk:n.kind=2)(h1:i≠1)(ho:i≠of):iP t.ae i of=iP t.ae n.up of:=by
 obtain⟨a,p,b,c⟩:=h.qI _ _ hi hk h1;have d1:=h.Dy b c;have d2:=h.Dy hi hk;simp only[iP];rw[h.Dn of _ _ p b c aJ];rw[h.Dn of _ _ n hi hk aJ]
 conv=>lhs; rw[nn]
 simp only[ho,h1,↓reduceIte,h.XJ hi];rw[a]
def dY.AN{t:Tree}{dJ:Int->Nat}{x:Int}(h:dY t dJ x){of:Int}:∀(m:Nat)(i:Int)(n:Node),find t.ae i=some n->n.kind=2->dJ i=m->iP t.ae i of=true->dJ of<=dJ i:=by
 intro m;induction m with
 |zero =>
  intro i n hi hk hm hb
  by_cases h1:i=1
  ·by_cases h2:of=1
   ·subst h1; subst h2; exact au _
   ·subst h1; rw[dY.qO h2] at hb; cases hb
  ·obtain⟨a,_⟩:=h.qI _ _ hi hk h1;omega
 |succ m ih =>
  intro i n hi hk hm hb;have h1:i≠1:=fun hh=>by subst hh; have:=h.CF; omega
  obtain⟨a,p,b,c⟩:=h.qI _ _ hi hk h1
  by_cases ho:i=of
  ·subst ho; exact au _
  ·rw[h.sA hi hk h1 ho] at hb;have:=ih _ p b c aJ hb;omega
def JF{α:Type}[DecidableEq α]:∀(l k:List α),l.Nodup->(∀x,x∈l->x∈k)->l.length<=k.length
 | [],_,_,_=>cS _
 |a::l,k,h,hs=>by
  have ha:=hs a bD;obtain⟨h1,h2⟩:=oM.1 h;have:=JF l (k.erase a) h2 (fun x hx=>(List.mem_erase_of_ne (by rintro rfl; exact h1 hx)).2 (hs x (bt _ hx)))
  rw[List.length_erase_of_mem ha] at this;have:=List.length_pos_of_mem ha;simp only[aw];omega
def dY.Pc{t:Tree}{dJ:Int->Nat}{x:Int}(h:dY t dJ x){i:Int}{n:Node}(hi:find t.ae i=some n):n.bc.length<=64:=(h.yq _ _ hi).2
def Rr(i:Int):∀(ns:List Node),(∀n,n∈ns->n.bc.length<=64)->uO ns i<=64*ns.length
 | [],_=>cS _
 |n::ns,h=>by
  have h1:=Rr i ns (fun m hm=>h m (bt _ hm))
  have h2:ry n.bc i<=n.bc.length:=nA;have h3:=h n bD;rw[vw,aw];omega
def dY.Rs{t:Tree}{dJ:Int->Nat}{x:Int}(h:dY t dJ x)(i:Int):uO t.ae i<=12800:=by
 have:=Rr i t.ae (fun n hn=>h.Pc ((ik h.lL.mr).2 ⟨hn,rfl⟩))
 have:=h.ae;omega
def dY.xh{t:Tree}{dJ:Int->Nat}{x:Int}(h:dY t dJ x){i:Int}{n:Node}(hi:find t.ae i=some n){e:gP}(he:e∈n.bc):e.ar≠i:=by
 intro hh;obtain⟨_,_,h1,_,m,hm,hu⟩:=h.CH _ _ e hi he;rw[hh,hi] at hm; cases hm
 have hk:n.kind=2:=by
  rcases h.kind _ _ hi with hk|hk
  ·rw[(h.file _ _ hi hk).1] at he; cases he
  ·exact hk
 have:=(h.qI _ _ hi hk aJ).1;rw[hu hk] at this;omega
def II{t:Tree}{ar:Int}{s:Bytes}(h:(o5 t ar s != 0)=false):∃d,find t.ae ar=some d/\d.kind=2/\fW s=true/\gx d.bc s=none/\d.bc.length<64/\pR t.ae ar<12/\t.ak<1099511627776:=by
 have h0:o5 t ar s=0:=by simpa using h
 unfold o5 at h0;split at h0
 ·rename_i h1; exact absurd h0 h1
 ·rename_i h1;obtain⟨d,d1,d2,d3⟩:=y8 (show(gX t.ae ar).2=0 by omega)
  rw[d3] at h0;split at h0
  ·cases h0
  ·rename_i h2;split at h0
   ·cases h0
   ·rename_i h3;split at h0
    ·cases h0
    ·rename_i h4;simp only[DK,(cH d1).2,df,bh,pc] at h4;refine⟨d,d1,d2,by simpa using h2,by simpa using h3,aJ,aJ,aJ⟩
def dY.cw{t:Tree}{dJ:Int->Nat}{x:Int}(h:dY t dJ x)(hn:t.next<1099511627776):nz (t.next+1)=t.next+1:=gA (by
 obtain⟨r,r1,_⟩:=h.root;have:=h.num _ _ r1; omega) aJ
def Q6{t:Tree}{dJ:Int->Nat}(h:dY t dJ 0)(ar:Int)(s:Bytes)(kind:Int)(hs:fW s=true->Nm s):∃dep',dY (rZ t ar s kind).1 dep' 0:=by
 unfold rZ;split
 ·exact⟨dJ,h⟩
 ·rename_i hk;split
  ·exact⟨dJ,h⟩
  ·rename_i he;split
   ·exact⟨dJ,h⟩
   ·rename_i hb;obtain⟨d,d1,d2,d3,d4,d5,d6,d7⟩:=II (by simpa using he)
    simp only[df,bh,pc] at hb;have hn:t.next<1099511627776:=aJ
    rw[h.qk d1 d2] at d6
    have hk':kind=1\/kind=2:=by
     simp only[bw,pb,ne_eq,not_and,Decidable.not_not] at hk
     by_cases h1:kind=1
     ·exact .inl h1
     ·exact .inr (hk h1)
    have hm:=h.made d1 d2 hk' d6 aJ hn;rw[h.cw hn];have cJ:=(h.num _ _ d1).2;have hne:ar≠t.next:=aJ
    refine⟨_,hm.nL (d:=ar) (n:=d) (m:=⟨t.next,kind,1,[],[],if kind==2 then ar else 0⟩) ?_ d2 d4 (by simpa using d5) (hs d3) ?_ ?_ ?_ ?_ d7⟩
    ·simp only; rw[gu h.lL.mr]; simp only[hne,↓reduceIte]; exact d1
    ·simp only; rw[gu h.lL.mr]; simp only[↓reduceIte]
    ·have:=(h.num _ _ d1).1; omega
    ·intro h2;simp only at h2;simp[h2]
    ·simp only[hne,↓reduceIte]; exact d6
def aaf{t:Tree}{dJ:Int->Nat}(h:dY t dJ 0)(ar to:Int)(s:Bytes)(hs:fW s=true->Nm s):dY (CL t ar to s).1 dJ 0:=by
 unfold CL;split
 ·exact h
 ·rename_i hf;split
  ·exact h
  ·rename_i hk;split
   ·exact h
   ·rename_i he;obtain⟨d,d1,d2,d3,d4,d5,d6,d7⟩:=II (by simpa using he)
    rw[h.qk d1 d2] at d6;cases hi:find t.ae ar with
    |none=>simp[hi] at hf
    |some n =>
     simp only[bm,hi,bz] at hk ⊢
     have hk1:n.kind=1:=by
      rcases h.kind _ _ hi with h1|h1
      ·exact h1
      ·simp[h1] at hk
     have hlk:=h.eG _ _ hi;rw[aR (by have:=(h.num _ _ hi).1; omega)] at hlk
     have hcl:=h.Rs ar;have hw:nz (n.eG+1)=n.eG+1:=gA aJ aJ;rw[hw];obtain⟨f1,f2,f3⟩:=h.file _ _ hi hk1
     have hg:=h.RX (n':={ n with eG:=n.eG+1 }) (x':=ar) hi hk1 (cH hi).2 hk1 rfl rfl f3 (fun i h0=>by
      simp only;rw[aR (show i≠0 by omega)]
      split<;>omega)
     have hne:to≠ar:=fun hh=>by subst hh; rw[hi] at d1; cases d1; omega
     refine hg.nL (d:=to) (n:=d) (m:={ n with eG:=n.eG+1 }) ?_ d2 d4 (by simpa using d5) (hs d3) ?_ ?_ ?_ d6 d7
     ·simp only; rw[gu h.lL.mr]; simp only[h.ar hi,hne,↓reduceIte]; exact d1
     ·simp only; rw[gu h.lL.mr]; simp only[h.ar hi,↓reduceIte]
     ·intro hh; subst hh;obtain⟨r,r1,r2,_⟩:=h.root;rw[hi] at r1; cases r1; omega
     ·intro h2; simp only at h2; omega
def dY.unnamed{t:Tree}{dJ:Int->Nat}{k:Int}{n:Node}(h:dY t dJ k)(hk:find t.ae k=some n)(he:n.bc=[])(h1:k≠1):dY ⟨fm t.ae k,t.next,t.ak⟩ dJ 0:=by
 unfold fm;simp only[bm,hk,bz];have hl:=h.eG _ _ hk;simp only[↓reduceIte] at hl;split
 ·rename_i h2;have:=h.one _ _ hk (by simpa using h2) h1
  exact h.drop (.inl rfl) hk he h1 aJ
 ·rename_i h2
  have hk1:n.kind=1:=by
   rcases h.kind _ _ hk with h1|h1
   ·exact h1
   ·simp[h1] at h2
  have hcl:=h.Rs k;have hw:nz (n.eG-1)=n.eG-1:=gA aJ aJ;rw[hw];obtain⟨f1,f2,f3⟩:=h.file _ _ hk hk1
  exact h.RX (n':={ n with eG:=n.eG-1 }) (x':=0) hk hk1 (cH hk).2 hk1 rfl rfl f3 (fun i h0=>by
   simp only;rw[aR (show i≠0 by omega)]
   split<;>omega)
def dY.un{t:Tree}{dJ:Int->Nat}(h:dY t dJ 0){d:Int}{n m:Node}{s:Bytes}{e:gP}(hd:find t.ae d=some n)(he:gx n.bc s=some e)(hm:find t.ae e.ar=some m)(hm0:m.bc=[]):dY ⟨fm (dD t.ae d s) e.ar,t.next,t.ak⟩ dJ 0:=by
 have hem:=(jY he).1;have hl:=h.left hd he;refine hl.unnamed (n:=m) ?_ hm0 (h.CH _ _ e hd hem).2.2.1;simp only;rw[kP h.lL.mr hd,aR (h.xh hd hem)];exact hm
def abF{t:Tree}{dJ:Int->Nat}(h:dY t dJ 0)(ar:Int)(s:Bytes):dY (BO t ar s).1 dJ 0:=by
 unfold BO;split
 ·exact h
 ·rename_i hl;obtain⟨d,e,d1,d2,d3,d4,d5⟩:=look_ok (by simpa using hl)
  rw[d5];split
  ·exact h
  ·rename_i h0;obtain⟨_,_,_,_,m,hm,_⟩:=h.CH _ _ e d1 (jY d4).1;simp only[bm,hm,bz,bh] at h0;exact h.un d1 d4 hm (dz.1 aJ)
def WR{t:Tree}{dJ:Int->Nat}(h:dY t dJ 0)(ar:Int)(data:Bytes):dY (rT t ar data).1 dJ 0:=by
 unfold rT;split
 ·exact h
 ·rename_i hf;split
  ·exact h
  ·rename_i hk;split
   ·exact h
   ·rename_i hd;cases hi:find t.ae ar with
    |none=>simp[hi] at hf
    |some n =>
     simp only[bm,hi,bz] at hk ⊢
     have hk1:n.kind=1:=by
      rcases h.kind _ _ hi with h1|h1
      ·exact h1
      ·simp[h1] at hk
     simp only[bh] at hd
     exact h.RX (n':={ n with data:=data }) (x':=0) hi hk1 (cH hi).2 hk1 rfl rfl (by simp only; omega) (fun i h0=>by
      simp only;rw[aR (show i≠0 by omega)]
      split<;>omega)
def FL{t:Tree}{dJ:Int->Nat}(h:dY t dJ 0)(ar:Int):dY (kH t ar).1 dJ 0:=by
 unfold kH;split
 ·exact h
 ·rename_i hf;split
  ·exact h
  ·rename_i hk;split
   ·exact h
   ·rename_i hd;cases hi:find t.ae ar with
    |none=>simp[hi] at hf
    |some n =>
     simp only[bm,hi,bz] at hk hd
     have hk1:n.kind=1:=by
      rcases h.kind _ _ hi with h1|h1
      ·exact h1
      ·simp[h1] at hk
     simp only[bh] at hd;have hl:=h.eG _ _ hi;rw[aR (by have:=(h.num _ _ hi).1; omega)] at hl
     refine h.drop (.inr rfl) hi (h.file _ _ hi hk1).1 ?_ aJ;intro hh; subst hh;obtain⟨r,r1,r2,_⟩:=h.root;rw[hi] at r1; cases r1; omega
def My:∀ {a b:List Node},oZ a->oZ b->(∀m,m∈a↔m∈b)->a=b
 | [],[],_,_,_=>rfl
 | [],y::b,_,_,h=>by have:=(h y).2 bD; cases this
 |x::a,[],_,_,h=>by have:=(h x).1 bD; cases this
 |x::a,y::b,ha,hb,h=>by
  obtain⟨a1,a2⟩:=du.1 ha;obtain⟨b1,b2⟩:=du.1 hb
  have hxy:x=y:=by
   rcases bJ.1 ((h x).1 bD) with h1|h1
   ·exact h1
   ·rcases bJ.1 ((h y).2 bD) with h2|h2
    ·exact h2.symm
    ·have:=b1 x h1; have:=a1 y h2; omega
  subst hxy;rw[My a2 b2 (fun m=>?_)]
  constructor
  ·intro hm;rcases bJ.1 ((h m).1 (bt _ hm)) with h1|h1
   ·subst h1; have:=a1 m hm; omega
   ·exact h1
  ·intro hm;rcases bJ.1 ((h m).2 (bt _ hm)) with h1|h1
   ·subst h1; have:=b1 m hm; omega
   ·exact h1
def R0{a b:List Node}(ha:oZ a)(hb:oZ b)(h:∀i,find a i=find b i):a=b :=
 My ha hb fun m=>by
  constructor
  ·intro hm;have:=(ik ha).2 ⟨hm,rfl⟩;rw[h] at this;exact(cH this).1
  ·intro hm;have:=(ik hb).2 ⟨hm,rfl⟩;rw[<-h] at this;exact(cH this).1
def AA{ae:List Node}(h:oZ ae)(k:Int):oZ (fm ae k):=by
 unfold fm;split
 ·exact rQ h _
 ·exact lM h _
def sg{ae:List Node}(h:oZ ae)(k:Int)(s:Bytes):oZ (dD ae k s):=lM h _
def Nt(n:Node):Option Node:=if n.kind==2 then none else some { n with eG:=nz (n.eG-1) }
def ve{ae:List Node}(h:oZ ae){k:Int}{n:Node}(hk:find ae k=some n)(i:Int):find (fm ae k) i=if i=k then Nt n else find ae i:=by
 unfold fm Nt;simp only[bm,hk,bz];split
 ·rw[mo h]
 ·rw[gu h];simp only[(cH hk).2]
def Ld(l:List gP)(a b:Bytes):j8 (j8 l a) b=j8 (j8 l b) a:=by
 simp only[j8,List.filter_filter];congr 1;funext e;rw[Bool.and_comm]
def XG{ae:List Node}(h:oZ ae){f to y:Int}{s nm:Bytes}{dF dT m:Node}(hF:find ae f=some dF)(hT:find ae to=some dT)(hy:find ae y=some m)(h1:y≠f)(h2:y≠to) :
  fm (dD (dD ae f s) to nm) y=dD (fm (dD ae to nm) y) f s:=by
 have a1:=sg h f s;have a2:=sg h to nm;have a3:=sg a1 to nm;have a4:=AA a2 y;have f1:=kP h hF (s:=s);have f2:=kP h hT (s:=nm);have hy1:find (dD ae to nm) y=some m:=by rw[f2,aR h2]; exact hy
 have f4:=ve a2 hy1;obtain⟨dT',hT'⟩:∃dT',find (dD ae f s) to=some dT':=by rw[f1]; split<;>simp_all
 have f3:=kP a1 hT' (s:=nm);have hy3:find (dD (dD ae f s) to nm) y=some m:=by rw[f3,aR h2,f1,aR h1]; exact hy
 have f5:=ve a3 hy3;obtain⟨dF',hF'⟩:∃dF',find (fm (dD ae to nm) y) f=some dF':=by rw[f4,aR (fun hh=>h1 hh.symm),f2]; split<;>simp_all
 have f6:=kP a4 hF' (s:=s);refine R0 (AA a3 y) (sg a4 f s) (fun i=>?_)
 rw[f5,f6,f4,f3];rw[f1] at hT';rw[f4,aR (fun hh=>h1 hh.symm),f2] at hF'
 by_cases i1:i=y
 ·subst i1; simp[h1]
 ·simp only[i1,↓reduceIte]
  by_cases i2:i=to
  ·subst i2;simp only[↓reduceIte]
   by_cases i3:i=f
   ·subst i3;simp only[↓reduceIte] at hT' hF' ⊢;injection hT' with hT'; injection hF' with hF'
    rw[<-hT',<-hF'];rw[hF] at hT; cases hT;simp only[Ld]
   ·simp only[i3,↓reduceIte] at hT' ⊢;rw[f2]; simp only[↓reduceIte];rw[hT] at hT'; injection hT' with hT'; rw[hT']
  ·simp only[i2,↓reduceIte];rw[f1,f2]
   by_cases i3:i=f
   ·subst i3;simp only[↓reduceIte,i2] at hF' ⊢;rw[hF] at hF'; injection hF' with hF'; rw[hF']
   ·simp only[i3,i2,↓reduceIte]
def IC{l:List gP}{s:Bytes}{e:gP}(h:gx l s=some e):(j8 l s).length<l.length:=by
 obtain⟨h1,h2⟩:=jY h;refine Nat.lt_of_le_of_ne (bU _ _) fun hh=>?_
 have:=List.length_filter_eq_length_iff.1 hh e h1;simp[h2] at this
def dY.adT{t:Tree}{dJ dep':Int->Nat}{f to:Int}{s nm:Bytes}{dF dT m:Node}{e:gP}(h:dY t dJ 0)(hF:find t.ae f=some dF)(he:gx dF.bc s=some e)(hT:find t.ae to=some dT)(hTk:dT.kind=2)(hfree:gx dT.bc nm=none)(hroom:to≠f->dT.bc.length<64)(hnm:Nm nm)
  (hm:find t.ae e.ar=some m) (hne:e.ar≠to) (hd12:dep' to<12) (hck:t.ak<1099511627776)
  (hcase:(m.kind=1/\dep'=dJ)\/(m.kind=2/\dep' 1=0/\(∀i n,find t.ae i=some n->n.kind=2->i≠1->i≠e.ar->dep' i=dep' n.up+1)/\dep' e.ar=dep' to+1 /\
   ∀i n,find t.ae i=some n->n.kind=2->dep' i<=12/\(dep' i=12->n.bc=[]))):dY (ti t f s to nm e.ar 0) dep' 0:=by
 have hem:=(jY he).1;have hnf:e.ar≠f:=h.xh hF hem;have h1:e.ar≠1:=(h.CH _ _ e hF hem).2.2.1;have hl:=h.left hF he;have fl:=kP h.lL.mr hF (s:=s);have hmx:find (dD t.ae f s) e.ar=some m:=by rw[fl,aR hnf]; exact hm
 obtain⟨d1,g1,g2,g3,g4⟩:∃d1,find (dD t.ae f s) to=some d1/\d1.kind=2/\gx d1.bc nm=none/\d1.bc.length<64:=by
  rw[fl];split
  ·rename_i hh;subst hh;rw[hF] at hT; cases hT;exact⟨_,rfl,hTk,vA hfree,bu (IC he) (h.Pc hF)⟩
  ·rename_i hh;exact⟨dT,hT,hTk,hfree,hroom hh⟩
 have hnode:bm t.ae e.ar=m:=by simp[bm,hm]
 unfold ti;simp only[hnode,av,af,↓reduceIte];rcases hcase with ⟨hk,rfl⟩|⟨hk,c1,c2,c3,c4⟩
 ·rw[aR (by simp[hk])]
  exact hl.nL g1 g2 g3 g4 hnm hmx h1 (fun h2=>aJ) hd12 hck
 ·rw[aZ (by simp[hk])]
  have hs:=hl.aoa (dep':=dep') hmx hk h1 g1 g2 c1 (fun i n hi hk2 hi1 hie=>by
    simp only[fl] at hi;split at hi
    ·rename_i hh; subst hh;cases hi;exact c2 i dF hF hk2 hi1 hie
    ·exact c2 _ _ hi hk2 hi1 hie) c3 (fun i n hi hk2=>by
    simp only[fl] at hi;split at hi
    ·rename_i hh; subst hh;cases hi;obtain⟨q1,q2⟩:=c4 i dF hF hk2;exact⟨q1,fun h12=>by simp[q2 h12,j8]⟩
    ·exact c4 _ _ hi hk2)
  have hmi:m.ar=e.ar:=(cH hm).2;have fw:=gu (sg h.lL.mr f s) { m with up:=to }
  refine hs.nL (n:=d1) (m:={ m with up:=to }) ?_ g2 g3 g4 hnm ?_ h1 (fun _=>rfl) hd12 hck
  ·simp only;rw[fw];rw[aR (show ¬to=m.ar from fun hh=>hne aJ)]
   exact g1
  ·simp only;rw[fw];simp only[hmi,↓reduceIte]
def vf(ae:List Node)(at' d:Int)(n:Node):Int :=
 if decide ((0:Int)<n.bc.length) then nz (nz (nz (at'+pR ae n.ar)-d)+1) else nz (nz (at'+pR ae n.ar)-d)
def Jc(ae:List Node)(ar at' d:Int)(n:Node)(dI:Int):dI<=sI ae ar at' d n dI/\((n.kind==2&&iP ae n.ar ar)=true->vf ae at' d n<=sI ae ar at' d n dI):=by
 have e:sI ae ar at' d n dI=if n.kind==2&&iP ae n.ar ar then (if vf ae at' d n>dI then vf ae at' d n else dI) else dI:=rfl
 rw[e];split
 ·split
  ·exact⟨aJ,fun _=>dU _⟩
  ·exact⟨dU _,fun _=>aJ⟩
 ·rename_i h; exact⟨dU _,fun hh=>absurd hh h⟩
def Bc(ae:List Node)(ar at' d:Int):∀(l:List Node)(dI:Int),dI<=wj ae ar at' d l dI/\∀n,n∈l->(n.kind==2&&iP ae n.ar ar)=true->vf ae at' d n<=wj ae ar at' d l dI
 | [],dI=>⟨dU _,fun n hn=>by cases hn⟩
 |m::l,dI=>by
  obtain⟨h1,h2⟩:=Bc ae ar at' d l (sI ae ar at' d m dI);obtain⟨h3,h4⟩:=Jc ae ar at' d m dI;rw[wj];refine⟨aJ,fun n hn hb=>?_⟩
  rcases bJ.1 hn with rfl|hn
  ·have:=h4 hb; omega
  ·exact h2 n hn hb
def rL(ae:List Node)(dJ:Int->Nat)(x to:Int):Int->Nat:=fun i=>if iP ae i x then dJ i+(dJ to+1)-dJ x else dJ i
def dY.FT{t:Tree}{dJ:Int->Nat}(h:dY t dJ 0){x to i:Int}{m n:Node}(hx:find t.ae x=some m)(hk:m.kind=2)(hd:dJ to<12)(hi:find t.ae i=some n)(hk2:n.kind=2)(hb:iP t.ae i x=true) :
  vf t.ae (((dJ to+1:Nat):Int)) (dJ x) n=((rL t.ae dJ x to i+(if 0<n.bc.length then 1 else 0):Nat):Int):=by
 have d1:=(h.deep _ _ hi hk2).1;have d2:=(h.deep _ _ hx hk).1;have d3:=h.AN _ i n hi hk2 rfl hb;have hdn:pR t.ae n.ar=dJ i:=by rw[h.ar hi]; exact h.qk hi hk2
 have w1:nz ((((dJ to+1:Nat):Int))+(dJ i:Nat))=(((dJ to+1:Nat):Int))+(dJ i:Nat):=gA aJ aJ;have w2:nz ((((dJ to+1:Nat):Int))+(dJ i:Nat)-(dJ x:Nat))=(((dJ to+1:Nat):Int))+(dJ i:Nat)-(dJ x:Nat):=gA aJ aJ;have w3:nz ((((dJ to+1:Nat):Int))+(dJ i:Nat)-(dJ x:Nat)+1)=(((dJ to+1:Nat):Int))+(dJ i:Nat)-(dJ x:Nat)+1:=gA aJ aJ;unfold vf rL;rw[aZ hb,hdn,w1,w2,w3]
 by_cases hl:0<n.bc.length
 ·rw[aZ (by simpa using hl),aZ hl]; omega
 ·rw[aR (by simpa using hl),aR hl]; omega
def dY.ahT{t:Tree}{dJ:Int->Nat}(h:dY t dJ 0){x to:Int}{m dT:Node}(hx:find t.ae x=some m)(hk:m.kind=2)(hx1:x≠1)(hT:find t.ae to=some dT)(hTk:dT.kind=2)(hnb:iP t.ae to x=false)(hd:dJ to<12)
  (hh:Ca t.ae x (((dJ to+1:Nat):Int))<=12) :
  rL t.ae dJ x to 1=0/\(∀i n,find t.ae i=some n->n.kind=2->i≠1->i≠x->rL t.ae dJ x to i=rL t.ae dJ x to n.up+1)/\rL t.ae dJ x to x=rL t.ae dJ x to to+1 /\
   (∀i n,find t.ae i=some n->n.kind=2->rL t.ae dJ x to i<=12/\(rL t.ae dJ x to i=12->n.bc=[]))/\rL t.ae dJ x to to=dJ to:=by
 have hto:rL t.ae dJ x to to=dJ to:=by unfold rL; rw[aR (by simp[hnb])]
 refine⟨?_,?_,?_,?_,hto⟩
 ·unfold rL;rw[aR (by simp[dY.qO hx1])]
  exact h.CF
 ·intro i n hi hk2 hi1 hix;obtain⟨a,p,b,c⟩:=h.qI _ _ hi hk2 hi1;have hb:=h.sA hi hk2 hi1 hix;unfold rL;rw[hb];split
  ·rename_i hb2;have:=h.AN _ _ p b c rfl hb2;omega
  ·exact a
 ·rw[hto];unfold rL;rw[aZ (dY.oT x)];omega
 ·intro i n hi hk2
  by_cases hb:iP t.ae i x=true
  ·have h1:=(Bc t.ae x (((dJ to+1:Nat):Int)) (pR t.ae x) t.ae 0).2 n (cH hi).1 (by rw[hk2,h.ar hi,hb]; rfl)
   rw[h.qk hx hk,h.FT hx hk hd hi hk2 hb] at h1;unfold Ca at hh;rw[h.qk hx hk] at hh;have h2:=Int.le_trans h1 hh;split at h2
   ·rename_i hl;exact⟨aJ,fun h12=>aJ⟩
   ·rename_i hl;exact⟨aJ,fun _=>dz.1 aJ⟩
  ·have:rL t.ae dJ x to i=dJ i:=by unfold rL; rw[aR hb]
   rw[this];exact h.deep _ _ hi hk2
def DI{l:List gP}{s r:Bytes}(h:r≠s):gx (j8 l s) r=gx l r:=by
 unfold gx j8;rw[List.find?_filter];congr 1;funext e
 by_cases he:e.name=r
 ·have hn:e.name≠s:=he▸h;simp[he,h]
 ·simp[he]
structure aiR(t:Tree)(dJ:Int->Nat)(f:Int)(s:Bytes)(to:Int)(nm:Bytes)(dF dT m:Node)(e:gP):Prop where
 hF:find t.ae f=some dF
 kF:dF.kind=2
 he:gx dF.bc s=some e
 hT:find t.ae to=some dT
 kT:dT.kind=2
 hn:fW nm=true
 hm:find t.ae e.ar=some m
 ne:e.ar≠to
 nf:e.ar≠f
 loop:m.kind=2->iP t.ae to e.ar=false
 deep:dJ to<12
 high:m.kind=2->Ca t.ae e.ar (((dJ to+1:Nat):Int))<=12
 ak:t.ak<1099511627776
 room:gx dT.bc nm=none->to≠f->dT.bc.length<64
 at6:∀e2,gx dT.bc nm=some e2->e2.ar≠e.ar/\∃y,find t.ae e2.ar=some y/\y.bc=[]/\(m.kind=2↔y.kind=2)/\e2.ar≠f/\e2.ar≠to
def dY.mv{t:Tree}{dJ:Int->Nat}(h:dY t dJ 0){f:Int}{s:Bytes}{to:Int}{nm:Bytes}{dF dT m:Node}{e:gP}(hs:fW nm=true->Nm nm)(k:aiR t dJ f s to nm dF dT m e):∃dep',dY (ti t f s to nm e.ar (jh dT.bc nm)) dep' 0:=by
 have hem:=(jY k.he).1;have hx1:=(h.CH _ _ e k.hF hem).2.2.1
 have hcase:∃dep':Int->Nat,dep' to<12/\((m.kind=1/\dep'=dJ)\/(m.kind=2/\dep' 1=0/\(∀i n,find t.ae i=some n->n.kind=2->i≠1->i≠e.ar->dep' i=dep' n.up+1)/\dep' e.ar=dep' to+1 /\
   ∀i n,find t.ae i=some n->n.kind=2->dep' i<=12/\(dep' i=12->n.bc=[]))):=by
  rcases h.kind _ _ k.hm with hk|hk
  ·exact⟨dJ,k.deep,.inl ⟨hk,rfl⟩⟩
  ·obtain⟨c1,c2,c3,c4,c5⟩:=h.ahT k.hm hk hx1 k.hT k.kT (k.loop hk) k.deep (k.high hk);exact⟨rL t.ae dJ e.ar to,by rw[c5]; exact k.deep,.inr ⟨hk,c1,c2,c3,c4⟩⟩
 obtain⟨dep',hd12,hcase⟩:=hcase;refine⟨dep',?_⟩;cases hfr:gx dT.bc nm with
 |none =>
  have hu:jh dT.bc nm=0:=by simp[jh,hfr]
  rw[hu];exact h.adT k.hF k.he k.hT k.kT hfr (k.room hfr) (hs k.hn) k.hm k.ne hd12 k.ak hcase
 |some e2 =>
  have hu:jh dT.bc nm=e2.ar:=by simp[jh,hfr]
  rw[hu];obtain⟨q1,y,q2,q3,q4,q5,q6⟩:=k.at6 e2 hfr;have h1:=h.un k.hT hfr q2 q3;have a2:=sg h.lL.mr to nm;have f2:=kP h.lL.mr k.hT (s:=nm);have hy1:find (dD t.ae to nm) e2.ar=some y:=by rw[f2,aR q6]; exact q2
  have f4:∀i,find (fm (dD t.ae to nm) e2.ar) i=if i=e2.ar then Nt y else if i=to then some { dT with bc:=j8 dT.bc nm } else find t.ae i:=by
   intro i;rw[ve a2 hy1,f2]
  have hnn:bm (fm (dD t.ae to nm) e2.ar) e.ar=bm t.ae e.ar:=by
   simp only[bm];rw[f4,aR (fun hh=>q1 hh.symm),aR k.ne]
  have hy0:=(h.num _ _ q2).1
  have hmv:ti t f s to nm e.ar e2.ar=ti ⟨fm (dD t.ae to nm) e2.ar,t.next,t.ak⟩ f s to nm e.ar 0:=by
   unfold ti;simp only[hnn];rw[XG h.lL.mr k.hF k.hT q2 q5 q6];have e1:(e2.ar != 0)=true:=gm;simp only[e1,av,af,↓reduceIte]
  rw[hmv]
  have hsn:to=f->s≠nm:=fun hh hsn=>by
   subst hh; subst hsn;have:=k.hF; rw[k.hT] at this; cases this;have:=k.he; rw[hfr] at this; cases this;exact q1 rfl
  obtain⟨dF',g1,g2⟩:∃dF',find (fm (dD t.ae to nm) e2.ar) f=some dF'/\gx dF'.bc s=some e:=by
   rw[f4,aR (fun hh=>q5 hh.symm)]
   split
   ·rename_i hh;refine⟨_,rfl,?_⟩;rw[DI (hsn hh.symm)];subst hh;have:=k.hF; rw[k.hT] at this; cases this;exact k.he
   ·exact⟨dF,k.hF,k.he⟩
  have back:∀i n,find (fm (dD t.ae to nm) e2.ar) i=some n->n.kind=2->∃n0,find t.ae i=some n0/\n0.kind=2/\n0.up=n.up/\(n0.bc=[]->n.bc=[]):=by
   intro i n hi hk;rw[f4] at hi;split at hi
   ·unfold Nt at hi;split at hi
    ·cases hi
    ·rename_i hh;cases hi;simp only at hk;simp[hk] at hh
   ·split at hi
    ·rename_i hh; subst hh;cases hi;exact⟨dT,k.hT,hk,rfl,fun h0=>by simp[h0,j8]⟩
    ·exact⟨n,hi,hk,rfl,fun h0=>h0⟩
  refine h1.adT (dep':=dep') g1 g2 (dT:={ dT with bc:=j8 dT.bc nm }) ?_ k.kT (B7 _ _) (fun _=>bu (IC hfr) (h.Pc k.hT)) (hs k.hn) (m:=m) ?_ k.ne hd12 k.ak ?_
  ·simp only; rw[f4,aR (fun hh=>q6 hh.symm),aZ rfl]
  ·simp only; rw[f4,aR (fun hh=>q1 hh.symm),aR k.ne]; exact k.hm
  ·rcases hcase with hc|⟨hk,c1,c2,c3,c4⟩
   ·exact .inl hc
   ·refine .inr ⟨hk,c1,?_,c3,?_⟩
    ·intro i n hi hk2 hi1 hie;obtain⟨n0,b1,b2,b3,_⟩:=back i n hi hk2;rw[<-b3]; exact c2 i n0 b1 b2 hi1 hie
    ·intro i n hi hk2;obtain⟨n0,b1,b2,_,b4⟩:=back i n hi hk2;exact⟨(c4 i n0 b1 b2).1,fun h12=>b4 ((c4 i n0 b1 b2).2 h12)⟩
def dY.zero{t:Tree}{dJ:Int->Nat}{x:Int}(h:dY t dJ x):find t.ae 0=none:=by
 cases hz:find t.ae 0 with
 |none=>rfl
 |some m=>have:=h.num _ _ hz; omega
def PQ{t:Tree}{dJ:Int->Nat}(h:dY t dJ 0)(f:Int)(s:Bytes)(to:Int)(nm:Bytes) :
  ((wU t f s to nm).1=t/\(wU t f s to nm).2.1=0/\(wU t f s to nm).2.2≠0) \/
  (wU t f s to nm=(t,0,0)/\∃dF dT e e2,find t.ae f=some dF/\dF.kind=2/\fW s=true/\gx dF.bc s=some e/\fh t.ae f s=(e.ar,0)/\find t.ae to=some dT/\dT.kind=2/\fW nm=true/\gx dT.bc nm=some e2/\e2.ar=e.ar) \/
  ∃dF dT m e,aiR t dJ f s to nm dF dT m e/\fW s=true/\fh t.ae f s=(e.ar,0)/\wU t f s to nm=(ti t f s to nm e.ar (jh dT.bc nm),jh dT.bc nm,0):=by
 unfold wU;split
 ·rename_i c1; exact .inl ⟨rfl,rfl,by simpa using c1⟩
 rename_i c1;split
 ·rename_i c2; exact .inl ⟨rfl,rfl,by simpa using c2⟩
 rename_i c2;split
 ·exact .inl ⟨rfl,rfl,dx⟩
 rename_i c3;obtain⟨dF,e,e1,e2,e3,e4,e5⟩:=look_ok (by simpa using c1)
 obtain⟨dT,g1,g2,g3⟩:=y8 (show(gX t.ae to).2=0 by simpa using c2)
 have hem:=(jY e4).1;obtain⟨_,_,x1,_,m,hm,hup⟩:=h.CH _ _ e e1 hem;have hnode:bm t.ae e.ar=m:=by simp[bm,hm]
 simp only[e5,g3,hnode];split
 ·rename_i c4;right; left;refine⟨rfl,dF,dT,e,?_⟩;have c4':jh dT.bc nm=e.ar:=by simpa using c4
  cases hfr:gx dT.bc nm with
  |none=>simp only[jh,hfr] at c4'; have:=(h.num _ _ hm).1; omega
  |some e2'=>simp only[jh,hfr] at c4'; exact⟨e2',e1,e2,e3,e4,rfl,g1,g2,by simpa using c3,rfl,c4'⟩
 rename_i c4;split
 ·exact .inl ⟨rfl,rfl,dx⟩
 rename_i c5;split
 ·rename_i c6; exact .inl ⟨rfl,rfl,by simpa using c6⟩
 rename_i c6;split
 ·exact .inl ⟨rfl,rfl,dx⟩
 rename_i c7;right; right;have hdt:=h.qk g1 g2;simp only[manyN,hdt,df,bw,eu,bh,pc,not_and,pb] at c7;obtain⟨r1,r2,r3,r4⟩:=c7
 have hw:nz (((dJ to:Nat):Int)+1)=((dJ to+1:Nat):Int):=by
  have:=(h.deep _ _ g1 g2).1;rw[show(((dJ to:Nat):Int)+1)=((dJ to+1:Nat):Int) by omega]
  exact gA aJ aJ
 rw[hw] at r3;have hnf:=h.xh e1 hem
 have hne:e.ar≠to:=fun hh=>by
  rw[hh,g1] at hm; cases hm;simp only[g2,lX,cN] at c5;rw[hh,dY.oT] at c5;exact c5 rfl
 refine⟨dF,dT,m,e,⟨e1,e2,e4,g1,g2,by simpa using c3,hm,hne,hnf,?_,aJ,?_,aJ,?_,?_⟩,e3,rfl,rfl⟩
 ·intro hk;simpa[hk] using c5
 ·intro hk;have:=r3 hk; omega
 ·intro hfr hne;have hu:jh dT.bc nm=0:=by simp[jh,hfr]
  have:=r1 ⟨hu,hne⟩;omega
 ·intro e2' hfr;have hu:jh dT.bc nm=e2'.ar:=by simp[jh,hfr]
  rw[hu] at c4 c6;obtain⟨_,_,_,_,y,hy,_⟩:=h.CH _ _ e2' g1 (jY hfr).1;have hny:bm t.ae e2'.ar=y:=by simp[bm,hy]
  have hto:=h.xh g1 (jY hfr).1;simp only[va,hy,bW,cu,af,↓reduceIte,hny,pb,ne_eq,Decidable.not_not] at c6;split at c6
  ·cases c6
  ·rename_i k1;split at c6
   ·cases c6
   ·rename_i k2;split at c6
    ·cases c6
    ·rename_i k3;have hy0:y.bc=[]:=dz.1 (by simpa using k3)
     refine⟨by simpa using c4,y,hy,hy0,?_,?_,hto⟩
     ·simp at k1 k2;constructor
      ·exact k1
      ·intro hy2;rcases h.kind _ _ hm with hk|hk
       ·exact absurd hy2 (k2 aJ)
       ·exact hk
     ·intro hh;rw[hh,e1] at hy; cases hy;rw[hy0] at hem; cases hem
def aaT{t:Tree}{dJ:Int->Nat}(h:dY t dJ 0)(f:Int)(s:Bytes)(to:Int)(nm:Bytes)(hs:fW nm=true->Nm nm):∃dep',dY (wU t f s to nm).1 dep' 0:=by
 rcases PQ h f s to nm with ⟨h1,_⟩|⟨h1,_⟩|⟨dF,dT,m,e,k,_,_,hk⟩
 ·rw[h1]; exact⟨dJ,h⟩
 ·rw[h1]; exact⟨dJ,h⟩
 ·rw[hk]; exact h.mv hs k
def We:dY wQ (fun _=>0) 0:=by
 have hf:∀i n,find wQ.ae i=some n->i=1/\n=⟨1,2,0,[],[],1⟩:=by
  intro i n hi;obtain⟨h1,h2⟩:=cH hi;simp[wQ] at h1;subst h1;exact⟨h2.symm,rfl⟩
 refine⟨⟨?_,?_⟩,⟨_,rfl,rfl,rfl⟩,?_,?_,?_,?_,?_,?_,?_,?_,rfl,?_,?_,by simp[wQ],by simp[wQ],by simp[wQ]⟩
 ·simp[wQ,oZ]
 ·intro n hn; simp[wQ] at hn; subst hn; exact List.Pairwise.nil
 ·intro i n hi; obtain⟨rfl,rfl⟩:=hf i n hi; simp[wQ]
 ·intro i n hi; obtain⟨rfl,rfl⟩:=hf i n hi; simp
 ·intro i n hi; obtain⟨rfl,rfl⟩:=hf i n hi; simp
 ·intro i n hi; obtain⟨rfl,rfl⟩:=hf i n hi; simp
 ·intro i n e hi he; obtain⟨rfl,rfl⟩:=hf i n hi; cases he
 ·intro i n hi; obtain⟨rfl,rfl⟩:=hf i n hi; exact⟨List.Pairwise.nil,dx⟩
 ·intro i n hi; obtain⟨rfl,rfl⟩:=hf i n hi; simp[wQ,uO,ry]
 ·intro i n hi _ h1; exact absurd (hf i n hi).1 h1
 ·intro i n hi _ h1; exact absurd (hf i n hi).1 h1
 ·intro i n hi; obtain⟨rfl,rfl⟩:=hf i n hi; simp
section
attribute [local irreducible] eX fJ lu gK eb kr aq aU cq bI
def vu:∀(d:Bytes),bytesOf (d.map pZ)=some d
 | []=>rfl
 |b::d=>by
  rw[aH]
  show bI (bytesOf (d.map pZ)) (fun l=>some (UInt8.ofNat ((b.toNat:Int)).toNat::l))=some (b::d)
  rw[vu d,bO];simp
def ap0(a b:Bytes):aq bZ 112 [cX a,cX b] []=some (.bool (a==b),[]):=by
 refine aB ?_;simp only[acg,aoJ,vu,EN,seval]
def ast a b:=cP (ap0 a b)
def ar6(x y:gP):decide (x=y)=(x.name==y.name&&(x.ar==y.ar&&(x.ak==y.ak&&true))):=by
 cases x; cases y;simp only[gP.mk.injEq,gb];rw[cz];simp
def RO(x y:gP):kY [.s,.i,.i] (gk x) (gk y)=some (decide (x=y)):=by
 rw[ar6];simp only[gk,kY,kv,bO,↓reduceIte]
def aiV(x:gP):(gk x).all ag.jg=true:=rfl
def akQ(a b:List gP)(ha:a.length<=100000):aq bZ 113 [jc a,jc b] []=some (.bool (decide (a=b)),[]) :=
 DM (sz:=3) (e:=iJ) (ld := .mP 3) (ne := .QG [.s,.i,.i] true) fu rfl ha (fun _=>rfl) (fun _=>rfl) (fun _=>rfl) (fun _ _ _ _ h=>by simp only[ei,fX.ev,h]; rfl) (fun _ _ _ _ _ _ h h'=>by simp only[ei,fX.ev,h,h',iJ,RO,bO])
def asu a b ha:=cP (akQ a b ha)
def adU(x y:Node):decide (x=y)=(x.ar==y.ar&&(x.kind==y.kind&&(x.eG==y.eG&&(x.up==y.up&&(x.data==y.data&&decide (x.bc=y.bc)))))):=by
 cases x; cases y;simp only[Node.mk.injEq];rw[cz];simp only[bh,bw,eu];constructor
 ·rintro⟨h1,h2,h3,h4,h5,h6⟩; exact⟨h1,h2,h3,h6,h4,h5⟩
 ·rintro⟨h1,h2,h3,h6,h4,h5⟩; exact⟨h1,h2,h3,h4,h5,h6⟩
def apZ(x y:Node)(hx:x.bc.length<=100000):aq bZ 111 [.agg (aL x),.agg (aL y)] []=some (.bool (decide (x=y)),[]):=by
 rw[adU];refine aB ?_;simp only[acf,aiv,bL,aL,EN,seval]
 repeat' ((first|apply bA|apply bV|apply dP)<;>intro hb<;>simp only[hb,EN,aiv,ast,asu,hx,seval])
 all_goals simp_all only[qB,↓reduceIte,reduceCtorEq,av]
def ass x y hx:=cP (apZ x y hx)
def ap1(a b:List Node)(ha:a.length<=100000)(he:∀n,n∈a->n.bc.length<=100000):aq bZ 114 [ba a,ba b,.func 111 []] []=some (.bool (decide (a=b)),[]) :=
 adN (sz:=6) (e:=aL) (z:=[aF 0,aF 0,aF 0,.slice .c0 [],.slice .c0 [],aF 0]) fu rfl ha (fun _=>rfl) rfl (fun _=>rfl) (fun _=>rfl) fun x y M h=>ass x y (he x h) M
def asv a b ha he:=cP (ap1 a b ha he)
def aoe(x y:Tree):decide (x=y)=(x.next==y.next&&(x.ak==y.ak&&decide (x.ae=y.ae))):=by
 cases x; cases y;simp only[Tree.mk.injEq];rw[cz];simp only[bh,bw,eu];constructor
 ·rintro⟨h1,h2,h3⟩; exact⟨h2,h3,h1⟩
 ·rintro⟨h2,h3,h1⟩; exact⟨h1,h2,h3⟩
def c56(a b:Tree)(ha:Small a):aq bZ 56 [br a,br b] []=some (.bool (decide (a=b)),[]):=by
 rw[aoe];have h1:=ha.ae;have h2:=ha.bc;refine aB ?_;simp only[alU,E56,br,aM,EN,seval]
 repeat' ((first|apply bA|apply bV|apply dP)<;>intro hb<;>simp only[hb,EN,E56,asv _ _ h1 h2,seval])
 all_goals simp_all only[qB,↓reduceIte,reduceCtorEq,av]
def dY.jw{t:Tree}{dJ:Int->Nat}{x:Int}(h:dY t dJ x):∀m,m∈t.ae->m.ar<t.next:=fun m hm=>(h.num _ _ ((ik h.lL.mr).2 ⟨hm,rfl⟩)).2
end
def dY.ET{t:Tree}{dJ:Int->Nat}{x:Int}(h:dY t dJ x){i:Int}{n:Node}(hi:find t.ae i=some n)(hk:n.kind=2):sy t.ae i=dJ i:=by
 simp only[sy,h.uE hi hk]; omega
def dY.Qr{t:Tree}{dJ:Int->Nat}{x:Int}(h:dY t dJ x)(of:Int):∀(m:Nat)(i:Int)(out:List Int)(n:Node),find t.ae i=some n->n.kind=2->dJ i<=m->out.contains i=true->(uD t.ae m i out).contains of=(out.contains of||nn t.ae of (m+1) i):=by
 intro m;induction m with
 |zero =>
  intro i out n hi hk hd ho;simp only[uD,nn]
  by_cases h1:i=of
  ·subst h1; rw[ho]; rfl
  ·simp[h1]
 |succ m ih =>
  intro i out n hi hk hd ho;simp only[uD];rw[nn]
  by_cases h1:i=1
  ·by_cases h2:i=of
   ·subst h2; simp[h1] at ho ⊢; exact ho
   ·simp[h1,h2];intro h3; exact absurd (h1.trans h3) h2
  ·obtain⟨a,p,b,c⟩:=h.qI _ _ hi hk h1;simp only[pb,ne_eq,h1,not_false_eq_true,↓reduceIte,bm,hi,bW,cu,bz,hk,av,fF,af];rw[ih _ _ p b c aJ dx,h.XJ hi]
   by_cases h2:i=of
   ·subst h2;have:(out++[n.up]).contains i=true:=by simp at ho ⊢; exact .inl ho
    rw[this,ho]; simp
   ·rw[aR h2]
    by_cases h3:n.up=of
    ·have:nn t.ae of (m+1) n.up=true:=by simp[nn,h3]
     rw[this]; simp
    ·have:(out++[n.up]).contains of=out.contains of:=by
      simp;intro hh; exact absurd hh.symm h3
     rw[this]
def dY.yJ{t:Tree}{dJ:Int->Nat}{x:Int}(h:dY t dJ x)(of:Int){i:Int}{n:Node}(hi:find t.ae i=some n)(hk:n.kind=2):(uJ t.ae i).contains of=iP t.ae i of:=by
 have:=h.Qr of t.ae.length i [i] n hi hk (by have:=h.Dy hi hk; omega) dx
 simp only[uJ,this,iP]
 by_cases h2:i=of
 ·subst h2; simp[nn]
 ·have:([i]:List Int).contains of=false:=by simp; exact fun hh=>h2 hh.symm
  rw[this]; rfl
def dY.under{t:Tree}{dJ:Int->Nat}(h:dY t dJ 0){to:Int}{nm:Bytes}{dT:Node}(hT:find t.ae to=some dT):(mB t.ae dT.bc nm).ar=jh dT.bc nm:=by
 unfold mB jh;cases he:gx dT.bc nm with
 |none=>rfl
 |some e =>
  obtain⟨_,_,_,_,m,hm,_⟩:=h.CH _ _ e hT (jY he).1;simp[bm,hm,(cH hm).2]
def V6{t:Tree}{dJ:Int->Nat}(h:dY t dJ 0)(dir:Int)(s:Bytes):pj t dir s=o5 t dir s:=by
 unfold pj o5
 by_cases h0:(gX t.ae dir).2=0
 ·obtain⟨d,d1,d2,d3⟩:=y8 h0
  have hf:DK t d=(decide ((64:Int)<=d.bc.length)||(decide ((12:Int)<=sy t.ae dir)||decide ((1099511627776:Int)<=t.ak))):=by
   unfold DK;rw[(cH d1).2,h.qk d1 d2,h.ET d1 d2]
  simp only[d3,hf,av,af,↓reduceIte,ne_eq,ni];cases fW s<;>simp
 ·rw[aZ (by simpa using h0),aZ h0]
def Ym{t:Tree}{dJ:Int->Nat}(h:dY t dJ 0)(dir:Int)(s:Bytes)(kind:Int):KC t dir s kind=rZ t dir s kind:=by
 unfold KC rZ;rw[V6 h]
def ahj{t:Tree}{dJ:Int->Nat}(h:dY t dJ 0)(ar dir:Int)(s:Bytes):lnW t ar dir s=CL t ar dir s:=by
 unfold lnW CL;rw[V6 h]
def Cy{ae:List Node}{x:Int}{m:Node}(hx:find ae x=some m):kJ ae m=fm ae x:=by
 unfold kJ fm;simp only[bm,hx,bz,(cH hx).2]
def aie{t:Tree}{dJ:Int->Nat}(h:dY t dJ 0)(dir:Int)(s:Bytes):unW t dir s=BO t dir s:=by
 unfold unW BO;split
 ·rfl
 ·rename_i hl;obtain⟨d,e,d1,d2,d3,d4,d5⟩:=look_ok (by simpa using hl)
  simp only[d5];obtain⟨_,_,_,_,m,hm,_⟩:=h.CH _ _ e d1 (jY d4).1
  have hm':find (dD t.ae dir s) e.ar=some m:=by
   rw[kP h.lL.mr d1,aR (h.xh d1 (jY d4).1)]; exact hm
  have hn:bm t.ae e.ar=m:=by simp[bm,hm]
  rw[hn,Cy hm']
def FU(ae:List Node)(ar at' d:Int)(b:Int):∀(l:List Node)(dI:Int),b<wj ae ar at' d l dI->b<dI\/∃n,n∈l/\(n.kind==2&&iP ae n.ar ar)=true/\b<vf ae at' d n
 | [],dI,h => .inl h
 |m::l,dI,h=>by
  rw[wj] at h;rcases FU ae ar at' d b l _ h with h1|⟨n,h1,h2,h3⟩
  ·have e:sI ae ar at' d m dI=if m.kind==2&&iP ae m.ar ar then (if vf ae at' d m>dI then vf ae at' d m else dI) else dI:=rfl
   rw[e] at h1;split at h1
   ·rename_i hb;split at h1
    ·exact .inr ⟨m,bD,hb,h1⟩
    ·exact .inl h1
   ·exact .inl h1
  ·exact .inr ⟨n,bt _ h1,h2,h3⟩
def dY.YK{t:Tree}{dJ:Int->Nat}(h:dY t dJ 0){x to:Int}{m:Node}(hx:find t.ae x=some m)(hk:m.kind=2)(hd:dJ to<12) :
  IA t.ae x (((dJ to+1:Nat):Int))=decide ((12:Int)<Ca t.ae x (((dJ to+1:Nat):Int))):=by
 have key:∀n,n∈t.ae->vd t.ae (((dJ to+1:Nat):Int)) ((dJ x:Nat):Int) x n=((n.kind==2&&iP t.ae n.ar x)&&decide ((12:Int)<vf t.ae (((dJ to+1:Nat):Int)) ((dJ x:Nat):Int) n)):=by
  intro n hn;have hi:find t.ae n.ar=some n:=(ik h.lL.mr).2 ⟨hn,rfl⟩;unfold vd
  by_cases hk2:n.kind=2
  ·rw[h.yJ x hi hk2,h.uE hi hk2]
   by_cases hb:iP t.ae n.ar x=true
   ·rw[h.FT hx hk hd hi hk2 hb];have d1:=(h.deep _ _ hi hk2).1;have d2:=(h.deep _ _ hx hk).1;have d3:=h.AN _ _ n hi hk2 rfl hb;have w1:nz ((((dJ to+1:Nat):Int))+((dJ n.ar+1:Nat):Int))=(((dJ to+1:Nat):Int))+((dJ n.ar+1:Nat):Int):=gA aJ aJ;have w2:nz ((((dJ to+1:Nat):Int))+((dJ n.ar+1:Nat):Int)-1)=(((dJ to+1:Nat):Int))+((dJ n.ar+1:Nat):Int)-1:=gA aJ aJ;have w3:nz ((((dJ to+1:Nat):Int))+((dJ n.ar+1:Nat):Int)-1-(dJ x:Nat))=(((dJ to+1:Nat):Int))+((dJ n.ar+1:Nat):Int)-1-(dJ x:Nat):=gA aJ aJ;rw[w1,w2,w3];unfold rL;rw[aZ hb,hb];simp only[hk2,lX,cN];rw[cz];simp only[df,bw,bh,eu];split<;>omega
   ·have:iP t.ae n.ar x=false:=by simpa using hb
    simp[this]
  ·have:(n.kind==2)=false:=by simpa using hk2
   simp[this]
 have hdx:(sy t.ae x:Int)=((dJ x:Nat):Int):=by rw[h.ET hx hk]
 unfold IA Ca;rw[h.qk hx hk,hdx];rw[cz];simp only[iL,bh];constructor
 ·rintro⟨n,hn,hp⟩;rw[key n hn] at hp;simp only[bw,bh] at hp;have:=(Bc t.ae x (((dJ to+1:Nat):Int)) ((dJ x:Nat):Int) t.ae 0).2 n hn (by simp[hp.1.1,hp.1.2])
  omega
 ·intro hh;rcases FU t.ae x _ _ 12 t.ae 0 hh with h1|⟨n,h1,h2,h3⟩
  ·omega
  ·exact⟨n,h1,by rw[key n h1,h2]; simpa using h3⟩
def ahq{t:Tree}{dJ:Int->Nat}(h:dY t dJ 0)(f:Int)(s:Bytes)(to:Int)(nm:Bytes):ND t f s to nm=wU t f s to nm:=by
 unfold ND wU;split
 ·rfl
 rename_i c1;split
 ·rfl
 rename_i c2;split
 ·rfl
 obtain⟨dF,e,e1,e2,e3,e4,e5⟩:=look_ok (by simpa using c1)
 obtain⟨dT,g1,g2,g3⟩:=y8 (show(gX t.ae to).2=0 by simpa using c2)
 have hem:=(jY e4).1;obtain⟨_,_,x1,_,m,hm,hup⟩:=h.CH _ _ e e1 hem;have hnode:bm t.ae e.ar=m:=by simp[bm,hm]
 simp only[e5,g3,hnode,h.under g1,h.yJ e.ar g1 g2];split
 ·rfl
 rename_i c4;split
 ·rfl
 rename_i c5;have hup':jh dT.bc nm≠e.ar:=by simpa using c4
 have hnf:=h.xh e1 hem
 have hne:e.ar≠to:=fun hh=>by
  rw[hh,g1] at hm; cases hm;simp only[g2,lX,cN] at c5;rw[hh,dY.oT] at c5;exact c5 rfl
 have hmany:∀there:Bool,(jh dT.bc nm==0) = !there->Ea t f to dT.bc there m.kind e.ar=manyN t f to dT.bc m.kind (jh dT.bc nm) e.ar:=by
  intro there hth;unfold Ea manyN;rw[hth,h.uE g1 g2,h.qk g1 g2]
  by_cases hd:dJ to<12
  ·have hw:nz (((dJ to:Nat):Int)+1)=((dJ to+1:Nat):Int):=by
    rw[show(((dJ to:Nat):Int)+1)=((dJ to+1:Nat):Int) by omega]
    exact gA aJ aJ
   rw[hw]
   have hdd:decide ((12:Int)<((dJ to+1:Nat):Int))=decide ((12:Int)<=((dJ to:Nat):Int)):=by
    rw[decide_eq_decide]; omega
   rw[hdd];rcases h.kind _ _ hm with hk|hk
   ·simp[hk]
   ·rw[h.YK hm hk hd]
  ·have h1:decide ((12:Int)<((dJ to+1:Nat):Int))=true:=by rw[bh]; omega
   have h2:decide ((12:Int)<=((dJ to:Nat):Int))=true:=by rw[bh]; omega
   rw[h1,h2]; simp
 cases hfr:gx dT.bc nm with
 |none =>
  have hu:jh dT.bc nm=0:=by simp[jh,hfr]
  have hm1:=hmany false (by rw[hu]; rfl)
  rw[hu] at hm1 ⊢;have hcl:va t.ae m.kind 0=0:=by simp[va,h.zero]
  simp only[cY,cI,af,↓reduceIte,hcl,av,hm1];split
  ·rfl
  ·unfold yH ti;simp only[hnode,af,↓reduceIte,av]
 |some e2 =>
  have hu:jh dT.bc nm=e2.ar:=by simp[jh,hfr]
  obtain⟨_,_,_,_,y,hy,_⟩:=h.CH _ _ e2 g1 (jY hfr).1;have hny:bm t.ae e2.ar=y:=by simp[bm,hy]
  have hto:=h.xh g1 (jY hfr).1;have hy0:=(h.num _ _ hy).1;have hm1:=hmany true (by rw[hu]; simp; omega)
  have hnu:mB t.ae dT.bc nm=y:=by simp[mB,hfr,hny]
  rw[hu] at hm1 ⊢
  have hcl:va t.ae m.kind e2.ar=Ad m y:=by
   unfold va Ad;simp only[hy,bW,cu,af,↓reduceIte,hny]
  rw[hnu,hcl];simp only[bW,cN,hm1];split
  ·rfl
  rename_i c6;split
  ·rfl
  have hy00:y.bc=[]:=by
   have:Ad m y=0:=by simpa using c6
   unfold Ad at this;split at this
   ·cases this
   split at this
   ·cases this
   split at this
   ·cases this
   ·rename_i k3; exact dz.1 (by simpa using k3)
  have hnf2:e2.ar≠f:=fun hh=>by
   rw[hh,e1] at hy; cases hy;rw[hy00] at hem; cases hem
  have hyl:find (dD (dD t.ae f s) to nm) e2.ar=some y:=by
   have f1:=kP h.lL.mr e1 (s:=s);obtain⟨dT',hT'⟩:∃dT',find (dD t.ae f s) to=some dT':=by rw[f1]; split<;>simp_all
   rw[kP (sg h.lL.mr f s) hT',aR hto,f1,aR hnf2];exact hy
  have hb:(e2.ar != 0)=true:=gm;unfold yH ti;simp only[hnode,↓reduceIte,hb,Cy hyl]
section
attribute [local irreducible] eX fJ lu gK eb kr aq aU cq bI
def arc(e:gP)(z:Int):aq bZ 206 [iJ e,cA 0] [cC [aF z]]=some (.bool (decide (e.ak<z)),[cC [aF z]]):=by
 refine aB ?_;simp only[ac6,aoZ,iJ,gk,EN,seval]
def asW(e:gP)(z:Int)(p:Nat)(M:aC)(hM:nth M p=some (cC [aF z])):aU (aq bZ) 206 [.agg (gk e),cA p] M=some (.bool (decide (e.ak<z)),M) :=
 uM (p:=p) (vs:=[.agg (gk e)]) hM (arc e z) rfl rfl rfl rfl rfl rfl rfl rfl rfl
def qY(z:Int)(l:List gP):List gP:=l.filter fun e => !decide (e.ak<z)
def Mt:gP:=⟨[],0,0⟩
abbrev W7(m:Nat):ag:=Dw 3 m
def akZ(xs:List gP)(z:Int)(hn:xs.length<=100000)(h0:xs≠[]):aq bZ 204 [.cD 0 0 3 0 xs.length,.func 206 [cA 1]] [.arr 3 0 (xs.map iJ),cC [aF z]] =
  some (W7 (qY z xs).length,[.arr 3 0 ((qY z xs++List.replicate (xs.length-(qY z xs).length) Mt).map iJ),cC [aF z]]) :=
 adM (sz:=3) (z:=[.str [],aF 0,aF 0]) (zc:=[.str [],aF 0,aF 0]) (gi:=166) (e:=gk) (zx:=Mt) (p:=fun e=>decide (e.ak<z)) fu rfl fu rfl rfl hn (fun _=>rfl) rfl ml (fun _=>rfl) (fun _=>rfl) (fun _=>rfl) ⟨fun _ _=>rfl,rfl,fun _=>rfl,rfl⟩ (fun e _ _=>asW e z 1 _ rfl) h0
end
structure fA where
 bE:Int
 handle:Int
 ar:Int
 deriving DecidableEq,Inhabited
structure dV where
 ar:Int
 ae:Int
 bytes:Int
 deriving DecidableEq,Inhabited
structure pv where
 km:Int
 BM:Int
 node:Node
 deriving DecidableEq,Inhabited
structure mU where
 id:Int
 ar:Int
 at':Int
 deriving DecidableEq,Inhabited
structure iT where
 now:Tree
 tick:Int
 since:List Int
 eS:List pv
 dW:List mU
 next:Int
 deriving DecidableEq,Inhabited
structure aa where
 s:iT
 holds:List fA
 dX:List dV
 deriving DecidableEq,Inhabited
structure jD where
 kind:Int
 bE:Int
 dL:Bytes
 vi:Bytes
 n:Int
 m:Int
 handle:Int
 data:Bytes
 deriving DecidableEq,Inhabited
structure tU where
 err:Int
 ar:Int
 kind:Int
 n:Int
 m:Int
 names:List Bytes
 data:Bytes
 deriving DecidableEq,Inhabited
structure Ky where
 bE:Int
 seq:Int
 j4:tU
 deriving DecidableEq,Inhabited
def jd(h:fA):List ag:=[.int .i64 h.bE,.int .i64 h.handle,.int .i64 h.ar]
def ij(h:fA):ag := .agg (jd h)
abbrev fI(l:List fA):ag := .slice .sh (l.map ij)
def iX(q:dV):List ag:=[.int .i64 q.ar,.int .i64 q.ae,.int .i64 q.bytes]
def gF(q:dV):ag := .agg (iX q)
abbrev cR(l:List dV):ag := .slice .sh (l.map gF)
def mN(p:pv):List ag := .int .i64 p.km :: .int .i64 p.BM::aL p.node
def lY(p:pv):ag := .agg (mN p)
abbrev sd(l:List pv):ag := .slice .sh (l.map lY)
def iH(s:mU):List ag:=[.int .i64 s.id,.int .i64 s.ar,.int .i64 s.at']
def kS(s:mU):ag := .agg (iH s)
abbrev kh(l:List mU):ag := .slice .sh (l.map kS)
abbrev uc(l:List Int):ag := .slice .sh (l.map mV)
abbrev dj(l:List Bytes):ag := .slice .sh (l.map ag.str)
def bM(s:iT):List ag:=[ba s.now.ae,.int .i64 s.now.next,.int .i64 s.now.ak,.int .i64 s.tick,uc s.since,sd s.eS,kh s.dW,.int .i64 s.next]
def qR(s:iT):ag := .agg (bM s)
def cf(f:aa):List ag:=[ba f.s.now.ae,.int .i64 f.s.now.next,.int .i64 f.s.now.ak,.int .i64 f.s.tick,uc f.s.since,sd f.s.eS,kh f.s.dW,.int .i64 f.s.next,fI f.holds,cR f.dX]
def O5(f:aa):ag := .agg (cf f)
def eT(o:jD):List ag:=[.int .i64 o.kind,.int .i64 o.bE,.str o.dL,.str o.vi,.int .i64 o.n,.int .i64 o.m,.int .i64 o.handle,cX o.data]
def XT(o:jD):ag := .agg (eT o)
def cE(a:tU):List ag:=[.int .i64 a.err,.int .i64 a.ar,.int .i64 a.kind,.int .i64 a.n,.int .i64 a.m,dj a.names,cX a.data]
def Lg(a:tU):ag := .agg (cE a)
def y9(s:Ky):List ag := .int .i64 s.bE :: .int .i64 s.seq::cE s.j4
def RJ(s:Ky):ag := .agg (y9 s)
def Ip(n:fA):(ij n).cells=jd n:=rfl
def G4(n:dV):(gF n).cells=iX n:=rfl
def Ir(n:pv):(lY n).cells=mN n:=rfl
def Iu(n:mU):(kS n).cells=iH n:=rfl
def It(n:Ky):(RJ n).cells=y9 n:=rfl
def LM(n:fA):(jd n).length=3:=rfl
def Ju(n:dV):(iX n).length=3:=rfl
def LO(n:pv):(mN n).length=8:=rfl
def LQ(n:mU):(iH n).length=3:=rfl
def LP(n:Ky):(y9 n).length=9:=rfl
def pr{α:Type}(f:α->ag)(k:Nat)(h:∀a,(f a).cells.length=k)(l:List α):wid (l.map f) k=True:=by
 simp only[fH,jb];intro x hx;obtain⟨n,_,rfl⟩:=eL.1 hx;exact h n
def Qw(l:List fA):wid (l.map ij) 3=True:=pr ij _ (fun _=>rfl) l
def Mr(l:List dV):wid (l.map gF) 3=True:=pr gF _ (fun _=>rfl) l
def Qx(l:List pv):wid (l.map lY) 8=True:=pr lY _ (fun _=>rfl) l
def Qz(l:List mU):wid (l.map kS) 3=True:=pr kS _ (fun _=>rfl) l
def Qy(l:List Ky):wid (l.map RJ) 9=True:=pr RJ _ (fun _=>rfl) l
def XN(l:List Bytes):wid (l.map ag.str) 1=True:=pr ag.str _ (fun _=>rfl) l
def tkH(n:fA):List.take 3 (jd n)=jd n:=rfl
def shH(n:fA):List.map ag.shut (jd n)=jd n:=rfl
def tkQ(n:dV):List.take 3 (iX n)=iX n:=rfl
def shQ(n:dV):List.map ag.shut (iX n)=iX n:=rfl
def tkP(n:pv):List.take 8 (mN n)=mN n:=rfl
def shP(n:pv):List.map ag.shut (mN n)=mN n:=rfl
def tkS(n:mU):List.take 3 (iH n)=iH n:=rfl
def shS(n:mU):List.map ag.shut (iH n)=iH n:=rfl
def tkU(n:Ky):List.take 9 (y9 n)=y9 n:=rfl
def shU(n:Ky):List.map ag.shut (y9 n)=y9 n:=rfl
def ala:((2:Nat):Int)=2:=rfl
def ah9:Int.toNat 0=0:=rfl
def aia:Int.toNat 1=1:=rfl
def ar7(a b c d:Int):kY [FK.i,FK.i] [aF a,aF b] [aF c,aF d]=some (a==c&&b==d):=by
 simp[kY,kv]
def YR(a b c a' b' c':Int):kY [FK.i,FK.i,FK.i] [aF a,aF b,aF c] [aF a',aF b',aF c']=some (a==a'&&(b==b'&&c==c')):=by
 simp[kY,kv]
def EVF:=bR @ar7 (bR @YR (bR @gq.{0} (bR @cZ.{0} (bR @ala (bR @ah9 (bR @aia (bR @jF (bR @fM (bR @Ip (bR @G4 (bR @Ir (bR @Iu (bR @It (bR @LM (bR @Ju (bR @LO (bR @LQ (bR @LP (bR @Qw (bR @Mr (bR @Qx (bR @Qz (bR @Qy (bR @XN (bR @tkH (bR @shH (bR @tkQ (bR @shQ (bR @tkP (bR @shP (bR @tkS (bR @shS (bR @tkU (bR @shU (bR @tkN (bR @shN (bR @tkE (@shE))))))))))))))))))))))))))))))))))))))
def EW:=And.intro EVF EN
section
attribute [local irreducible] eX fJ lu gK eb kr aq aU cq bI
def arP(h:fA):aq bZ 258 [.agg (jd h)] []=some (.agg [aF h.bE,aF h.handle],[]):=by
 refine aB ?_;simp only[adA,apg,ij,jd,EW,seval]
def amR h:=cP (arP h)
def gV(n:Node):Bool:=n.kind==1&&n.eG==0
def arj(n:Node):aq bZ 213 [.agg (aL n)] []=some (.bool (gV n),[]):=by
 refine aB ?_;simp only[adb,aiI,bL,aL,EW,seval]
 repeat' ((first|apply bA|apply bV|apply dP)<;>intro hb<;>simp only[hb,EW,aiI,seval])
 all_goals (simp_all only[gV,qB,↓reduceIte,reduceCtorEq,av]; done)
def afQ n:=cP (arj n)
def zZ(c h:Int):Bool:=decide (0<=c)&&decide (c<16)&&decide (0<=h)&&decide (h<100)
def arf(c h:Int):aq bZ 210 [.agg [aF c,aF h]] []=some (.bool (zZ c h),[]):=by
 refine aB ?_;simp only[ac8,aiH,EW,seval]
 repeat' ((first|apply bA|apply bV|apply dP)<;>intro hb<;>simp only[hb,EW,aiH,seval])
 all_goals (simp_all only[zZ,qB,↓reduceIte,reduceCtorEq,av]; done)
def asY c h:=cP (arf c h)
def orI(a b:Int):Int:=if a != 0 then a else b
def at7(a b:Int)(ha:(a != 0)=false):orI a b=b:=by simp[orI,ha]
def arQ(a b:Int):aq bZ 259 [gG [aF a,aF b]] []=some (aF (orI a b),[]):=by
 refine aB ?_;simp only[Su,HX,EW,seval];rw[bG];simp only[Su,HX,EW,seval];refine bA (fun hb=>?_) (fun hb=>?_)
 ·simp only[HX,hb,orI,EW,seval]
 ·have w1:IntKind.i64.wrap 1=1:=gA ml ml;have w2:IntKind.i64.wrap 2=2:=gA ml ml;simp only[HX,hb,at7 a b hb,w1,EW,seval];rw[bG];simp only[HX,EW,seval];refine bA (fun hc=>?_) (fun hc=>?_)
  ·simp only[HX,hc,EW,seval]
  ·simp only[HX,hc,w2,EW,seval];rw[bG];simp only[HX,EW,seval];have:b=0:=by simpa using hc
   rw[this]
def atd a b:=cP (arQ a b)
def im(x:fA)(c h:Int):Int:=orI (qQ x.bE c) (qQ x.handle h)
def ari(c h a b:Int)(x:fA):aq bZ 212 [.agg [aF c,aF h],.agg (jd x),.agg [aF a,aF b]] []=some (aF (im x c h),[]):=by
 refine aB ?_;simp only[ada,ao0,ij,amR,Zl,atd,im,EW,seval]
def amK c h a b x:=cP (ari c h a b x)
def sY(c h:Int)(x:fA):Bool:=x.bE==c&&x.handle==h
def ark(c h:Int)(x:fA):aq bZ 217 [.agg [aF c,aF h],.agg (jd x)] []=some (.bool (sY c h x),[]):=by
 refine aB ?_;simp only[ade,ao1,ij,amR,sY,EW,seval]
def as0 c h x:=cP (ark c h x)
end
section
theorem ya{α:Type}(p:α->Bool):∀(l:List α)(i:Nat),(qD p l i = -1/\l.find? p=none)\/∃(m:Nat) (x:α),qD p l i=((i+m:Nat):Int)/\l[m]?=some x/\l.find? p=some x/\l.eraseIdx m=l.eraseP p
 | [],i => .inl ⟨rfl,rfl⟩
 |x::r,i=>by
  rw[qD]
  by_cases h:p x=true
  ·grind
  ·rcases ya p r (i+1) with ⟨h1,h2⟩|⟨m,y,h1,h2,h3,h4⟩
   ·exact .inl ⟨by simp[h,h1],by simp[h,h2]⟩
   ·grind
def mq{α:Type}(lt:α->Bool)(l:List α):Nat:=(l.takeWhile lt).length
theorem Hq{α:Type}{lt:α->Bool}:∀ {l:List α},l.Pairwise (fun a b=>lt b=true->lt a=true)->XQ lt l (mq lt l)
 | [],_=>⟨au _,fun h n hn=>by simp_all⟩
 |a::r,h=>by
  obtain⟨h1,h2⟩:=du.1 h;obtain⟨i1,i2⟩:=Hq h2;unfold mq at i1 i2 ⊢
  by_cases ha:lt a=true
  ·rw[iz,aZ ha];refine⟨jK,fun k n hn=>?_⟩
   grind
  ·rw[iz,aR ha];refine⟨dx,fun k n hn=>?_⟩
   grind
def WM(z:Int):jZ [cC [aF z]] (iB [0]) [0]=some [cC [aF z]]:=rfl
def Ma(u v:Int):jZ [cC [aF u],cC [aF v]] (iB [0,1]) [0,1]=some [cC [aF u],cC [aF v]]:=rfl
attribute [local irreducible] eX fJ lu gK eb kr aq aU cq bI
def arR(x:fA)(z:Int):aq bZ 262 [ij x,cA 0] [cC [aF z]]=some (.bool (x.ar==z),[cC [aF z]]):=by
 refine aB ?_;simp[adB,aph,ij,jd,EW]
def aqZ(x:fA)(z:Int):aq bZ 186 [ij x,cA 0] [cC [aF z]]=some (.bool (x.ar==z),[cC [aF z]]):=by
 refine aB ?_;simp[acS,aoR,ij,jd,EW]
def arW(q:dV)(ar:Int):aq bZ 268 [gF q,aF ar] []=some (aF (qQ q.ar ar),[]):=by
 refine aB ?_;simp[adG,apl,gF,iX,Zl,EW]
def atg(n:dV)(ar:Int)(M:aC):aU (aq bZ) 268 [.agg (iX n),aF ar] M=some (aF (qQ n.ar ar),M):=cO (arW n _) M
def arT(n:Node)(ar:Int):aq bZ 264 [bL n,aF ar] []=some (aF (qQ n.ar ar),[]):=by
 refine aB ?_;simp[adC,api,bL,aL,Zl,EW]
def atf(n:Node)(ar:Int)(M:aC):aU (aq bZ) 264 [.agg (aL n),aF ar] M=some (aF (qQ n.ar ar),M):=cO (arT n _) M
def zp(km BM:Int)(x:mU):Bool:=decide (km<=x.at')&&decide (x.at'<BM)
def arU(x:mU)(a b:Int):aq bZ 266 [kS x,cA 0,cA 1] [cC [aF a],cC [aF b]]=some (.bool (zp a b x),[cC [aF a],cC [aF b]]):=by
 refine aB ?_;simp only[adF,apk,kS,iH,EW,seval]
 repeat' ((first|refine bA _ _|refine bV (fun hb=>?_) (fun hb=>?_)|refine dP _ _)<;>simp only[hb,EW,seval])
 all_goals (simp_all only[zp,qB]; done)
def ak3(xs:List fA)(c g:Int)(hn:xs.length<=100000):aq bZ 216 [gG (xs.map ij),.qZ 217 [.agg [aF c,aF g]]] []=some (aF (qD (sY c g) xs 0),[]) :=
 DN (sz:=3) (e:=jd) fu rfl hn (fun _=>rfl) (fun _=>rfl) rfl rfl fun x _ => .inr ⟨_,_,rfl,as0 c g x []⟩
def adR(xs:List fA)(c g:Int)(hn:xs.length<=100000)(M:aC):aU (aq bZ) 216 [gG (xs.map ij),.qZ 217 [.agg [aF c,aF g]]] M=some (aF (qD (sY c g) xs 0),M):=cO (ak3 _ c g hn) M
def ak1(xs:List fA)(z:Int)(hn:xs.length<=100000):aq bZ 216 [gG (xs.map ij),.func 262 [cA 0]] [cC [aF z]]=some (aF (qD (fun x:fA=>x.ar==z) xs 0),[cC [aF z]]) :=
 DN (sz:=3) (e:=jd) fu rfl hn (fun _=>rfl) (fun _=>rfl) rfl rfl fun x _ => .inl ⟨_,_,rfl,uM (p:=0) (vs:=[.agg (jd x)]) rfl (arR x z) rfl rfl rfl rfl rfl rfl rfl rfl rfl⟩
def akV(xs:List fA)(z:Int)(hn:xs.length<=100000):aq bZ 185 [gG (xs.map ij),.func 262 [cA 0]] [cC [aF z]]=some (.bool (xs.any (fun x:fA=>x.ar==z)),[cC [aF z]]):=by
 refine aB ?_;have hk:aU (aq bZ) 216 [gG (xs.map ij),.func 262 [cA 0]] _=some (aF _,[cC [aF z]]):=lj (ids:=[0]) rfl rfl (WM z) rfl rfl (ak1 xs z hn) rfl rfl rfl rfl rfl;simp only[Sk,aiD,hk,xj,EW,seval]
def ak2(xs:List fA)(z:Int)(hn:xs.length<=100000):aq bZ 216 [gG (xs.map ij),.func 186 [cA 0]] [cC [aF z]]=some (aF (qD (fun x:fA=>x.ar==z) xs 0),[cC [aF z]]) :=
 DN (sz:=3) (e:=jd) fu rfl hn (fun _=>rfl) (fun _=>rfl) rfl rfl fun x _ => .inl ⟨_,_,rfl,uM (p:=0) (vs:=[.agg (jd x)]) rfl (aqZ x z) rfl rfl rfl rfl rfl rfl rfl rfl rfl⟩
def akW(xs:List fA)(z:Int)(hn:xs.length<=100000):aq bZ 185 [gG (xs.map ij),.func 186 [cA 0]] [cC [aF z]]=some (.bool (xs.any (fun x:fA=>x.ar==z)),[cC [aF z]]):=by
 refine aB ?_;have hk:aU (aq bZ) 216 [gG (xs.map ij),.func 186 [cA 0]] _=some (aF _,[cC [aF z]]):=lj (ids:=[0]) rfl rfl (WM z) rfl rfl (ak2 xs z hn) rfl rfl rfl rfl rfl;simp only[Sk,aiD,hk,xj,EW,seval]
def ak7(xs:List mU)(u v:Int)(hn:xs.length<=100000):aq bZ 299 [gG (xs.map kS),.func 266 [cA 0,cA 1]] [cC [aF u],cC [aF v]]=some (aF (qD (zp u v) xs 0),[cC [aF u],cC [aF v]]) :=
 DN (sz:=3) (e:=iH) fu rfl hn (fun _=>rfl) (fun _=>rfl) rfl rfl fun x _ => .inl ⟨_,_,rfl,lj (ids:=[0,1]) rfl rfl (Ma u v) rfl rfl (arU x u v) rfl rfl rfl rfl rfl⟩
def ak6(xs:List mU)(u v:Int)(hn:xs.length<=100000):aq bZ 265 [gG (xs.map kS),.func 266 [cA 0,cA 1]] [cC [aF u],cC [aF v]]=some (.bool (xs.any (zp u v)),[cC [aF u],cC [aF v]]):=by
 refine aB ?_;have hk:aU (aq bZ) 299 [gG (xs.map kS),.func 266 [cA 0,cA 1]] _=some (aF _,[cC [aF u],cC [aF v]]):=lj (ids:=[0,1]) rfl rfl (Ma u v) rfl rfl (ak7 xs u v hn) rfl rfl rfl rfl rfl;simp only[adE,apj,hk,xj,EW,seval]
def arV(xs:List dV)(ar:Int)(b:Nat)(hb:XQ (fun x=>decide (qQ x.ar ar<0)) xs b)(hn:xs.length<=100000):aq bZ 267 [gG (xs.map gF),aF ar,.func 268 []] []=some (.tuple [aF b,.bool (pn (fun x=>qQ x.ar ar==0) xs b)],[]) :=
 Zc (sz:=3) (e:=iX) fu rfl hb hn (fun _=>rfl) (fun _=>rfl) (.inl ⟨_,_,rfl⟩) rfl rfl rfl rfl rfl (fun _ _ => .inl ⟨_,_,rfl,atg _ _ _⟩)
def ak5(xs:List Node)(ar:Int)(b:Nat)(hb:XQ (fun x=>decide (qQ x.ar ar<0)) xs b)(hn:xs.length<=100000):aq bZ 263 [gG (xs.map bL),aF ar,.func 264 []] []=some (.tuple [aF b,.bool (pn (fun x=>qQ x.ar ar==0) xs b)],[]) :=
 Zc (sz:=6) (e:=aL) fu rfl hb hn (fun _=>rfl) (fun _=>rfl) (.inl ⟨_,_,rfl⟩) rfl rfl rfl rfl rfl (fun _ _ => .inl ⟨_,_,rfl,atf _ _ _⟩)
def aax{xs:List fA}{c g:Int}{b:Nat}(hb:XQ (fun x=>decide (im x c g<0)) xs b)(hn:xs.length<=100000){k:List K}{r:Option (ag×aC)}
  (hx:∀v q,kr (aq bZ) [.tmp 6,.tmp 7] 0 k ⟨.exit 0,[(0,gG (xs.map ij)),(2,.qZ 212 [.agg [aF c,aF g]]),(4,cA 0),(8,aF xs.length),(9,aF b),(10,v),(17,q)],[cC [aF c,aF g]]⟩=r) :
  ∀(f i j:Nat),j-i<=f->i<=b->b<=j->j<=xs.length->eX (aq bZ) [.tmp 6,.tmp 7] 0 k (.loop [0,2,4,8,9,10] Z6) [(0,gG (xs.map ij)),(2,.qZ 212 [.agg [aF c,aF g]]),(4,cA 0),(8,aF xs.length),(9,aF i),(10,aF j)] [cC [aF c,aF g]]=r:=by
 intro f;induction f with
 |zero =>
  intro i j h1 h2 h3 h4;obtain rfl:i=b:=aJ;rw[bG];have cJ:((i:Int)<(j:Int))=False:=gm;simp only[HW,cJ,EW,seval];exact hx _ _
 |succ f ih =>
  intro i j h1 h2 h3 h4;rw[bG]
  by_cases hij:i<j
  ·have cJ:((i:Int)<(j:Int))=True:=gm;obtain⟨m1,m2,m3,m4,m5⟩:=Wc i j aJ aJ;have hmid:(i+j) / 2<xs.length:=aJ;have hx:=ai hmid;have hl:=hb.lt _ _ hx;have hk:=fun x:fA=>amK c g c g x [cC [aF c,aF g]]
   simp only[HW,cJ,m1,m2,m3,m4,hx,hk,EW,seval];refine bA (fun hq=>?_) (fun hq=>?_)
   ·simp only[HW,m5,EW,seval];exact ih ((i+j) / 2+1) j aJ (hl.1 hq) h3 h4
   ·simp only[HW,EW,seval];exact ih i ((i+j) / 2) aJ h2 (Nat.not_lt.1 fun h=>by rw[hl.2 h] at hq; cases hq) aJ
  ·obtain rfl:i=b:=aJ;have cJ:((i:Int)<(j:Int))=False:=gm;simp only[HW,cJ,EW,seval];exact hx _ _
def arh(xs:List fA)(c g:Int)(b:Nat)(hb:XQ (fun x=>decide (im x c g<0)) xs b)(hn:xs.length<=100000):aq bZ 211 [gG (xs.map ij),.agg [aF c,aF g],.qZ 212 [.agg [aF c,aF g]]] []=some (.tuple [aF b,.bool (pn (fun x=>im x c g==0) xs b)],[]):=by
 refine aB ?_;simp only[ac9,HW,EW,seval];refine aax hb hn (fun v q=>?_) xs.length 0 xs.length aJ aJ hb.le aJ
 have hk:=fun x:fA=>amK c g c g x [cC [aF c,aF g]]
 unfold pn
 by_cases cJ:b<xs.length
 ·have hx:=ai cJ;have h1:((b:Int)<(xs.length:Int))=True:=gm;simp only[HW,hx,h1,hk,EW,seval]
 ·have hx:xs[b]?=none:=fG aJ;have h1:((b:Int)<(xs.length:Int))=False:=gm;simp only[HW,hx,h1,EW,seval]
end
section
section
variable {α:Type} (enc:α->ag) {f sz bytes:Nat}
def CU(hp:bZ.oX f=some (mR sz bytes))(hw:∀a,(enc a).cells.length=sz)(hb:bytes<=1000){l:List α}(h0:l≠[])(hn:l.length<=100000)(M:aC) :
  aq bZ f [gG (l.map enc)] M=some (.cD M.length 0 sz 0 l.length,M++[.arr sz 0 (l.map enc)]):=by
 refine fg (g:=mR sz bytes) hp ?_;obtain⟨a,r,rfl⟩:=fj h0;have hw:wid ((a::r).map enc) sz:=by have:=pr enc sz hw (a::r); simpa using this
 have hr:ct ((a::r).map enc).length bytes:=by have:=sx (a:=(a::r).length) (b:=bytes) aJ aJ; simpa using this
 unfold mR;simp only[aH] at hw hr ⊢;rw[fi ⟨hw,hr⟩];simp
def DL(hp:bZ.oX f=some (mR sz bytes)){l:List α}(h0:l=[])(M:aC):aq bZ f [gG (l.map enc)] M=some (.slice .c0 [],M):=by
 subst h0; exact fg (g:=mR sz bytes) hp rfl
def I8(hp:bZ.oX f=some (kZ sz bytes))(hb:bytes<=1000){l:List α}{b id v:Nat}(h:b<=l.length)(hn:l.length<=100000)(x:ag)(hx:x.cells.length=sz)(M:aC)(hM:nth M id=some (.arr sz v (l.map enc))) :
  aq bZ f [.cD id v sz 0 l.length,aF b,gG [x]] M=some (.cD id (v+1) sz 0 (l.length+1),iR M id (.arr sz (v+1) ((l.map enc).take b++x::(l.map enc).drop b))):=by
 refine fg (g:=kZ sz bytes) hp ?_;have hr:ct ((l.map enc).length+1) bytes:=by have:=sx (a:=l.length+1) (b:=bytes) aJ aJ; simpa using this
 unfold kZ;simp only[hM];rw[fi ⟨trivial,trivial,trivial,dx,aJ,by simpa using h,hx,hr⟩]
 simp
def FO(hp:bZ.oX f=some (kZ sz bytes)){b:Nat}(h0:b=0)(x:ag)(hx:x.cells.length=sz)(M:aC) :
  aq bZ f [.slice .c0 [],aF (b:Int),gG [x]] M=some (.cD M.length 0 sz 0 1,M++[.arr sz 0 [x]]):=by
 subst h0;refine fg (g:=kZ sz bytes) hp ?_;unfold kZ;simp only[];rw[fi ⟨rfl,hx⟩]
def amb(hp:bZ.oX f=some (lJ sz)){l:List α}{b id v:Nat}(h:b<l.length)(hn:l.length<=100000)(M:aC)(hM:nth M id=some (.arr sz v (l.map enc))) :
  aq bZ f [.cD id v sz 0 l.length,aF b,aF ((b+1:Nat):Int)] M=some (.cD id (v+1) sz 0 (l.length-1),iR M id (.arr sz (v+1) ((l.map enc).take b++(l.map enc).drop (b+1)))):=by
 refine fg (g:=lJ sz) hp ?_;unfold lJ;simp only[hM];rw[fi ⟨trivial,trivial,trivial,dx,aJ,by simpa using h,aJ,gm⟩]
 simp
def Qh{M:aC}(i:Nat)(a b:cL):iR (iR M i a) i b=iR M i b:=by
 induction M generalizing i with
 |nil=>rfl
 |cons x r ih =>
  cases i with
  |zero=>rfl
  |succ i=>simp only[iR,ih]
def YL{l:List α}{b:Nat}(h:b<l.length):List.take (l.length-1) ((l.map enc).take b++(l.map enc).drop (b+1))=(l.eraseIdx b).map enc:=by
 rw[bB gm,List.eraseIdx_eq_take_drop_succ];simp
def FN(hp:bZ.oX f=some (sN sz)){l:List α}{b id v:Nat}(h:b<l.length)(hn:l.length<=100000)(M:aC)(hM:nth M id=some (.arr sz v (l.map enc))) :
  aq bZ f [.cD id v sz 0 l.length,aF b,aF ((b+1:Nat):Int)] M=some (gG ((l.eraseIdx b).map enc),iR M id (.tick sz (l.length-1))):=by
 refine fg (g:=sN sz) hp ?_;unfold sN lJ;simp only[hM];rw[fi ⟨trivial,trivial,trivial,dx,aJ,by simpa using h,aJ,gm⟩]
 simp only[bO,ag.rq,ag.n9,HG hM,ag.ids,ag.nH,ag.iK,qm,Qh,aI,nc,dN,cU];rw[YL enc h];have:(List.take b (l.map enc)++List.drop (b+1) (l.map enc)).length=l.length-1:=gm;rw[this]
def Nk{l:List α}{b:Nat}(h:b<=l.length)(x:α):List.take (l.length+1) ((l.map enc).take b++enc x::(l.map enc).drop b)=(l.take b++x::l.drop b).map enc:=by
 rw[bB gm];simp
end
attribute [local irreducible] eX fJ lu gK eb kr aq aU cq bI
def Fc(t:Tree)(ar:Int)(ht:Small t)(hr:rV t)(M:aC):aU (aq bZ) 191 [.agg [ba t.ae,aF t.next,aF t.ak],aF ar] M=some (.tuple [.agg (aL (bm t.ae ar)),.bool (find t.ae ar).isSome],M) :=
 cO (aq3 t ar ht hr) M
def amD(t:Tree)(ar:Int)(ht:Small t)(hr:rV t)(M:aC):aU (aq bZ) 187 [.agg [ba t.ae,aF t.next,aF t.ak],aF ar] M=some (.tuple [.agg (aM (kH t ar).1),aF (kH t ar).2],M) :=
 cO (aq0 t ar ht hr) M
end
end
end Go.Proofs.YteoamaffclmdbaaGreatDoor
