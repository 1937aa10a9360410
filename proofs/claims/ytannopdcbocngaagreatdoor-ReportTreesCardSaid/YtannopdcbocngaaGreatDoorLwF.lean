/-
  ReportTreesCardSaid: proved of the given program, for every input that the row allows: see the last text of this claim. Conditions: none beside the row's own.
-/
import Derived.KernelRfl
import Derived.Test.YtannopdcbocngaaGreatDoorTie
import Derived.Test.YtannopdcbocngaaGreatDoorLwE
set_option linter.unusedSimpArgs false
set_option linter.unusedVariables false
set_option linter.unusedSectionVars false
set_option linter.defProp false
namespace Go.Proofs.YtannopdcbocngaaGreatDoor
open Go Go.Abs
def q9_0:ACode :=
 (.seq (.region [
 ob 19 (.mv (.tmp 3)),
 ob 2 (.mv (.tmp 19))] false [2]) (.ret))
def q9_1:ACode :=
 (.region [
 ob 57 (.mv (.tmp 6)),
 ob 58 (.bin .add (.tmp 57) (.cst (.int .i64 1))),
 ob 6 (.mv (.tmp 58))] false [3,4,5,6,7])
def q9_2:ACode :=
 (.seq (.region [
 ob 41 (.faddr 0 (.tmp 4)),
 ob 42 (.load1 (.tmp 41)),
 ob 43 (.mv (.tmp 7)),
 ob 44 (.iaddr 6 (.tmp 42) (.tmp 43)),
 ob 45 (.faddr 1 (.tmp 44)),
 ob 46 (.load1 (.tmp 45)),
 ob 47 (.bin .eql (.tmp 46) (.cst (.int .i64 1))),
 ob 48 (.mv (.tmp 47)),
 og 49 48 true (.faddr 0 (.tmp 4)),
 og 50 48 true (.load1 (.tmp 49)),
 og 51 48 true (.mv (.tmp 7)),
 og 52 48 true (.iaddr 6 (.tmp 50) (.tmp 51)),
 og 53 48 true (.faddr 2 (.tmp 52)),
 og 54 48 true (.load1 (.tmp 53)),
 og 55 48 true (.bin .eql (.tmp 54) (.cst (.int .i64 0))),
 ob 56 (.pick (.tmp 48) (.tmp 55) (.cst (.bool false)))] false [3,4,5,6,7,56]) (.cond (.tmp 56) q9_1 (.skip)))
def q9_3:ACode :=
 (.region [
 ob 30 (.mv (.tmp 7)),
 ob 31 (.bin .add (.tmp 30) (.cst (.int .i64 1))),
 ob 7 (.mv (.tmp 31))] false [3,4,5,6,7])
def q9_4:ACode :=
 (.seq (.block 1 (.seq (.region [
 ob 32 (.mv (.tmp 6)),
 ob 33 (.faddr 0 (.tmp 4)),
 ob 34 (.load1 (.tmp 33)),
 ob 35 (.mv (.tmp 7)),
 ob 36 (.iaddr 6 (.tmp 34) (.tmp 35)),
 ob 37 (.faddr 4 (.tmp 36)),
 ob 38 (.load1 (.tmp 37)),
 ob 39 (.lenV (.tmp 38)),
 ob 40 (.bin .add (.tmp 32) (.tmp 39)),
 ob 6 (.mv (.tmp 40))] false [3,4,5,6,7]) q9_2)) q9_3)
def lb9_0:ACode :=
 (.seq (.seq (.region [
 ob 25 (.mv (.tmp 7)),
 ob 26 (.faddr 0 (.tmp 4)),
 ob 27 (.load1 (.tmp 26)),
 ob 28 (.lenV (.tmp 27)),
 ob 29 (.bin .lss (.tmp 25) (.tmp 28))] false [3,4,5,6,7,29]) (.cond (.tmp 29) (.skip) (.exit 0))) q9_4)
def q9_5:ACode :=
 (.seq (.region [
 ob 2 (.mv (.cst (.bool false)))] false [2]) (.ret))
def q9_6:ACode :=
 (.seq (.region [
 ob 2 (.mv (.cst (.bool false)))] false [2]) (.ret))
def q9_7:ACode :=
 (.seq (.region [
 ob 2 (.mv (.cst (.bool false)))] false [2]) (.ret))
def q9_8:ACode :=
 (.seq (.region [
 ob 105 (.mv (.tmp 11)),
 ob 106 (.not (.tmp 105)),
 ob 107 (.mv (.tmp 106)),
 og 108 107 false (.mv (.tmp 13)),
 og 109 107 false (.bin .neq (.tmp 108) (.cst (.int .i64 0))),
 ob 110 (.pick (.tmp 107) (.cst (.bool true)) (.tmp 109)),
 ob 111 (.mv (.tmp 110)),
 og 112 111 false (.mv (.tmp 15)),
 og 113 111 false (.not (.tmp 112)),
 ob 114 (.pick (.tmp 111) (.cst (.bool true)) (.tmp 113)),
 ob 115 (.mv (.tmp 114)),
 og 116 115 false (.mv (.tmp 12)),
 ⟨(some 117),.call 37 [(.tmp 116)],(some (115,false)),true,false,[]⟩,
 og 118 115 false (.mv (.tmp 9)),
 og 119 115 false (.iaddr 1 (.tmp 118) (.cst (.int .i64 2))),
 og 120 115 false (.load1 (.tmp 119)),
 og 121 115 false (.bin .neq (.tmp 117) (.tmp 120)),
 ob 122 (.pick (.tmp 115) (.cst (.bool true)) (.tmp 121)),
 ob 123 (.mv (.tmp 122)),
 og 124 123 false (.faddr 1 (.tmp 14)),
 og 125 123 false (.load1 (.tmp 124)),
 og 126 123 false (.bin .eql (.tmp 125) (.cst (.int .i64 2))),
 og 127 123 false (.mv (.tmp 9)),
 og 128 123 false (.iaddr 1 (.tmp 127) (.cst (.int .i64 1))),
 og 129 123 false (.load1 (.tmp 128)),
 og 130 123 false (.bin .eql (.tmp 129) (.cst (.str [100,105,114]))),
 og 131 123 false (.eqB true (.tmp 126) (.tmp 130)),
 ob 132 (.pick (.tmp 123) (.cst (.bool true)) (.tmp 131)),
 ob 133 (.mv (.tmp 132)),
 og 134 133 false (.faddr 1 (.tmp 14)),
 og 135 133 false (.load1 (.tmp 134)),
 og 136 133 false (.bin .eql (.tmp 135) (.cst (.int .i64 1))),
 og 137 133 false (.mv (.tmp 9)),
 og 138 133 false (.iaddr 1 (.tmp 137) (.cst (.int .i64 1))),
 og 139 133 false (.load1 (.tmp 138)),
 og 140 133 false (.bin .eql (.tmp 139) (.cst (.str [102,105,108,101]))),
 og 141 133 false (.eqB true (.tmp 136) (.tmp 140)),
 ob 142 (.pick (.tmp 133) (.cst (.bool true)) (.tmp 141))] true [3,4,5,6,8,142]) (.cond (.tmp 142) q9_7 (.skip)))
def q9_9:ACode :=
 (.seq (.region [
 ob 100 (.loadA 3 (.tmp 4)),
 ob 101 (.mv (.tmp 12)),
 ob 102 (.call 36 [(.tmp 100),(.tmp 101)]),
 ob 99 (.mv (.tmp 102)),
 ob 103 (.extract (.tmp 99) 0),
 ob 104 (.extract (.tmp 99) 1),
 ob 14 (.box0 [(.int .i64 0),(.int .i64 0),(.int .i64 0),(.slice .c0 []),(.slice .c0 []),(.int .i64 0)]),
 ox (.store 6 (.tmp 14) (.tmp 103)),
 ob 15 (.mv (.tmp 104))] false [3,4,5,6,8,9,11,12,13,14,15]) q9_8)
def q9_10:ACode :=
 (.seq (.seq (.region [
 ob 97 (.mv (.tmp 10)),
 ob 98 (.bin .eql (.tmp 97) (.cst (.str [45])))] false [3,4,5,6,8,9,11,12,13,98]) (.cond (.tmp 98) (.exit 3) (.skip))) q9_9)
def q9_11:ACode :=
 (.seq (.region [
 ob 92 (.loadA 3 (.tmp 4)),
 ob 93 (.mv (.tmp 10)),
 ob 94 (.call 35 [(.tmp 92),(.tmp 93)]),
 ob 91 (.mv (.tmp 94)),
 ob 95 (.extract (.tmp 91) 0),
 ob 96 (.extract (.tmp 91) 1),
 ob 12 (.mv (.tmp 95)),
 ob 13 (.mv (.tmp 96))] false [3,4,5,6,8,9,10,11,12,13]) q9_10)
def q9_12:ACode :=
 (.seq (.region [
 ob 85 (.mv (.tmp 9)),
 ob 86 (.iaddr 1 (.tmp 85) (.cst (.int .i64 0))),
 ob 87 (.load1 (.tmp 86)),
 ob 88 (.call 34 [(.tmp 87)]),
 ob 84 (.mv (.tmp 88)),
 ob 89 (.extract (.tmp 84) 0),
 ob 90 (.extract (.tmp 84) 1),
 ob 10 (.mv (.tmp 89)),
 ob 11 (.mv (.tmp 90))] false [3,4,5,6,8,9,10,11]) q9_11)
def q9_13:ACode :=
 (.seq (.seq (.region [
 ob 81 (.mv (.tmp 9)),
 ob 82 (.lenV (.tmp 81)),
 ob 83 (.bin .lss (.tmp 82) (.cst (.int .i64 3)))] false [3,4,5,6,8,9,83]) (.cond (.tmp 83) q9_6 (.skip))) q9_12)
def q9_14:ACode :=
 (.region [
 ob 74 (.mv (.tmp 8)),
 ob 75 (.bin .add (.tmp 74) (.cst (.int .i64 1))),
 ob 8 (.mv (.tmp 75))] false [3,4,5,6,8])
def q9_15:ACode :=
 (.seq (.block 3 (.seq (.region [
 ob 76 (.mv (.tmp 5)),
 ob 77 (.mv (.tmp 8)),
 ob 78 (.iaddr 1 (.tmp 76) (.tmp 77)),
 ob 79 (.load1 (.tmp 78)),
 ob 80 (.call 33 [(.tmp 79),(.cst (.int .u8 32))]),
 ob 9 (.mv (.tmp 80))] false [3,4,5,6,8,9]) q9_13)) q9_14)
def lb9_1:ACode :=
 (.seq (.seq (.region [
 ob 71 (.mv (.tmp 8)),
 ob 72 (.mv (.tmp 6)),
 ob 73 (.bin .lss (.tmp 71) (.tmp 72))] false [3,4,5,6,8,73]) (.cond (.tmp 73) (.skip) (.exit 2))) q9_15)
def q9_16:ACode :=
 (.seq (.region [
 ob 143 (.mv (.tmp 3)),
 ob 2 (.mv (.tmp 143))] false [2]) (.ret))
def q9_17:ACode :=
 (.seq (.seq (.region [
 ob 8 (.mv (.cst (.int .i64 0)))] false [3,4,5,6,8]) (.block 2 (.loop [3,4,5,6,8] lb9_1))) q9_16)
def q9_18:ACode :=
 (.seq (.seq (.region [
 ob 59 (.mv (.tmp 5)),
 ob 60 (.lenV (.tmp 59)),
 ob 61 (.mv (.tmp 6)),
 ob 62 (.bin .add (.tmp 61) (.cst (.int .i64 1))),
 ob 63 (.bin .neq (.tmp 60) (.tmp 62)),
 ob 64 (.mv (.tmp 63)),
 og 65 64 false (.mv (.tmp 5)),
 og 66 64 false (.mv (.tmp 6)),
 og 67 64 false (.iaddr 1 (.tmp 65) (.tmp 66)),
 og 68 64 false (.load1 (.tmp 67)),
 og 69 64 false (.bin .neq (.tmp 68) (.cst (.str []))),
 ob 70 (.pick (.tmp 64) (.cst (.bool true)) (.tmp 69))] false [3,4,5,6,70]) (.cond (.tmp 70) q9_5 (.skip))) q9_17)
def q9_19:ACode :=
 (.seq (.seq (.region [
 ob 7 (.mv (.cst (.int .i64 0)))] false [3,4,5,6,7]) (.block 0 (.loop [3,4,5,6,7] lb9_0))) q9_18)
def q9_20:ACode :=
 (.seq (.region [
 ob 6 (.mv (.cst (.int .i64 1)))] false [3,4,5,6]) q9_19)
def q9_21:ACode :=
 (.seq (.region [
 ob 22 (.loadA 3 (.tmp 4)),
 ob 23 (.call 22 [(.tmp 22)]),
 ob 24 (.call 33 [(.tmp 23),(.cst (.int .u8 10))]),
 ob 5 (.mv (.tmp 24))] false [3,4,5]) q9_20)
def q9_22:ACode :=
 (.seq (.region [
 ob 20 (.mv (.tmp 0)),
 ob 21 (.call 14 [(.tmp 20)]),
 ob 4 (.box0 [(.slice .c0 []),(.int .i64 0),(.int .i64 0)]),
 ox (.store 3 (.tmp 4) (.tmp 21))] false [3,4]) q9_21)
def q9_23:ACode :=
 (.seq (.seq (.region [
 ob 17 (.mv (.tmp 0)),
 ob 18 (.call 11 [(.tmp 17)])] false [0,3,18]) (.cond (.tmp 18) q9_0 (.skip))) q9_22)
def q9_24:ACode :=
 (.seq (.region [
 ob 16 (.call 10 []),
 ob 3 (.mv (.tmp 16))] false [0,3]) q9_23)
def E9:=And.intro (exK_head q9_0.eq_1) (And.intro (exK_head q9_1.eq_1) (And.intro (exK_head q9_2.eq_1) (And.intro (exK_head q9_3.eq_1) (And.intro (exK_head q9_4.eq_1) (And.intro (exK_head lb9_0.eq_1) (And.intro (exK_head q9_5.eq_1) (And.intro (exK_head q9_6.eq_1) (And.intro (exK_head q9_7.eq_1) (And.intro (exK_head q9_8.eq_1) (And.intro (exK_head q9_9.eq_1) (And.intro (exK_head q9_10.eq_1) (And.intro (exK_head q9_11.eq_1) (And.intro (exK_head q9_12.eq_1) (And.intro (exK_head q9_13.eq_1) (And.intro (exK_head q9_14.eq_1) (And.intro (exK_head q9_15.eq_1) (And.intro (exK_head lb9_1.eq_1) (And.intro (exK_head q9_16.eq_1) (And.intro (exK_head q9_17.eq_1) (And.intro (exK_head q9_18.eq_1) (And.intro (exK_head q9_19.eq_1) (And.intro (exK_head q9_20.eq_1) (And.intro (exK_head q9_21.eq_1) (And.intro (exK_head q9_22.eq_1) (And.intro (exK_head q9_23.eq_1) (exK_head q9_24.eq_1))))))))))))))))))))))))))
def ann9:Ann:={ n:=144,own:=[],lv:=[(0,[0]),(1,[0,3]),(2,[0,3,18]),(3,[2]),(4,[3,4]),(5,[3,4,5]),(6,[3,4,5,6]),(7,[3,4,5,6,7]),(8,[3,4,5,6,7,29]),(9,[3,4,5,6,7]),(10,[3,4,5,6,7]),(11,[3,4,5,6,7,56]),(12,[3,4,5,6,7]),(13,[3,4,5,6,70]),(14,[2]),(15,[3,4,5,6,8]),(16,[3,4,5,6,8,73]),(17,[3,4,5,6,8]),(18,[3,4,5,6,8,9]),(19,[3,4,5,6,8,9,83]),(20,[2]),(21,[3,4,5,6,8,9,10,11]),(22,[3,4,5,6,8,9,10,11,12,13]),(23,[3,4,5,6,8,9,11,12,13,98]),(24,[3,4,5,6,8,9,11,12,13,14,15]),(25,[3,4,5,6,8,142]),(26,[2]),(27,[2])],lp:=[(8,[3,4,5,6,7]),(16,[3,4,5,6,8])] }
def fn9:AFn:=AFn.mk 1 [.tmp 2]
 (.seq (.region [
 ob 2 (.mv (.cst (.bool false)))] false [0]) q9_24)
theorem ok9:compFn Tryz.prog ann9 Tryz.f9=some fn9:=by kernel_rfl
end Go.Proofs.YtannopdcbocngaaGreatDoor
namespace Go.Proofs.YtannopdcbocngaaGreatDoor
open Go Go.Abs
noncomputable def codeU (f:Nat):Option AFn:=if f=9 then some fn9 else tabT.code f
noncomputable def primU (f:Nat):Option (List AVal→AMem→Option (AVal×AMem)):=if f=73 then some pSplit else primS f
noncomputable def tabU:Tab:=⟨codeU,primU⟩
theorem tabU_ok:TabOk Tryz.prog tabU:=by
 refine ⟨fun f fn h=>?_,fun f g h args M x hx=>?_⟩
 ·simp only [tabU,codeU] at h
  split at h
  ·rename_i hf
   injection h with h; subst h; subst hf
   exact ⟨_,_,Tryz.func9,ok9⟩
  ·exact (tabX_ok xT).1 f fn h
 ·simp only [tabU,primU] at h
  split at h
  ·rename_i hf
   injection h with h; subst h; subst hf
   exact ⟨by kernel_rfl,splits73 hx⟩
  ·exact tabS_ok.2 f g h args M x hx
theorem soundU:SoundC Tryz.prog (acall tabU):=acall_sound (by kernel_rfl) tabU_ok
theorem newU9:tabT.code 9=none∧tabT.prim 9=none:=⟨rfl,rfl⟩
theorem newU73:tabT.code 73=none∧tabT.prim 73=none:=⟨rfl,rfl⟩
theorem tabU_leN:∀n,CallLe (acallN tabT n) (acallN tabU n)
 |0,f,a,M,x,h=>by
  by_cases hf:f=73
  ·subst hf
   rw [acallN,newU73.2] at h
   cases h
  ·have hp:tabU.prim f=tabT.prim f:=by
    show primU f=primS f
    simp [primU,hf]
   rw [acallN] at h ⊢
   rw [hp]
   exact h
 |n+1,f,a,M,x,h=>by
  by_cases hf:f=73
  ·subst hf
   rw [acallN,newU73.2] at h
   simp only [newU73.1] at h
   cases h
  ·have hp:tabU.prim f=tabT.prim f:=by
    show primU f=primS f
    simp [primU,hf]
   rw [acallN] at h ⊢
   rw [hp]
   split at h
   ·rename_i g hg; exact h
   ·rename_i hg
    by_cases h9:f=9
    ·subst h9
     rw [newU9.1] at h
     cases h
    ·have hc:tabU.code f=tabT.code f:=by
      show codeU f=_
      simp [codeU,h9]
     rw [hc]
     split at h
     ·cases h
     ·rename_i fn hfn
      split at h
      ·rename_i hl
       simp only [if_pos hl]
       obtain ⟨o,ho,h⟩:=obind_inv h
       rw [aexec_mono (tabU_leN n) _ ho,obind_some]
       exact h
      ·cases h
theorem tabU_leT {f:Nat} {a:List AVal} {M:AMem} {x:AVal×AMem} (h:acall tabT f a M=some x):acall tabU f a M=some x:=by
 obtain ⟨n,hn⟩:=lim_ex h
 exact lim_some (fun n x h=>acallN_up tabU n f a M x h) (tabU_leN n f a M x hn)
theorem kU {f:Nat} {vs:List AVal} {M:AMem} {x:AVal×AMem} (h:callOp (acall tabT) f vs M=some x):callOp (acall tabU) f vs M=some x:=by
 obtain ⟨a,B,y,h1,h2⟩:=callOp_inv h
 exact h2 _ (tabU_leT h1)
attribute [local irreducible] exK opsK opK gK forkK kr acall callOp owhen obind
theorem wid_strsU (l:List Bytes):wid (l.map AVal.str) 1=True:=by
 simp only [eq_iff_iff,iff_true]
 intro x hx
 obtain ⟨n,_,rfl⟩:=List.mem_map.1 hx
 rfl
theorem k73 (s:Bytes) (names:List Bytes) (e:Int) (ha:Ascii s) (hl:s.length≤100000) (hs:splitN s=(names,e)) (M:AMem):callOp (acall tabU) 73 [.str s] M=some (.tuple [.slice .sh (names.map AVal.str),.int .i64 e],M) :=
 callOp0 (acall_prim (g:=pSplit) rfl (by simp only [pSplit,ha,hl,hs,and_self,↓reduceIte])) rfl rfl rfl rfl rfl M
theorem loop35 {nodes:List Node} {next cookie:Int} (ht:Small ⟨nodes,next,cookie⟩) (hr:Srt ⟨nodes,next,cookie⟩) {names:List Bytes} (hn:names.length≤100000) (hnm:∀s,s∈names→Nm s) {res:Int} {k:List K} {r:Option (AVal×AMem)}
  (hx:∀v q,kr (acall tabU) [.tmp 4,.tmp 5] 0 k ⟨.exit 0,[(2,.ptr 0 0),(8,.int .i64 res),(19,.slice .sh (names.map AVal.str)),(20,.int .i64 names.length),(21,v),(22,q)],[.cells [eNodes nodes,.int .i64 next,.int .i64 cookie]]⟩=r) :
  ∀(l pre:List Bytes) (i:Int),names=pre++l→walkTo nodes i l=some res→exK (acall tabU) [.tmp 4,.tmp 5] 0 k (.loop [2,8,19,20,21] lb35_0) [(2,.ptr 0 0),(8,.int .i64 i),(19,.slice .sh (names.map AVal.str)),(20,.int .i64 names.length),(21,.int .i64 pre.length)] [.cells [eNodes nodes,.int .i64 next,.int .i64 cookie]]=r:=by
 intro l
 induction l with
 |nil =>
  intro pre i h hw
  simp only [walkTo,Option.some.injEq] at hw
  subst hw
  rw [exK_loop]
  simp only [E35,lt_end h,EVN,EVT,EVD,↓reduceIte,Nat.reduceEqDiff,reduceCtorEq,Nat.reduceAdd,Nat.reduceLeDiff,ne_eq,Nat.reduceLT,Int.reduceLT,Int.reduceLE,Int.reduceNeg]
  exact hx _ _
 |cons x rest ih =>
  intro pre i h hw
  rw [exK_loop]
  have hlen:pre.length+1≤100000:=by rw [h] at hn; simp at hn; omega
  have hw1:IntKind.i64.wrap ((pre.length:Int)+1)=((pre++[x]).length:Int):=by rw [wrapS (by omega) (by omega)]; exact step_len
  simp only [walkTo] at hw
  split at hw
  ·rename_i h0
   have hh:=ih (pre++[x]) _ (by rw [h]; simp) hw
   simp only [List.length_append,List.length_cons,List.length_nil] at hh
   obtain ⟨b,hb1,_,hb2⟩:=nm_one (hnm x (by rw [h]; simp))
   have q74:=fun M=>kU (k74 nodes next cookie i x ht hr (by rw [hb1]; simp) (by rw [hb1]; intro c hc; simp at hc; subst hc; exact hb2) M)
   simp only [E35,lt_mid h,at_mid h,wid_strsU,q74,h0,hw1,bne_self_eq_false,EVN,EVT,EVD,↓reduceIte,Nat.reduceEqDiff,reduceCtorEq,Nat.reduceAdd,Nat.reduceLeDiff,ne_eq,Nat.reduceLT,Int.reduceLT,Int.reduceLE,Int.reduceNeg]
   exact hh
  ·cases hw
theorem c35 (t:Tree) (ht:Small t) (hr:Srt t) (path:Bytes) (names:List Bytes) (res:Int) (ha:Ascii path) (hl:path.length≤100000) (hs:splitN path=(names,0)) (hn:names.length≤100000) (hnm:∀s,s∈names→Nm s) (hw:walkTo t.nodes 1 names=some res) :
  acall tabU 35 [eTree t,.str path] []=some (.tuple [.int .i64 res,.int .i64 0],[]):=by
 obtain ⟨nodes,next,cookie⟩:=t
 have q73:=fun M=>k73 path names 0 ha hl hs M
 have hlp:=fun k r hx=>loop35 ht hr hn hnm (res:=res) (k:=k) (r:=r) hx names [] 1 rfl hw
 refine acall_ex rfl rfl rfl ?_
 simp only [fn35,E35,eTree,eTreeC,q73,bne_self_eq_false,EVN,EVT,EVD,↓reduceIte,Nat.reduceEqDiff,reduceCtorEq,Nat.reduceAdd,Nat.reduceLeDiff,ne_eq,Nat.reduceLT,Int.reduceLT,Int.reduceLE,Int.reduceNeg]
 refine hlp _ _ (fun v q=>?_)
 simp only [E35,EVN,EVT,EVD,↓reduceIte,Nat.reduceEqDiff,reduceCtorEq,Nat.reduceAdd,Nat.reduceLeDiff,ne_eq,Nat.reduceLT,Int.reduceLT,Int.reduceLE,Int.reduceNeg]
theorem k35 (nodes:List Node) (next cookie:Int) (ht:Small ⟨nodes,next,cookie⟩) (hr:Srt ⟨nodes,next,cookie⟩) (path:Bytes) (names:List Bytes) (res:Int) (ha:Ascii path) (hl:path.length≤100000) (hs:splitN path=(names,0)) (hn:names.length≤100000) (hnm:∀s,s∈names→Nm s) (hw:walkTo nodes 1 names=some res) (M:AMem) :
  callOp (acall tabU) 35 [.agg [eNodes nodes,.int .i64 next,.int .i64 cookie],.str path] M=some (.tuple [.int .i64 res,.int .i64 0],M):=callOp0 (c35 ⟨nodes,next,cookie⟩ ht hr path names res ha hl hs hn hnm hw) rfl rfl rfl rfl rfl M
theorem split_dash:splitN [45]=([],60):=by decide +kernel
theorem c35d (t:Tree):acall tabU 35 [eTree t,.str [45]] []=some (.tuple [.int .i64 0,.int .i64 60],[]):=by
 obtain ⟨nodes,next,cookie⟩:=t
 have q73:=fun M=>k73 [45] [] 60 (by intro b hb; simp at hb; subst hb; decide) (by decide) split_dash M
 have h60:((60:Int) != 0)=true:=rfl
 refine acall_ex rfl rfl rfl ?_
 simp only [fn35,E35,eTree,eTreeC,q73,h60,EVN,EVT,EVD,↓reduceIte,Nat.reduceEqDiff,reduceCtorEq,Nat.reduceAdd,Nat.reduceLeDiff,ne_eq,Nat.reduceLT,Int.reduceLT,Int.reduceLE,Int.reduceNeg]
theorem k35d (nodes:List Node) (next cookie:Int) (M:AMem):callOp (acall tabU) 35 [.agg [eNodes nodes,.int .i64 next,.int .i64 cookie],.str [45]] M=some (.tuple [.int .i64 0,.int .i64 60],M):=callOp0 (c35d ⟨nodes,next,cookie⟩) rfl rfl rfl rfl rfl M
end Go.Proofs.YtannopdcbocngaaGreatDoor
namespace Go.Proofs.YtannopdcbocngaaGreatDoor
open Go Go.Abs
structure LinSays (t:Tree) (x:Lin) (p:Bytes):Prop where
 path:x.1=escN p
 len:p.length≤100
 nd:NdOk x.2
 good:p=[45]∨(p≠[45]∧∃names,Ascii p∧splitN p=(names,0)∧names.length≤12∧(∀s,s∈names→Nm s)∧walkTo t.nodes 1 names=some x.2.ino∧find t.nodes x.2.ino=some x.2)
theorem esc_dash:escN [45]=[45]∧escN [47]=[47]:=by decide +kernel
theorem LinOk.says {t:Tree} {names:List Bytes} {x:Lin} (h:LinOk t names x) (hd:NdOk x.2):LinSays t x (flatP names):=by
 have hj:joinN names=flatP names:=by simp [joinN,h.ne]
 have hs:=split_join names h.nm h.len
 have ha:=flatP_ascii names h.nm
 have hl:=h.len
 refine ⟨h.path,by omega,hd,.inr ⟨fun he=>?_,names,ha.1,by rw [←hj]; exact hs,h.len,h.nm,h.walk,h.node⟩⟩
 have:=ha.2
 rw [he] at this
 simp only [List.length_cons,List.length_nil] at this
 omega
theorem GInv.allL_says {t:Tree} {dep:Int→Nat} (h:GInv t dep 0):∀x,x∈allL t.nodes 12→∃p,LinSays t x p:=by
 obtain ⟨r,hr,hrk,_⟩:=h.root
 have hr1:=h.ino hr
 intro x hx
 unfold allL at hx
 rcases List.mem_cons.1 hx with rfl|hx
 ·refine ⟨[47],esc_dash.2.symm,by decide,h.nd 1,.inr ⟨by decide,[],by intro b hb; simp at hb; subst hb; decide,rfl,by simp,(fun s hs=>by cases hs),?_,?_⟩⟩
  ·show some (1:Int)=some (nodeN t.nodes 1).ino
   rw [nodeN_some hr,hr1]
  ·show find t.nodes (nodeN t.nodes 1).ino=some (nodeN t.nodes 1)
   rw [nodeN_some hr,hr1,hr]
 ·rcases List.mem_append.1 hx with hx|hx
  ·obtain ⟨ns,hn⟩:=h.belowL_ok 12 1 r [] hr hrk (by rw [h.dep1]) rfl (fun s hs=>by cases hs) rfl x hx
   refine ⟨_,hn.says ?_⟩
   have:=h.nd x.2.ino
   rwa [nodeN_some hn.node] at this
  ·obtain ⟨n,hmem,hn⟩:=List.mem_flatMap.1 hx
   unfold orphL at hn
   split at hn
   ·simp only [List.mem_singleton] at hn
    subst hn
    refine ⟨[45],esc_dash.1.symm,by decide,?_,.inl rfl⟩
    have:=h.nd n.ino
    rwa [nodeN_some (find_of_mem h.srt.asc hmem)] at this
   ·cases hn
theorem says_lb {t:Tree} {x:Lin} {p:Bytes} (h:LinSays t x p):∀c,c∈x.1→Lb c:=fun c hc=>escN_lb c (by rw [←h.path]; exact hc)
theorem lineB_len {x:Lin} (h:NdOk x.2):(lineB x).length≤x.1.length+15300:=by
 by_cases hk:x.2.kind=2
 ·have h1:=itoa_le h.ino
  simp only [lineB,kindB,tailB,hk,↓reduceIte,List.length_append,List.length_cons,List.length_nil]
  omega
 ·have h1:=fileLine_le (pre:=x.1) h
  rw [fileLine_lin hk] at h1
  have:(x.1,x.2)=x:=rfl
  rw [this] at h1
  simp only [List.length_append,List.length_cons,List.length_nil] at h1
  omega
def linesN (ns:List Node):Nat:=(ns.map fun n=>n.ents.length+if n.kind=1∧n.links=0 then 1 else 0).sum
theorem orph_len:∀ns:List Node,(ns.flatMap orphL).length=(ns.map fun n=>if n.kind=1∧n.links=0 then 1 else 0).sum
 | []=>rfl
 |n::r=>by
  rw [List.flatMap_cons,List.length_append,orph_len r,List.map_cons,List.sum_cons]
  congr 1
  unfold orphL
  split<;>rfl
theorem GInv.allL_len {t:Tree} {dep:Int→Nat} (h:GInv t dep 0):(allL t.nodes 12).length=1+linesN t.nodes:=by
 unfold allL linesN
 rw [List.length_cons,List.length_append,h.lines,orph_len,sum_add]
 omega
attribute [local irreducible] exK opsK opK gK forkK kr acall callOp owhen obind
theorem loop9a (t:Tree) (ls:List AVal) (hl:t.nodes.length≤200) (he:∀n,n∈t.nodes→n.ents.length≤5) (C:CallF) (hC:C=acall tabU):∀(r pre:List Node),t.nodes=pre++r→∀(m:Nat),m+6*r.length≤100000→∀(fn:List ARes) (base:Nat) (k:List K),∃z:AVal,
  exK C fn base (.block 0::k) (.loop [3,4,5,6,7] lb9_0) [(3,.bool true),(4,.ptr 0 0),(5,.slice .sh ls),(6,eI m),(7,eI pre.length)] [.cells (eTreeC t)] =
  kr C fn base k ⟨.normal,[(3,.bool true),(4,.ptr 0 0),(5,.slice .sh ls),(6,eI (m+linesN r:Nat)),(7,z),(29,.bool false)],[.cells (eTreeC t)]⟩
 | [],pre,hp,m,hm,fn,base,k=>by
  subst hC
  have hpre:pre=t.nodes:=by simpa using hp.symm
  have hlt:decide ((t.nodes.length:Int)<t.nodes.length)=false:=by simp
  refine ⟨eI t.nodes.length,?_⟩
  rw [exK_loop,hpre]
  simp only [E9,eTreeC,List.length_map,hlt,linesN,List.map_nil,List.sum_nil,Nat.add_zero,EVN,EVT,EVD,↓reduceIte,Nat.reduceEqDiff,reduceCtorEq,Nat.reduceAdd,Nat.reduceLeDiff,ne_eq,Nat.reduceLT,Int.reduceLT,Int.reduceLE,Int.reduceNeg]
 |n::r,pre,hp,m,hm,fn,base,k=>by
  subst hC
  have hl':pre.length<t.nodes.length:=by rw [hp]; simp
  have hlt:decide ((pre.length:Int)<t.nodes.length)=true:=by simpa using hl'
  have hix:t.nodes[pre.length]?=some n:=by rw [hp]; simp
  have hi0:(0:Int)≤pre.length:=by omega
  have hen:=he n (by rw [hp]; simp)
  rw [List.length_cons] at hm
  have hwr:IntKind.i64.wrap ((pre.length:Int)+1)=((pre.length+1:Nat):Int):=by rw [wrapS (by omega) (by omega)]; simp
  have hw2:IntKind.i64.wrap ((m:Int)+(n.ents.length:Int))=((m+n.ents.length:Nat):Int):=by rw [wrapS (by omega) (by omega)]; simp
  have hw3:IntKind.i64.wrap (((m+n.ents.length:Nat):Int)+1)=((m+n.ents.length+1:Nat):Int):=by rw [wrapS (by omega) (by omega)]; simp
  have hmany:linesN (n::r)=n.ents.length+(if n.kind=1∧n.links=0 then 1 else 0)+linesN r:=by simp [linesN]
  by_cases hk:n.kind=1
  ·have hb:(n.kind==1)=true:=by simpa using hk
   by_cases hz:n.links=0
   ·have hb2:(n.links==0)=true:=by simpa using hz
    obtain ⟨z,ih⟩:=loop9a t ls hl he (acall tabU) rfl r (pre++[n]) (by simpa using hp) (m+n.ents.length+1) (by omega) fn base k
    refine ⟨z,?_⟩
    rw [hmany,if_pos ⟨hk,hz⟩,show m+(n.ents.length+1+linesN r)=m+n.ents.length+1+linesN r by omega]
    simp only [List.length_append,List.length_cons,List.length_nil,Nat.zero_add,eTreeC] at ih
    rw [exK_loop]
    simp only [E9,eTreeC,eNode,eNodeC,List.length_map,hlt,hix,hi0,hw2,EVN,EVT,EVD,↓reduceIte,Nat.reduceEqDiff,reduceCtorEq,Nat.reduceAdd,Nat.reduceLeDiff,ne_eq,Nat.reduceLT,Int.reduceLT,Int.reduceLE,Int.reduceNeg]
    simp only [E9,eTreeC,eNode,eNodeC,List.length_map,hix,hi0,hb,hb2,hw3,hwr,EVN,EVT,EVD,↓reduceIte,Nat.reduceEqDiff,reduceCtorEq,Nat.reduceAdd,Nat.reduceLeDiff,ne_eq,Nat.reduceLT,Int.reduceLT,Int.reduceLE,Int.reduceNeg]
    exact ih
   ·have hb2:(n.links==0)=false:=by simpa using hz
    obtain ⟨z,ih⟩:=loop9a t ls hl he (acall tabU) rfl r (pre++[n]) (by simpa using hp) (m+n.ents.length) (by omega) fn base k
    refine ⟨z,?_⟩
    rw [hmany,if_neg (fun h=>hz h.2),show m+(n.ents.length+0+linesN r)=m+n.ents.length+linesN r by omega]
    simp only [List.length_append,List.length_cons,List.length_nil,Nat.zero_add,eTreeC] at ih
    rw [exK_loop]
    simp only [E9,eTreeC,eNode,eNodeC,List.length_map,hlt,hix,hi0,hw2,EVN,EVT,EVD,↓reduceIte,Nat.reduceEqDiff,reduceCtorEq,Nat.reduceAdd,Nat.reduceLeDiff,ne_eq,Nat.reduceLT,Int.reduceLT,Int.reduceLE,Int.reduceNeg]
    simp only [E9,eTreeC,eNode,eNodeC,List.length_map,hix,hi0,hb,hb2,hwr,EVN,EVT,EVD,↓reduceIte,Nat.reduceEqDiff,reduceCtorEq,Nat.reduceAdd,Nat.reduceLeDiff,ne_eq,Nat.reduceLT,Int.reduceLT,Int.reduceLE,Int.reduceNeg]
    exact ih
  ·have hb:(n.kind==1)=false:=by simpa using hk
   obtain ⟨z,ih⟩:=loop9a t ls hl he (acall tabU) rfl r (pre++[n]) (by simpa using hp) (m+n.ents.length) (by omega) fn base k
   refine ⟨z,?_⟩
   rw [hmany,if_neg (fun h=>hk h.1),show m+(n.ents.length+0+linesN r)=m+n.ents.length+linesN r by omega]
   simp only [List.length_append,List.length_cons,List.length_nil,Nat.zero_add,eTreeC] at ih
   rw [exK_loop]
   simp only [E9,eTreeC,eNode,eNodeC,List.length_map,hlt,hix,hi0,hw2,EVN,EVT,EVD,↓reduceIte,Nat.reduceEqDiff,reduceCtorEq,Nat.reduceAdd,Nat.reduceLeDiff,ne_eq,Nat.reduceLT,Int.reduceLT,Int.reduceLE,Int.reduceNeg]
   simp only [E9,eTreeC,eNode,eNodeC,List.length_map,hix,hi0,hb,hwr,EVN,EVT,EVD,↓reduceIte,Nat.reduceEqDiff,reduceCtorEq,Nat.reduceAdd,Nat.reduceLeDiff,ne_eq,Nat.reduceLT,Int.reduceLT,Int.reduceLE,Int.reduceNeg]
   exact ih
theorem kind_two (n:Node) (h:n.kind=1∨n.kind=2):((n.kind==2)==(kindB n==[100,105,114]))=true∧((n.kind==1)==(kindB n==[102,105,108,101]))=true:=by
 rcases h with h|h<;>simp [kindB,h]
theorem ix3 (a b c:AVal) (l:List AVal):(a::b::c::l)[Int.toNat 0]?=some a∧(a::b::c::l)[Int.toNat 1]?=some b∧(a::b::c::l)[Int.toNat 2]?=some c:=⟨rfl,rfl,rfl⟩
theorem loop9b (t:Tree) (dep:Int→Nat) (hv:GInv t dep 0) (ht:Small t) (L:List Lin) (hL:∀x,x∈L→∃p,LinSays t x p) (hl:L.length≤5000) (C:CallF) (hC:C=acall tabU):∀(r pre:List Lin),L=pre++r→∀(fn:List ARes) (base:Nat) (k:List K),∃z:AVal,
  exK C fn base (.block 2::k) (.loop [3,4,5,6,8] lb9_1) [(3,.bool true),(4,.ptr 0 0),(5,.slice .sh ((L.map lineB++[[]]).map .str)),(6,eI L.length),(8,eI pre.length)] [.cells (eTreeC t)] =
  kr C fn base k ⟨.normal,[(3,.bool true),(4,.ptr 0 0),(5,.slice .sh ((L.map lineB++[[]]).map .str)),(6,eI L.length),(8,z),(73,.bool false)],[.cells (eTreeC t)]⟩
 | [],pre,hp,fn,base,k=>by
  subst hC
  have hpre:pre=L:=by simpa using hp.symm
  have hlt:decide ((L.length:Int)<L.length)=false:=by simp
  refine ⟨eI L.length,?_⟩
  rw [exK_loop,hpre]
  simp only [E9,hlt,EVT,EVD,↓reduceIte,Nat.reduceEqDiff,reduceCtorEq,Nat.reduceAdd,Nat.reduceLeDiff,ne_eq,Nat.reduceLT,Int.reduceLT,Int.reduceLE,Int.reduceNeg]
 |x::r,pre,hp,fn,base,k=>by
  subst hC
  have hl':pre.length<L.length:=by rw [hp]; simp
  have hlt:decide ((pre.length:Int)<L.length)=true:=by simpa using hl'
  have hix:(L.map lineB++[[]])[pre.length]?=some (lineB x):=by
   rw [List.getElem?_append_left (by simpa using hl'),List.getElem?_map,hp]; simp
  have hi0:(0:Int)≤pre.length:=by omega
  have hwr:IntKind.i64.wrap ((pre.length:Int)+1)=((pre.length+1:Nat):Int):=by rw [wrapS (by omega) (by omega)]; simp
  obtain ⟨z,ih⟩:=loop9b t dep hv ht L hL hl (acall tabU) rfl r (pre++[x]) (by simpa using hp) fn base k
  refine ⟨z,?_⟩
  obtain ⟨p,hs⟩:=hL x (by rw [hp]; simp)
  have hel:=escN_le p
  have hpl:=hs.len
  have hxl:x.1.length≤300:=by rw [hs.path]; omega
  have hll:=lineB_len hs.nd
  obtain ⟨_,R,hR⟩:=lineB_words (says_lb hs)
  have h33:∀M,callOp (acall tabU) 33 [.str (lineB x),.int .u8 32] M=some (.slice .sh ((cutL 32 (lineB x)).map .str),M):=fun M=>kU (kT (k33 (lineB x) 32 (by omega) M))
  have h34:∀M,callOp (acall tabU) 34 [.str x.1] M=some (.tuple [.str (refRaw x.1).1,.bool (refRaw x.1).2],M):=fun M=>kU (kT (k34 x.1 (by omega) M))
  have hraw:refRaw x.1=(p,true):=by rw [hs.path]; exact refRaw_esc p
  rw [hraw] at h34
  rw [hR] at h33
  have h3:decide (((R.length+1+1+1:Nat):Int)<3)=false:=by simp; omega
  generalize lineB x=X at h33 hix
  have h37:∀M,callOp (acall tabU) 37 [.int .i64 x.2.ino] M=some (.str (Lib.itoa x.2.ino),M):=fun M=>kU (kT (k37 x.2.ino hs.nd.ino M))
  simp only [List.length_append,List.length_cons,List.length_nil,Nat.zero_add,eTreeC] at ih
  generalize hLS:L.map lineB++[[]]=LS at *
  rw [exK_loop]
  rcases hs.good with hd|⟨hd,names,hasc,hspl,hnl,hnm,hw,hfd⟩
  ·have hb:(p==[45])=true:=by simpa using hd
   subst hd
   have h35:=fun M=>k35d t.nodes t.next t.cookie M
   simp only [E9,eTreeC,hlt,hix,hi0,h33,List.length_map,List.getElem?_map,EVT,EVD,↓reduceIte,Nat.reduceEqDiff,reduceCtorEq,Nat.reduceAdd,Nat.reduceLeDiff,ne_eq,Nat.reduceLT,Int.reduceLT,Int.reduceLE,Int.reduceNeg]
   simp only [E9,eTreeC,List.map_cons,List.length_cons,List.length_map,h3,h34,h35,hb,ix3,EVT,EVD,↓reduceIte,Nat.reduceEqDiff,reduceCtorEq,Nat.reduceAdd,Nat.reduceLeDiff,ne_eq,Nat.reduceLT,Int.reduceLT,Int.reduceLE,Int.reduceNeg]
   simp only [E9,hwr,EVT,EVD,↓reduceIte,Nat.reduceEqDiff,reduceCtorEq,Nat.reduceAdd,Nat.reduceLeDiff,ne_eq,Nat.reduceLT,Int.reduceLT,Int.reduceLE,Int.reduceNeg]
   exact ih
  ·have hb:(p==[45])=false:=by simpa using hd
   have h35:=fun M=>k35 t.nodes t.next t.cookie ht hv.srt p names x.2.ino hasc (by omega) hspl (by omega) hnm hw M
   have h36:=fun M=>kU (k36 t.nodes t.next t.cookie x.2.ino ht hv.srt M)
   rw [nodeN_some hfd,hfd] at h36
   obtain ⟨q1,q2⟩:=kind_two x.2 (hv.kind _ _ hfd)
   simp only [E9,eTreeC,hlt,hix,hi0,h33,List.length_map,List.getElem?_map,EVT,EVD,↓reduceIte,Nat.reduceEqDiff,reduceCtorEq,Nat.reduceAdd,Nat.reduceLeDiff,ne_eq,Nat.reduceLT,Int.reduceLT,Int.reduceLE,Int.reduceNeg]
   simp only [E9,eTreeC,List.map_cons,List.length_cons,List.length_map,h3,h34,h35,hb,ix3,EVT,EVD,↓reduceIte,Nat.reduceEqDiff,reduceCtorEq,Nat.reduceAdd,Nat.reduceLeDiff,ne_eq,Nat.reduceLT,Int.reduceLT,Int.reduceLE,Int.reduceNeg]
   simp only [E9,eTreeC,eNode,eNodeC,h36,h37,q1,q2,ix3,Option.isSome_some,bne_self_eq_false,hwr,EVN,EVT,EVD,↓reduceIte,Nat.reduceEqDiff,reduceCtorEq,Nat.reduceAdd,Nat.reduceLeDiff,ne_eq,Nat.reduceLT,Int.reduceLT,Int.reduceLE,Int.reduceNeg]
   exact ih
theorem GInv.tree_len {t:Tree} {dep:Int→Nat} (h:GInv t dep 0):(treeT t.nodes 12).length≤1000000000000000:=by
 obtain ⟨r,hr,hrk,_⟩:=h.root
 have h1:=belowT_le h.nd 12 1 [] (h.fin 12 1 r hr hrk (by rw [h.dep1])) (by simp)
 have h2:=flat_le orphT 15300 t.nodes (fun n hn=>by
  unfold orphT
  split
  ·have hd:=h.nd n.ino
   rw [nodeN_some (find_of_mem h.srt.asc hn)] at hd
   have:=fileLine_le (pre:=[45]) hd
   simp only [List.length_cons,List.length_nil] at this
   omega
  ·simp)
 have h3:=h.nodes
 rw [bB12] at h1
 unfold treeT
 simp only [List.length_append,List.length_cons,List.length_nil]
 omega
theorem GInv.lines_cut {t:Tree} {dep:Int→Nat} (h:GInv t dep 0):cutL 10 (treeT t.nodes 12)=(allL t.nodes 12).map lineB++[[]]:=by
 obtain ⟨r,hr,hrk,_⟩:=h.root
 rw [treeT_lin (by rw [nodeN_some hr]; exact hrk) (by rw [nodeN_some hr]; exact h.ino hr)]
 refine cut_linT _ (fun x hx=>?_)
 obtain ⟨p,hp⟩:=h.allL_says x hx
 exact (lineB_words (says_lb hp)).1
theorem many_le (ns:List Node) (h:∀n,n∈ns→n.ents.length≤5):linesN ns≤6*ns.length:=by
 unfold linesN
 induction ns with
 |nil=>simp
 |cons n r ih =>
  have h1:=h n (by simp)
  have h2:=ih (fun m hm=>h m (by simp [hm]))
  simp only [List.map_cons,List.sum_cons,List.length_cons]
  have h3:(if n.kind=1∧n.links=0 then 1 else 0)≤1:=by split<;>omega
  omega
theorem c9 (m:List Step) (hm:∀s,s∈m→stepB s):acall tabU 9 [.slice .sh (m.map eStep)] []=some (.bool true,[]):=by
 refine acall_ex rfl rfl rfl ?_
 have hg:=fun M=>kU (k11g m M)
 have h10:=fun M=>kU (kT10 M)
 cases hgr:greatN m with
 |true =>
  rw [hgr] at hg
  simp only [fn9,E9,h10,hg,EVT,EVD,↓reduceIte,Nat.reduceEqDiff,reduceCtorEq,Nat.reduceAdd,Nat.reduceLeDiff,ne_eq,Nat.reduceLT,Int.reduceLT,Int.reduceLE,Int.reduceNeg]
 |false =>
  rw [hgr] at hg
  obtain ⟨hlen,hok⟩:=great_ok hgr hm
  have h14:=fun M=>kU (k14 m (by omega) hok M)
  obtain ⟨dep,hinv⟩:=madeN_inv m
  have htr:=hinv.tr
  have hsm:Small (madeN m):=(madeN_sz m hok).small (by omega)
  generalize madeN m=T at *
  have h22:=fun M=>kU (k22 T htr M)
  have hcut:=hinv.lines_cut
  have htl:=hinv.tree_len
  have hal:=hinv.allL_len
  have hns:=hinv.nodes
  have hfew:∀n,n∈T.nodes→n.ents.length≤5:=fun n hn=>hinv.few (find_of_mem hinv.srt.asc hn)
  have hml:=many_le T.nodes hfew
  have h33:∀M,callOp (acall tabU) 33 [.str (treeT T.nodes 12),.int .u8 10] M=some (.slice .sh ((cutL 10 (treeT T.nodes 12)).map .str),M):=fun M=>kU (kT (k33g (treeT T.nodes 12) 10 (by omega) (by rw [hcut]; simp; omega) M))
  rw [hcut] at h33
  have hla:=fun fn base k=>loop9a T (((allL T.nodes 12).map lineB++[[]]).map .str) hns hfew (acall tabU) rfl T.nodes [] rfl 1 (by omega) fn base k
  have hlb:=fun fn base k=>loop9b T dep hinv hsm (allL T.nodes 12) hinv.allL_says (by omega) (acall tabU) rfl (allL T.nodes 12) [] rfl fn base k
  rw [←hal] at hla
  generalize hLL:allL T.nodes 12=L at *
  have hix:(L.map lineB++[[]])[L.length]?=some []:=by rw [List.getElem?_append_right (by simp)]; simp
  have hlen2:(L.map lineB++[[]]).length=L.length+1:=by simp
  have hwr:IntKind.i64.wrap ((L.length:Int)+1)=((L.length+1:Nat):Int):=by rw [wrapS (by omega) (by omega)]; simp
  have hi0:(0:Int)≤L.length:=by omega
  generalize treeT T.nodes 12=X at h33 h22
  generalize hLS:L.map lineB++[[]]=LS at *
  simp only [eTree,eTreeC,List.length_nil] at h14 h22 hla hlb
  simp only [fn9,E9,h10,hg,h14,h22,h33,eTree,eTreeC,EVN,EVT,EVD,↓reduceIte,Nat.reduceEqDiff,reduceCtorEq,Nat.reduceAdd,Nat.reduceLeDiff,ne_eq,Nat.reduceLT,Int.reduceLT,Int.reduceLE,Int.reduceNeg]
  obtain ⟨z,hz⟩:=hla [.tmp 2] 0 [.seq q9_18]
  refine hz.trans ?_
  simp only [E9,List.length_map,hlen2,hwr,List.getElem?_map,hix,hi0,bne_self_eq_false,EVN,EVT,EVD,↓reduceIte,Nat.reduceEqDiff,reduceCtorEq,Nat.reduceAdd,Nat.reduceLeDiff,ne_eq,Nat.reduceLT,Int.reduceLT,Int.reduceLE,Int.reduceNeg]
  obtain ⟨z2,hz2⟩:=hlb [.tmp 2] 0 [.seq q9_16]
  refine hz2.trans ?_
  simp only [E9,EVN,EVT,EVD,↓reduceIte,Nat.reduceEqDiff,reduceCtorEq,Nat.reduceAdd,Nat.reduceLeDiff,ne_eq,Nat.reduceLT,Int.reduceLT,Int.reduceLE,Int.reduceNeg]
end Go.Proofs.YtannopdcbocngaaGreatDoor
namespace Go.Proofs.YtannopdcbocngaaGreatDoor
open Go Go.Abs Go.ChangeShapes Go.WideShapes Go.ChangeAt Go.RowKit Go.Lib
theorem reportTrees_witness (os:Os) {H:Type} (enc:TypeId×Value→H) :
  (OpenSpec.ofChange Rows.reportTreesSpec).preRow enc Tryz.prog Tryz.f9 Rows.reportTreesRow.domain false Rows.reportTreesRow.laid ((laidWorld os).forCall (fun _ _=>0) ⟨#[],#[.slice none 0 0],[]⟩).memory #[.slice none 0 0]:=by
 have hw:(DataW.whole enc Tryz.prog ((laidWorld os).forCall (fun _ _=>0) ⟨#[],#[.slice none 0 0],[]⟩).memory Tryz.f9.params.toList (OpenSpec.ofChange Rows.reportTreesSpec).vars false (#[.slice none 0 0]:Array Value).toList 8).map (fun x=>(x.1,x.2.1)) =
   some ([.nil],[]):=by kernel_rfl
 obtain ⟨⟨x1,x2,x3⟩,hx,hx1⟩:=Option.map_eq_some_iff.1 hw
 simp only [Prod.mk.injEq] at hx1
 obtain ⟨rfl,rfl⟩:=hx1
 exact OpenSpec.preRow_of_cond 8 hx (by kernel_rfl) (fun k hk=>by cases hk) (by kernel_rfl) (laid_met os _)
theorem reportTrees_law:∀(x0:List Step),(∀s,s∈x0→stepB s)→acall tabU 9 [.slice .sh (x0.map eStep)] []=some (.bool true,[]):=fun x0=>c9 x0
set_option maxRecDepth 100000 in
set_option maxHeartbeats 2000000 in
theorem reportTrees_lifted (os:Os) (started:os.Started) (H:Type) (enc:TypeId×Value→H) (F:Stop.Interp) :
  ReturnsInHanded {} Tryz.checked os 9 .any ((OpenSpec.ofChange Rows.reportTreesSpec).preRow enc Tryz.prog Tryz.f9 Rows.reportTreesRow.domain false Rows.reportTreesRow.laid)
   (((OpenSpec.ofChange Rows.reportTreesSpec).at F).post enc Tryz.prog Tryz.f9 false Rows.reportTreesRow.fresh Rows.reportTreesRow.handsOn Rows.reportTreesRow.again):=by
 refine returnsInHanded_of_row (C:=Tryz.checked) (s:=OpenSpec.ofChange Rows.reportTreesSpec) ownK started (by kernel_rfl) Tryz.func9
  (witness_row_atRef (enc:=enc) (C:=Tryz.checked) false (laidWorld os) #[.slice none 0 0] rfl (by kernel_rfl) (by kernel_rfl) (by kernel_rfl) (reportTrees_witness os enc)) ?_
 intro W base args ds gs before hval0 hW _ _ _ hL hsh _
 have hval:∀(j:Nat) t v,Tryz.f9.params[j]?=some t→args[j]?=some v→Value.okWide Tryz.prog W .any base t v:=hval0
 have hW':=hW
 have hlt0:=hW.lt
 obtain ⟨p,q,hA0,hV0,rfl,_,_⟩:=hW
 have hA:DataW.TrodAll enc Tryz.prog W 0 (fun _=>true) true Tryz.f9.params.toList args.toList ds p:=hA0
 have hpar:Tryz.f9.params = #[30]:=rfl
 have u4:Tryz.prog.underlying 4=some .bool:=by kernel_rfl
 have hA1:=hA
 rw [hpar] at hA hval
 obtain ⟨v0,vs1,d0,ds1,p0,q0,hvs0,rfl,rfl,h0,hA⟩:=trodAll_cons hA
 obtain ⟨rfl,rfl,rfl⟩:=trodAll_nil hA
 obtain rfl:=two_of hvs0
 obtain ⟨rfl,rfl⟩:=trodVars_none hV0
 obtain ⟨m0,l0,r0⟩:=steps_val h0 (hval 0 30 _ rfl rfl)
 have hlt:∀x∈(p0++([]):List MemPlace),x.block<W.heap.size:=fun x hx=>hlt0 x (by simpa using hx)
 refine (true_calls soundU (reportTrees_law m0 l0) W (globL hL hsh) _ rfl ?_).mono ?_
 ·intro i c v hc hv
  match i with
  |0=>cases hc; cases hv; exact r0
  |i+1=>cases hc
 ·rintro e W' ⟨rfl,hb⟩
  exact ⟨_,rfl,⟨_,_,_,[],_,[],hW',trodAll_mk1 (shut_bool u4 true),trodAll_stays hb hA1 (by rw [hpar]; intro t ht; simp at ht; rcases ht with rfl<;>exact ⟨by kernel_rfl,of_decide_eq_true (by kernel_rfl)⟩) hlt,rfl,hb.frame _,fun h=>by cases h⟩⟩
theorem reportTrees_row:Rows.ReportTreesSaid :=
 OpenClaim.holds_of_cond 9 Tryz.f9 rfl rfl rfl rfl rfl rfl rfl ⟨rfl,rfl,rfl,rfl,rfl⟩ rfl rfl rfl rfl rfl (by kernel_rfl) Tryz.func9 (by kernel_rfl)
  (of_decide_eq_true (by kernel_rfl)) (by unfold Func.isWrapper; rw [if_neg (of_decide_eq_false (by kernel_rfl))]; exact ⟨rfl,rfl⟩)
  (fun os started H enc _ F0=>by rw [OpenClaim.pre_eq_preRow]; exact reportTrees_lifted os started H enc F0)
theorem reportTrees_card:Rows.ReportTreesCardSaid :=
 Claim7.holds_tied_plain_at .later [] [.data,.data,.data,.data,.sentinel,.sentinel,.data,.pinned] true (true,"6ab42aecae4c7621001a14ab3450ecf26b822058164905cd807fd0cc9b42dd19") true
  reportTrees_row (fun _ h=>by cases h) (by kernel_rfl) (fun _ h=>by cases h) reportTrees_row_tie rfl ⟨rfl,rfl⟩ (by kernel_rfl) rfl
  (fun f fn hf hfn=>by
   obtain rfl:f=9:=Option.some.inj ((show Tryz.prog.funcNamed Tryz.f9.name=some 9 by kernel_rfl).symm.trans hf) |>.symm
   obtain rfl:fn=Tryz.f9:=(Option.some.inj (Tryz.func9.symm.trans hfn)).symm
   exact ⟨by kernel_rfl,fun j t ht=>by
    have hw:∀t,t∈Tryz.f9.params.toList→Tryz.prog.wantsStandIn t=false:=by
     rw [show Tryz.f9.params.toList=[30] from rfl]
     intro t ht
     simp at ht
     rcases ht with rfl<;>kernel_rfl
    exact hw t (by simpa using Array.mem_of_getElem? ht)⟩)
  (by kernel_rfl)
end Go.Proofs.YtannopdcbocngaaGreatDoor
