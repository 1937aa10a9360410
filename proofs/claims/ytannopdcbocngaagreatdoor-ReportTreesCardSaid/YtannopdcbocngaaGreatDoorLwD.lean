import Derived.Lib.AtoiAllCases
import Derived.KernelRfl
import Derived.RangeFuncNested
import Derived.Test.YtannopdcbocngaaGreatDoorRows
import Derived.Lib.LaidU8
import Derived.Shelf.Vars
import Derived.LaidLaws
import Derived.Test.YtannopdcbocngaaGreatDoorCards
import Derived.Lib.LaidIn
import Derived.Deep.DeepHandedRow
import Derived.Deep.DeepWitnessRowRef
import Derived.ProofKit
import Derived.SizedLaws
import Derived.Carry
import Derived.OpenShut
import Derived.Deep.Slices
import Derived.Deep.Fields
import Derived.ChangeOld
import Derived.Test.YtannopdcbocngaaGreatDoorLwC
set_option linter.unusedSimpArgs false
set_option linter.unusedVariables false
set_option linter.unusedSectionVars false
namespace Go.Proofs.YtannopdcbocngaaGreatDoor
open Go Go.Abs
attribute [local irreducible] exK opsK opK gK forkK kr acall callOp owhen obind
def rawI (a b:UInt8):Int:=IntKind.u8.wrap (ior .i64 (IntKind.i64.wrap (Lib.indexByte [48,49,50,51,52,53,54,55,56,57,97,98,99,100,101,102] a*2 ^ min (Int.toNat 4) IntKind.i64.bits)) (iand .i64 (Lib.indexByte [48,49,50,51,52,53,54,55,56,57,97,98,99,100,101,102] b) 15))
def rawC (a b:UInt8):UInt8:=(rawI a b).toNat.toUInt8
theorem wrap_u8 (z:Int):0≤IntKind.u8.wrap z∧IntKind.u8.wrap z<256:=by
 unfold IntKind.wrap
 simp only [show IntKind.u8.bits=8 from rfl,show IntKind.u8.signed=false from rfl,Bool.false_and,Bool.false_eq_true,if_false]
 have h1:=Int.emod_nonneg z (show (2 ^ 8:Int)≠0 by decide)
 have h2:=Int.emod_lt_of_pos z (show (0:Int)<2 ^ 8 by decide)
 exact ⟨h1,h2⟩
theorem raw_eq (a b:UInt8):rawI a b=((rawC a b).toNat:Int):=by
 have h:=wrap_u8 (ior .i64 (IntKind.i64.wrap (Lib.indexByte [48,49,50,51,52,53,54,55,56,57,97,98,99,100,101,102] a*2 ^ min (Int.toNat 4) IntKind.i64.bits)) (iand .i64 (Lib.indexByte [48,49,50,51,52,53,54,55,56,57,97,98,99,100,101,102] b) 15))
 unfold rawC
 change 0≤rawI a b∧rawI a b<256 at h
 generalize rawI a b=z at h
 rw [Nat.toUInt8_eq,UInt8.toNat_ofNat']
 omega
def rawN:Bytes→Bytes
 |c::a::b::r=>if c=37 then rawC a b::rawN r else c::rawN (a::b::r)
 |c::r=>c::rawN r
 | []=>[]
theorem widU:∀l:Bytes,wid (l.map u8V) 1=True:=by
 intro l
 simp only [eq_iff_iff,iff_true]
 intro x hx
 obtain ⟨s,_,rfl⟩:=List.mem_map.1 hx
 rfl
theorem loop65 (s:Bytes) (hs:s.length≤1000000) (C:CallF) (hC:C=acall tab) (fn:List ARes) (base:Nat) (k:List K):∀(n:Nat) (r pre out:Bytes),r.length≤n→s=pre++r→out.length≤pre.length→∀u,out++rawN r=u →
  exK C fn base (.block 0::k) (.loop [0,3,4] lb65_0) [(0,.str s),(3,.slice (.own 0) (out.map u8V)),(4,eI pre.length)] [.tick 1 out.length] =
  kr C fn base k ⟨.normal,[(0,.str s),(3,.slice (.own 0) (u.map u8V)),(4,eI s.length),(9,.bool false)],[.tick 1 u.length]⟩
 |n,[],pre,out,hn,he,ho,u,hu=>by
  subst hC
  have:pre=s:=by simpa using he.symm
  subst this
  rw [exK_loop]
  have hlt:decide ((pre.length:Int)<pre.length)=false:=by simp
  rw [rawN,List.append_nil] at hu; subst hu
  simp only [E65,hlt,EVT,EVD,↓reduceIte,Nat.reduceEqDiff,reduceCtorEq,Nat.reduceAdd,Nat.reduceLeDiff,ne_eq,Nat.reduceLT,Int.reduceLT,Int.reduceLE,Int.reduceNeg]
 |0,c::r,pre,out,hn,he,ho,u,hu=>by simp at hn
 |n+1,c::r,pre,out,hn,he,ho,u,hu=>by
  subst hC
  have hl:pre.length<s.length:=by rw [he]; simp
  have hlt:decide ((pre.length:Int)<s.length)=true:=by simpa using hl
  have hix:s[pre.length]?=some c:=by rw [he]; simp
  have hp:(0:Int)≤pre.length:=by omega
  have hw:IntKind.i64.wrap ((pre.length:Int)+1)=((pre.length+1:Nat):Int):=by rw [wrapS (by omega) (by omega)]; simp
  have hw2:IntKind.i64.wrap ((pre.length:Int)+2)=((pre.length+2:Nat):Int):=by rw [wrapS (by omega) (by omega)]; simp
  have hw3:IntKind.i64.wrap (((pre.length+2:Nat):Int)+1)=((pre.length+3:Nat):Int):=by rw [wrapS (by omega) (by omega)]; omega
  have hr:=roomO (a:=out.length+1) (b:=1) (by omega) (by omega)
  rw [exK_loop]
  simp (disch:=omega) only [E65,hlt,hix,hw,hw2,hr,EVT,EVD,↓reduceIte,Nat.reduceEqDiff,reduceCtorEq,Nat.reduceAdd,Nat.reduceLeDiff,ne_eq,Nat.reduceLT,Int.reduceLT,Int.reduceLE,Int.reduceNeg]
  refine guard_split (fun hb=>?_) (fun hb=>?_)
  ·have hc:c=37:=by
    have:c.toNat=37:=by simp at hb; omega
    exact UInt8.toNat_inj.1 this
   simp only [E65,hb,hw,hw2,EVT,EVD,↓reduceIte,Nat.reduceEqDiff,reduceCtorEq,Nat.reduceAdd,Nat.reduceLeDiff,ne_eq,Nat.reduceLT,Int.reduceLT,Int.reduceLE,Int.reduceNeg]
   refine fork_split (fun hd=>?_) (fun hd=>?_)
   ·have hd':pre.length+2<s.length:=by simp at hd; omega
    match r,he,hn with
    |x::y::r',he,hn =>
     have hi1:s[pre.length+1]?=some x:=by rw [he]; simp
     have hi2:s[pre.length+2]?=some y:=by rw [he]; simp
     have hr2:rawN (c::x::y::r')=rawC x y::rawN r':=by rw [rawN,if_pos hc]
     have ih:=loop65 s hs (acall tab) rfl fn base k n r' (pre++[c,x,y]) (out++[rawC x y]) (by simp at hn ⊢; omega) (by simpa using he) (by simp; omega) u (by rw [←hu]; simp [hr2])
     simp only [List.length_append,List.length_cons,List.length_nil,Nat.zero_add,Nat.reduceAdd,List.map_append,List.map_cons,List.map_nil] at ih
     simp only [E65,hd,hw,hw2,hw3,hi1,hi2,k98,EVT,EVD,↓reduceIte,Nat.reduceEqDiff,reduceCtorEq,Nat.reduceAdd,Nat.reduceLeDiff,ne_eq,Nat.reduceLT,Int.reduceLT,Int.reduceLE,Int.reduceNeg]
     rw [show IntKind.u8.wrap (ior .i64 (IntKind.i64.wrap (Lib.indexByte [48,49,50,51,52,53,54,55,56,57,97,98,99,100,101,102] x*2 ^ min (Int.toNat 4) IntKind.i64.bits)) (iand .i64 (Lib.indexByte [48,49,50,51,52,53,54,55,56,57,97,98,99,100,101,102] y) 15))=((rawC x y).toNat:Int) from raw_eq x y]
     simp only [E65,hr,widU,hw3,EVT,EVD,↓reduceIte,Nat.reduceEqDiff,reduceCtorEq,Nat.reduceAdd,Nat.reduceLeDiff,ne_eq,Nat.reduceLT,Int.reduceLT,Int.reduceLE,Int.reduceNeg]
     exact ih
    | [],he,hn=>rw [he] at hd'; simp at hd'
    | [x],he,hn=>rw [he] at hd'; simp at hd'
   ·have hr2:rawN (c::r)=c::rawN r:=by
     match r,he with
     |x::y::r',he =>
      have:¬(pre.length+2<s.length):=by simp at hd; omega
      rw [he] at this; simp at this
     | [],_=>rfl
     | [x],_=>rfl
    have ih:=loop65 s hs (acall tab) rfl fn base k n r (pre++[c]) (out++[c]) (by simp at hn ⊢; omega) (by simpa using he) (by simp; omega) u (by rw [←hu]; simp [hr2])
    simp only [List.length_append,List.length_cons,List.length_nil,Nat.zero_add,Nat.reduceAdd,List.map_append,List.map_cons,List.map_nil] at ih
    simp only [E65,hd,hw,hr,widU,EVT,EVD,↓reduceIte,Nat.reduceEqDiff,reduceCtorEq,Nat.reduceAdd,Nat.reduceLeDiff,ne_eq,Nat.reduceLT,Int.reduceLT,Int.reduceLE,Int.reduceNeg]
    exact ih
  ·have hr2:rawN (c::r)=c::rawN r:=by
    have:¬c=37:=by intro e; subst e; simp at hb
    match r with
    |x::y::r'=>rw [rawN,if_neg this]
    | []=>rfl
    | [x]=>rfl
   have ih:=loop65 s hs (acall tab) rfl fn base k n r (pre++[c]) (out++[c]) (by simp at hn ⊢; omega) (by simpa using he) (by simp; omega) u (by rw [←hu]; simp [hr2])
   simp only [List.length_append,List.length_cons,List.length_nil,Nat.zero_add,Nat.reduceAdd,List.map_append,List.map_cons,List.map_nil] at ih
   simp only [E65,hb,hw,hr,widU,EVT,EVD,↓reduceIte,Nat.reduceEqDiff,reduceCtorEq,Nat.reduceAdd,Nat.reduceLeDiff,ne_eq,Nat.reduceLT,Int.reduceLT,Int.reduceLE,Int.reduceNeg]
   exact ih
end Go.Proofs.YtannopdcbocngaaGreatDoor
namespace Go.Proofs.YtannopdcbocngaaGreatDoor
open Go Go.Abs
attribute [local irreducible] exK opsK opK gK forkK kr acall callOp owhen obind
theorem rawN_le:∀(n:Nat) (s:Bytes),s.length≤n→(rawN s).length≤s.length
 |n,[],h=>Nat.le_refl _
 |n,[c],h=>Nat.le_refl _
 |n,[c,a],h=>Nat.le_refl _
 |0,c::a::b::r,h=>by simp at h
 |n+1,c::a::b::r,h=>by
  rw [rawN]
  split
  ·have:=rawN_le n r (by simp at h; omega)
   simp; omega
  ·have:=rawN_le n (a::b::r) (by simp at h ⊢; omega)
   simp at this ⊢; omega
theorem c65 (s:Bytes) (hs:s.length≤1000000):acall tab 65 [.str s] []=some (.str (rawN s),[]):=by
 refine acall_ex rfl rfl rfl ?_
 have h0:=fun fn base k=>loop65 s hs (acall tab) rfl fn base k s.length s [] [] (Nat.le_refl _) rfl (Nat.le_refl _) _ rfl
 simp only [fn65,E65,EVT,EVD,↓reduceIte,Nat.reduceEqDiff,reduceCtorEq,Nat.reduceAdd,Nat.reduceLeDiff,ne_eq,Nat.reduceLT,Int.reduceLT,Int.reduceLE,Int.reduceNeg]
 refine (h0 _ _ _).trans ?_
 simp only [E65,bytes_u8,List.nil_append,EVT,EVD,↓reduceIte,Nat.reduceEqDiff,reduceCtorEq,Nat.reduceAdd,Nat.reduceLeDiff,ne_eq,Nat.reduceLT,Int.reduceLT,Int.reduceLE,Int.reduceNeg]
theorem k65 (s:Bytes) (hs:s.length≤1000000) (M:AMem):callOp (acall tab) 65 [.str s] M=some (.str (rawN s),M):=callOp0 (c65 s hs) rfl rfl rfl rfl rfl M
def zFld:Fld:=⟨[],0,[]⟩
def getN (w:Bytes) (l:List Fld):Fld×Bool:=match l.find? (fun f=>f.word==w) with
 |some f=>(f,true)
 |none=>(zFld,false)
theorem getN_cons (w:Bytes) (f:Fld) (l:List Fld):getN w (f::l)=if f.word=w then (f,true) else getN w l:=by
 unfold getN
 by_cases h:f.word=w
 ·simp [h]
 ·rw [if_neg h,List.find?_cons_of_neg (by simpa using h)]
theorem loop63 (a w:Bytes) (t:Tk) (ht:t = .sh∨t = .c0) (l:List Fld) (hl:l.length≤10000000) (C:CallF) (hC:C=acall tab):∀(r pre:List Fld),l=pre++r →
  exK C [.cellA 4 3,.tmp 5] 0 [.block 0,.seq q63_6] (.loop [1,4,9,10,11] lb63_0) [(1,.str w),(4,.ptr 1 0),(9,.slice t (l.map eFld)),(10,eI l.length),(11,eI pre.length)] [.cells [.str a,.slice t (l.map eFld)],.cells (eFldC zFld)] =
  some (.tuple [eFld (getN w r).1,.bool (getN w r).2],[])
 | [],pre,he=>by
  subst hC
  have:pre=l:=by simpa using he.symm
  subst this
  rw [exK_loop]
  have hlt:decide ((pre.length:Int)<pre.length)=false:=by simp
  simp only [E63,hlt,eFldC,zFld,EVT,EVD,↓reduceIte,Nat.reduceEqDiff,reduceCtorEq,Nat.reduceAdd,Nat.reduceLeDiff,ne_eq,Nat.reduceLT,Int.reduceLT,Int.reduceLE,Int.reduceNeg]
  rfl
 |f::r,pre,he=>by
  subst hC
  have hl':pre.length<l.length:=by rw [he]; simp
  have hlt:decide ((pre.length:Int)<l.length)=true:=by simpa using hl'
  have hix:l[pre.length]?=some f:=by rw [he]; simp
  have hn:(0:Int)≤pre.length:=by omega
  have hw:IntKind.i64.wrap ((pre.length:Int)+1)=((pre++[f]).length:Int):=by rw [List.length_append,wrapS (by omega) (by omega)]; simp
  have ih:=loop63 a w t ht l hl (acall tab) rfl r (pre++[f]) (by simpa using he)
  simp only [List.length_append,List.length_cons,List.length_nil,Nat.zero_add,eFldC,zFld] at ih hw
  rw [getN_cons]
  rw [exK_loop]
  simp only [E63,hlt,hix,eFldC,zFld,EVT,EVD,↓reduceIte,Nat.reduceEqDiff,reduceCtorEq,Nat.reduceAdd,Nat.reduceLeDiff,ne_eq,Nat.reduceLT,Int.reduceLT,Int.reduceLE,Int.reduceNeg]
  refine fork_split (fun hb=>?_) (fun hb=>?_)
  ·rw [if_pos (by simpa using hb)]
   simp only [E63,EVT,EVD,↓reduceIte,Nat.reduceEqDiff,reduceCtorEq,Nat.reduceAdd,Nat.reduceLeDiff,ne_eq,Nat.reduceLT,Int.reduceLT,Int.reduceLE,Int.reduceNeg]
   rfl
  ·rw [if_neg (by simpa using hb)]
   simp only [E63,hw,backV_t ht,back1_t ht,EVT,EVD,↓reduceIte,Nat.reduceEqDiff,reduceCtorEq,Nat.reduceAdd,Nat.reduceLeDiff,ne_eq,Nat.reduceLT,Int.reduceLT,Int.reduceLE,Int.reduceNeg]
   exact ih
abbrev eRead (t:Tk) (a:Bytes) (l:List Fld):AVal := .agg [.str a,.slice t (l.map eFld)]
theorem c63 (a w:Bytes) (t:Tk) (ht:t = .sh∨t = .c0) (l:List Fld) (hl:l.length≤10000000):acall tab 63 [eRead t a l,.str w] []=some (.tuple [eFld (getN w l).1,.bool (getN w l).2],[]):=by
 refine acall_ex rfl rfl rfl ?_
 have h0:=loop63 a w t ht l hl (acall tab) rfl l [] rfl
 simp only [eFldC,zFld] at h0
 simp only [fn63,E63,EVT,EVD,↓reduceIte,Nat.reduceEqDiff,reduceCtorEq,Nat.reduceAdd,Nat.reduceLeDiff,ne_eq,Nat.reduceLT,Int.reduceLT,Int.reduceLE,Int.reduceNeg]
 exact h0
theorem k63 (a w:Bytes) (t:Tk) (ht:t = .sh∨t = .c0) (l:List Fld) (hl:l.length≤10000000) (M:AMem):callOp (acall tab) 63 [eRead t a l,.str w] M=some (.tuple [eFld (getN w l).1,.bool (getN w l).2],M):=by
 have:=c63 a w t ht l hl
 rcases ht with rfl|rfl<;>exact callOp0 this rfl rfl rfl rfl rfl M
theorem c56 (a w:Bytes) (t:Tk) (ht:t = .sh∨t = .c0) (l:List Fld) (hl:l.length≤10000000):acall tab 56 [eRead t a l,.str w] []=some (.int .i64 (getN w l).1.n,[]):=by
 refine acall_ex rfl rfl rfl ?_
 have h0:=fun M=>k63 a w .sh (.inl rfl) l hl M
 have hsh:(AVal.slice t (l.map eFld)).shut = .slice .sh (l.map eFld):=by rcases ht with rfl|rfl<;>rfl
 simp only [eRead,eFld,eFldC] at h0
 simp only [fn56,E56,h0,hsh,EVT,EVD,↓reduceIte,Nat.reduceEqDiff,reduceCtorEq,Nat.reduceAdd,Nat.reduceLeDiff,ne_eq,Nat.reduceLT,Int.reduceLT,Int.reduceLE,Int.reduceNeg]
theorem c57 (a w:Bytes) (t:Tk) (ht:t = .sh∨t = .c0) (l:List Fld) (hl:l.length≤10000000) (hs:(getN w l).1.s.length≤1000000):acall tab 57 [eRead t a l,.str w] []=some (.str (rawN (getN w l).1.s),[]):=by
 refine acall_ex rfl rfl rfl ?_
 have h0:=fun M=>k63 a w .sh (.inl rfl) l hl M
 have hsh:(AVal.slice t (l.map eFld)).shut = .slice .sh (l.map eFld):=by rcases ht with rfl|rfl<;>rfl
 have h1:=fun M=>k65 (getN w l).1.s hs M
 simp only [eRead,eFld,eFldC] at h0
 simp only [fn57,E57,h0,h1,hsh,EVT,EVD,↓reduceIte,Nat.reduceEqDiff,reduceCtorEq,Nat.reduceAdd,Nat.reduceLeDiff,ne_eq,Nat.reduceLT,Int.reduceLT,Int.reduceLE,Int.reduceNeg]
theorem c135 (s p:Bytes):acall tab 135 [.str s,.str p] []=some (.bool (decide (p.length≤s.length)&&(s.take p.length==p)),[]):=by
 refine acall_ex rfl rfl rfl ?_
 simp only [fn135,E135,EVT,EVD,↓reduceIte,Nat.reduceEqDiff,reduceCtorEq,Nat.reduceAdd,Nat.reduceLeDiff,ne_eq,Nat.reduceLT,Int.reduceLT,Int.reduceLE,Int.reduceNeg]
 refine guard_split (fun hb=>?_) (fun hb=>?_)
 ·have h1:p.length≤s.length:=by simp at hb; omega
  have h2:((p.length:Int)≤s.length∧((0:Nat):Int)≤p.length)=True:=by simp only [eq_iff_iff,iff_true]; omega
  simp only [hb,h2,EVT,EVD,↓reduceIte,Nat.reduceEqDiff,reduceCtorEq,Nat.reduceAdd,Nat.reduceLeDiff,ne_eq,Nat.reduceLT,Int.reduceLT,Int.reduceLE,Int.reduceNeg]
  simp [h1]
 ·have h1:¬p.length≤s.length:=by simp at hb; omega
  simp only [hb,EVT,EVD,↓reduceIte,Nat.reduceEqDiff,reduceCtorEq,Nat.reduceAdd,Nat.reduceLeDiff,ne_eq,Nat.reduceLT,Int.reduceLT,Int.reduceLE,Int.reduceNeg]
  simp [h1]
theorem k135 (s p:Bytes) (M:AMem):callOp (acall tab) 135 [.str s,.str p] M=some (.bool (decide (p.length≤s.length)&&(s.take p.length==p)),M):=callOp0 (c135 s p) rfl rfl rfl rfl rfl M
def trimN (s p:Bytes):Bytes:=if (decide (p.length≤s.length)&&(s.take p.length==p))=true then s.drop p.length else s
theorem trimN_le (s p:Bytes):(trimN s p).length≤s.length:=by
 unfold trimN
 split<;>simp
theorem c96 (s p:Bytes):acall tab 96 [.str s,.str p] []=some (.str (trimN s p),[]):=by
 refine acall_ex rfl rfl rfl ?_
 simp only [fn96,E96,k135,EVT,EVD,↓reduceIte,Nat.reduceEqDiff,reduceCtorEq,Nat.reduceAdd,Nat.reduceLeDiff,ne_eq,Nat.reduceLT,Int.reduceLT,Int.reduceLE,Int.reduceNeg]
 refine fork_split (fun hb=>?_) (fun hb=>?_)
 ·rw [trimN,if_pos hb]
  have h1:p.length≤s.length:=by simp at hb; omega
  have h2:((s.length:Int)≤s.length∧(p.length:Int)≤s.length)=True:=by simp only [eq_iff_iff,iff_true]; omega
  simp only [E96,hb,h2,List.take_length,EVT,EVD,↓reduceIte,Nat.reduceEqDiff,reduceCtorEq,Nat.reduceAdd,Nat.reduceLeDiff,ne_eq,Nat.reduceLT,Int.reduceLT,Int.reduceLE,Int.reduceNeg]
 ·rw [trimN,if_neg (by rw [hb]; decide)]
  simp only [E96,hb,EVT,EVD,↓reduceIte,Nat.reduceEqDiff,reduceCtorEq,Nat.reduceAdd,Nat.reduceLeDiff,ne_eq,Nat.reduceLT,Int.reduceLT,Int.reduceLE,Int.reduceNeg]
theorem k96 (s p:Bytes) (M:AMem):callOp (acall tab) 96 [.str s,.str p] M=some (.str (trimN s p),M):=callOp0 (c96 s p) rfl rfl rfl rfl rfl M
theorem c59 (s p:Bytes):acall tab 59 [.str s,.str p] []=some (.str (trimN s p),[]):=by
 refine acall_ex rfl rfl rfl ?_
 simp only [fn59,E59,k96,EVT,EVD,↓reduceIte,Nat.reduceEqDiff,reduceCtorEq,Nat.reduceAdd,Nat.reduceLeDiff,ne_eq,Nat.reduceLT,Int.reduceLT,Int.reduceLE,Int.reduceNeg]
theorem k59 (s p:Bytes) (M:AMem):callOp (acall tab) 59 [.str s,.str p] M=some (.str (trimN s p),M):=callOp0 (c59 s p) rfl rfl rfl rfl rfl M
end Go.Proofs.YtannopdcbocngaaGreatDoor
namespace Go.Proofs.YtannopdcbocngaaGreatDoor
open Go Go.Abs
attribute [local irreducible] exK opsK opK gK forkK kr acall callOp owhen obind
theorem atoiN_ok (s:Bytes):okI (atoiN s):=by
 unfold atoiN okI
 split
 ·rename_i v h
  exact Lib.atoiAll_bounds h
 ·exact Lib.atoiSat_bounds s
 ·omega
theorem c58 (s:Bytes) (hs:s.length≤281474976710656):acall tab 58 [.str s] []=some (.tuple [.int .i64 (atoiN s),.any],[]):=by
 refine acall_prim (g:=pAtoi) rfl ?_
 simp only [pAtoi]
 rw [if_pos hs]
theorem k58 (s:Bytes) (hs:s.length≤281474976710656) (M:AMem):callOp (acall tab) 58 [.str s] M=some (.tuple [.int .i64 (atoiN s),.any],M):=callOp0 (c58 s hs) rfl rfl rfl rfl rfl M
theorem c93 (s p:Bytes) (hs:s.length<4294967281):acall tab 93 [.str s,.str p] []=some (.tuple [.str (Lib.cut s p).1,.str (Lib.cut s p).2.1,.bool (Lib.cut s p).2.2],[]):=by
 refine acall_prim (g:=pCut) rfl ?_
 simp only [pCut]
 rw [if_pos hs]
theorem k93 (s p:Bytes) (hs:s.length<4294967281) (M:AMem):callOp (acall tab) 93 [.str s,.str p] M=some (.tuple [.str (Lib.cut s p).1,.str (Lib.cut s p).2.1,.bool (Lib.cut s p).2.2],M):=callOp0 (c93 s p hs) rfl rfl rfl rfl rfl M
theorem c64 (s p:Bytes) (hs:s.length<4294967281) (hp:1≤p.length):acall tab 64 [.str s,.str p] []=some (.slice .sh ((splitS s p).map .str),[]):=by
 refine acall_prim (g:=pSplitS) rfl ?_
 simp only [pSplitS]
 rw [if_pos ⟨hs,hp⟩]
theorem k64 (s p:Bytes) (hs:s.length<4294967281) (hp:1≤p.length) (M:AMem):callOp (acall tab) 64 [.str s,.str p] M=some (.slice .sh ((splitS s p).map .str),M):=callOp0 (c64 s p hs hp) rfl rfl rfl rfl rfl M
def fldR (x:Bytes):Fld:=⟨(Lib.cut x [61]).1,atoiN (Lib.cut x [61]).2.1,(Lib.cut x [61]).2.1⟩
theorem splitS_one (s:Bytes) (c:UInt8):splitS s [c]=cutL c s:=by
 have h:=Lib.splitB_data (bs [c]) 0 (Lib.countB (bs s) (bs [c])) (bs s)
 unfold splitS
 rw [h,←splitK_cutL]
 have e1:(bs [c]).data.toList=[c]:=rfl
 have e2:(bs s).data.toList=s:=by simp [bs]
 unfold Lib.countB
 rw [e1,e2,Lib.count_one]
theorem loop55 (ws:List Bytes) (hl:ws.length≤1000000) (hs:∀x,x∈ws→x.length≤1000000) (first:Bytes) (C:CallF) (hC:C=acall tab):∀(r pre:List Bytes),ws=pre++r→∀(fn:List ARes) (base:Nat) (k:List K),
  exK C fn base (.block 0::k) (.loop [2,4,19,20,21] lb55_0) [(2,.ptr 0 0),(4,.ptr 1 0),(19,.slice .sh (ws.map .str)),(20,eI ws.length),(21,eI pre.length)]
   [.cells [.str [],.slice .c0 []],.cells [.str first,.slice (.own 2) ((pre.map fldR).map eFld)],.tick 3 pre.length] =
  kr C fn base k ⟨.normal,[(2,.ptr 0 0),(4,.ptr 1 0),(19,.slice .sh (ws.map .str)),(20,eI ws.length),(21,eI ws.length),(22,.bool false)],
   [.cells [.str [],.slice .c0 []],.cells [.str first,.slice (.own 2) ((ws.map fldR).map eFld)],.tick 3 ws.length]⟩
 | [],pre,he,fn,base,k=>by
  subst hC
  have:pre=ws:=by simpa using he.symm
  subst this
  rw [exK_loop]
  have hlt:decide ((pre.length:Int)<pre.length)=false:=by simp
  simp only [E55,hlt,EVT,EVD,↓reduceIte,Nat.reduceEqDiff,reduceCtorEq,Nat.reduceAdd,Nat.reduceLeDiff,ne_eq,Nat.reduceLT,Int.reduceLT,Int.reduceLE,Int.reduceNeg]
 |f::r,pre,he,fn,base,k=>by
  subst hC
  have hl':pre.length<ws.length:=by rw [he]; simp
  have hlt:decide ((pre.length:Int)<ws.length)=true:=by simpa using hl'
  have hix:ws[pre.length]?=some f:=by rw [he]; simp
  have hn:(0:Int)≤pre.length:=by omega
  have hw:IntKind.i64.wrap ((pre.length:Int)+1)=((pre++[f]).length:Int):=by rw [List.length_append,wrapS (by omega) (by omega)]; simp
  have hf:=hs f (by rw [he]; simp)
  have hc:=cut_le f [61]
  have h1:=fun M=>k93 f [61] (by omega) M
  have h2:=fun M=>k58 (Lib.cut f [61]).2.1 (by omega) M
  have hr:=roomO (a:=pre.length+1) (b:=40) (by omega) (by omega)
  have hwd:wid (List.map eFld (List.map fldR pre)) 3=True:=by
   simp only [eq_iff_iff,iff_true]
   intro x hx
   obtain ⟨y,_,rfl⟩:=List.mem_map.1 hx
   rfl
  have ih:=loop55 ws hl hs first (acall tab) rfl r (pre++[f]) (by simpa using he) fn base k
  simp only [List.length_append,List.length_cons,List.length_nil,Nat.zero_add,List.map_append,List.map_cons,List.map_nil] at ih hw
  rw [exK_loop]
  simp only [E55,hlt,hix,h1,h2,hr,hwd,hw,EVT,EVD,↓reduceIte,Nat.reduceEqDiff,reduceCtorEq,Nat.reduceAdd,Nat.reduceLeDiff,ne_eq,Nat.reduceLT,Int.reduceLT,Int.reduceLE,Int.reduceNeg]
  exact ih
def cutF (s:Bytes):Bytes:=(cutL 32 s).headD []
def cutR (s:Bytes):List Fld:=(cutL 32 s).tail.map fldR
theorem c55 (s:Bytes) (hs:s.length≤900000):acall tab 55 [.str s] []=some (eRead .sh (cutF s) (cutR s),[]):=by
 refine acall_ex rfl rfl rfl ?_
 have h1:=fun M=>k64 s [32] (by omega) (by simp) M
 rw [splitS_one,cutL_split] at h1
 have hmem:∀x,x∈(cutL 32 s).tail→x.length≤1000000:=fun x hx=>by
  have:=cutL_mem 32 s x (List.mem_of_mem_tail hx); omega
 have hlen:(cutL 32 s).tail.length≤1000000:=by
  have:=cutL_len 32 s
  simp; omega
 unfold cutF cutR
 generalize (cutL 32 s).headD []=a at h1 ⊢
 generalize (cutL 32 s).tail=ws at h1 hlen hmem ⊢
 have h0:=loop55 ws hlen hmem a (acall tab) rfl ws [] rfl
 simp only [List.map_cons] at h1
 have ht:(0:Int).toNat=0:=rfl
 have hw:wid (AVal.str a::List.map AVal.str ws) 1=True:=widS (a::ws)
 have hb:(((ws.length+1:Nat):Int)≤((ws.length+1:Nat):Int)∧(1:Int)≤((ws.length+1:Nat):Int))=True:=by simp only [eq_iff_iff,iff_true]; omega
 have hd:List.drop (Int.toNat 1) (AVal.str a::List.take ws.length (List.map AVal.str ws))=ws.map .str:=by
  rw [show Int.toNat 1=1 from rfl,List.drop_succ_cons,List.drop_zero]
  exact List.take_of_length_le (by simp)
 simp only [fn55,E55,h1,ht,hw,hb,hd,List.getElem?_cons_zero,EVT,EVD,↓reduceIte,Nat.reduceEqDiff,reduceCtorEq,Nat.reduceAdd,Nat.reduceLeDiff,ne_eq,Nat.reduceLT,Int.reduceLT,Int.reduceLE,Int.reduceNeg]
 refine (h0 _ _ _).trans ?_
 simp only [E55,EVT,EVD,↓reduceIte,Nat.reduceEqDiff,reduceCtorEq,Nat.reduceAdd,Nat.reduceLeDiff,ne_eq,Nat.reduceLT,Int.reduceLT,Int.reduceLE,Int.reduceNeg]
theorem k55 (s:Bytes) (hs:s.length≤900000) (M:AMem):callOp (acall tab) 55 [.str s] M=some (eRead .sh (cutF s) (cutR s),M):=callOp0 (c55 s hs) rfl rfl rfl rfl rfl M
end Go.Proofs.YtannopdcbocngaaGreatDoor
namespace Go.Proofs.YtannopdcbocngaaGreatDoor
open Go Go.Abs
attribute [local irreducible] exK opsK opK gK forkK kr acall callOp owhen obind
def kindF (a:Bytes):List Bytes→Nat→Int→Int
 | [],_,k=>k
 |w::r,i,k=>kindF a r (i+1) (if w=a∧0<i then (i:Int) else k)
theorem kindF_ok (a:Bytes):∀(l:List Bytes) (i:Nat) (k:Int),i+l.length≤1000→okI k→okI (kindF a l i k)
 | [],i,k,h,hk=>hk
 |w::r,i,k,h,hk=>by
  refine kindF_ok a r (i+1) _ (by simp at h; omega) ?_
  split
  ·unfold okI; simp at h; omega
  ·exact hk
theorem gv0_back (B:Nat) (M:AMem):gv0.map (AVal.back1 B M)=gv0:=rfl
theorem loop24 (s a:Bytes) (l:List Fld) (M0:List AVal) (hM0:∀B M,M0.map (AVal.back1 B M)=M0) (C:CallF) (hC:C=acall tab) (v5 v6:AVal) (h5:∀B M,v5.backV B M=v5) (h6:∀B M,v6.backV B M=v6):∀(r pre:List Bytes),wordsL=pre++r→∀(kd:Int) (fn:List ARes) (base:Nat) (k:List K),
  exK C fn base (.block 0::k) (.loop [0,2,4,5,6,7,25,26] lb24_0) [(0,.str s),(2,.ptr 0 0),(4,.ptr 1 0),(5,v5),(6,v6),(7,eI kd),(25,.agg gv0),(26,eI pre.length)]
   [.cells M0,.cells [.str a,.slice .sh (l.map eFld)]] =
  kr C fn base k ⟨.normal,[(0,.str s),(2,.ptr 0 0),(4,.ptr 1 0),(5,v5),(6,v6),(7,eI (kindF a r pre.length kd)),(25,.agg gv0),(26,eI 18),(27,.bool false)],
   [.cells M0,.cells [.str a,.slice .sh (l.map eFld)]]⟩
 | [],pre,he,kd,fn,base,k=>by
  subst hC
  have:pre=wordsL:=by simpa using he.symm
  subst this
  rw [exK_loop]
  have hlt:decide ((wordsL.length:Int)<18)=false:=rfl
  have h18:((wordsL.length:Nat):Int)=18:=rfl
  simp only [E24,hlt,kindF,h18,EVT,EVD,↓reduceIte,Nat.reduceEqDiff,reduceCtorEq,Nat.reduceAdd,Nat.reduceLeDiff,ne_eq,Nat.reduceLT,Int.reduceLT,Int.reduceLE,Int.reduceNeg]
 |f::r,pre,he,kd,fn,base,k=>by
  subst hC
  have hl0:wordsL.length=18:=rfl
  have hl':pre.length<18:=by rw [←hl0,he]; simp
  have hlt:decide ((pre.length:Int)<18)=true:=by simp; omega
  have hix:gv0[pre.length]?=some (.str f):=by unfold gv0; rw [he]; simp
  have hn:(0:Int)≤pre.length:=by omega
  have hw:IntKind.i64.wrap ((pre.length:Int)+1)=((pre++[f]).length:Int):=by rw [List.length_append,wrapS (by omega) (by omega)]; simp
  have ih:=fun kd=>loop24 s a l M0 hM0 (acall tab) rfl v5 v6 h5 h6 r (pre++[f]) (by simpa using he) kd fn base k
  simp only [List.length_append,List.length_cons,List.length_nil,Nat.zero_add] at ih hw
  rw [exK_loop,kindF]
  have hl2:((pre.length:Int)<((18:Nat):Int))=True:=by simp only [eq_iff_iff,iff_true]; omega
  simp only [E24,hlt,hix,hl2,EVT,EVD,↓reduceIte,Nat.reduceEqDiff,reduceCtorEq,Nat.reduceAdd,Nat.reduceLeDiff,ne_eq,Nat.reduceLT,Int.reduceLT,Int.reduceLE,Int.reduceNeg]
  refine guard_split (fun hb=>?_) (fun hb=>?_)
  ·simp only [E24,hb,EVT,EVD,↓reduceIte,Nat.reduceEqDiff,reduceCtorEq,Nat.reduceAdd,Nat.reduceLeDiff,ne_eq,Nat.reduceLT,Int.reduceLT,Int.reduceLE,Int.reduceNeg]
   refine fork_split (fun hc=>?_) (fun hc=>?_)
   ·rw [if_pos ⟨by simpa using hb,by simp at hc; omega⟩]
    simp only [E24,hc,hw,h5,h6,hM0,gv0_back,EVT,EVD,↓reduceIte,Nat.reduceEqDiff,reduceCtorEq,Nat.reduceAdd,Nat.reduceLeDiff,ne_eq,Nat.reduceLT,Int.reduceLT,Int.reduceLE,Int.reduceNeg]
    exact ih _
   ·rw [if_neg (fun e=>by have:=of_decide_eq_false hc; have:=e.2; omega)]
    simp only [E24,hc,hw,h5,h6,hM0,gv0_back,EVT,EVD,↓reduceIte,Nat.reduceEqDiff,reduceCtorEq,Nat.reduceAdd,Nat.reduceLeDiff,ne_eq,Nat.reduceLT,Int.reduceLT,Int.reduceLE,Int.reduceNeg]
    exact ih _
  ·rw [if_neg (by intro e; simp at hb; exact hb e.1)]
   simp only [E24,hb,hw,h5,h6,hM0,gv0_back,EVT,EVD,↓reduceIte,Nat.reduceEqDiff,reduceCtorEq,Nat.reduceAdd,Nat.reduceLeDiff,ne_eq,Nat.reduceLT,Int.reduceLT,Int.reduceLE,Int.reduceNeg]
   exact ih _
theorem cut_field_le (s w:Bytes):(getN w (cutR s)).1.s.length≤s.length:=by
 unfold getN
 split
 ·rename_i f h
  have hm:=List.mem_of_find?_eq_some h
  unfold cutR at hm
  obtain ⟨x,hx,rfl⟩:=List.mem_map.1 hm
  have h1:=cutL_mem 32 s x (List.mem_of_mem_tail hx)
  have h2:=(cut_le x [61]).2
  simp only [fldR]
  omega
 ·simp [zFld]
theorem cut_field_ok (s w:Bytes):okI (getN w (cutR s)).1.n:=by
 unfold getN
 split
 ·rename_i f h
  have hm:=List.mem_of_find?_eq_some h
  unfold cutR at hm
  obtain ⟨x,hx,rfl⟩:=List.mem_map.1 hm
  exact atoiN_ok _
 ·exact okI_zero
theorem cutR_len (s:Bytes):(cutR s).length≤s.length:=by
 have:=cutL_len 32 s
 simp [cutR]; omega
def numG (s w:Bytes):Int:=(getN w (cutR s)).1.n
def txtG (s w:Bytes):Bytes:=rawN (getN w (cutR s)).1.s
def opOf (s:Bytes):Op:=⟨kindF (cutF s) wordsL 0 (atoiN (trimN (cutF s) [111,112])),numG s wClient,txtG s wPath,txtG s wTo,numG s wN,numG s wM,numG s wHandle,txtG s wData⟩
theorem txtG_le (s w:Bytes):(txtG s w).length≤s.length:=Nat.le_trans (rawN_le _ _ (Nat.le_refl _)) (cut_field_le s w)
theorem opOf_ok {s:Bytes} (h:s.length≤900000):OpOk (opOf s) where
 kind:=kindF_ok _ _ _ _ (by decide) (atoiN_ok _)
 client:=cut_field_ok _ _
 path:=by have:=txtG_le s wPath; simp only [opOf]; omega
 dest:=by have:=txtG_le s wTo; simp only [opOf]; omega
 n:=cut_field_ok _ _
 m:=cut_field_ok _ _
 handle:=cut_field_ok _ _
 data:=by have:=txtG_le s wData; simp only [opOf]; omega
def opZ:Op:=⟨0,0,[],[],0,0,0,[]⟩
def rdOp (s:Bytes):Op×Int:=if opN (opOf s)=s then (opOf s,0) else (opZ,11)
theorem k56 (a w:Bytes) (l:List Fld) (hl:l.length≤10000000) (M:AMem):callOp (acall tab) 56 [eRead .sh a l,.str w] M=some (.int .i64 (getN w l).1.n,M):=callOp0 (c56 a w .sh (.inl rfl) l hl) rfl rfl rfl rfl rfl M
theorem k57 (a w:Bytes) (l:List Fld) (hl:l.length≤10000000) (hs:(getN w l).1.s.length≤1000000) (M:AMem):callOp (acall tab) 57 [eRead .sh a l,.str w] M=some (.str (rawN (getN w l).1.s),M):=callOp0 (c57 a w .sh (.inl rfl) l hl hs) rfl rfl rfl rfl rfl M
theorem c24 (s:Bytes) (hs:s.length≤900000):acall tab 24 [.str s] []=some (.tuple [eOp .sh (rdOp s).1,eI (rdOp s).2],[]):=by
 refine acall_ex rfl rfl rfl ?_
 have h55:=fun M=>k55 s hs M
 have hcf:(cutF s).length≤s.length:=cutL_mem 32 s _ (by rw [cutL_split 32 s]; simp [cutF])
 have h59:=fun M=>k59 (cutF s) [111,112] M
 have h58:=fun M=>k58 (trimN (cutF s) [111,112]) (by have:=trimN_le (cutF s) [111,112]; omega) M
 have hl:=cutR_len s
 have h56:=fun w M=>k56 (cutF s) w (cutR s) (by omega) M
 have h57:=fun w M=>k57 (cutF s) w (cutR s) (by omega) (by have:=cut_field_le s w; omega) M
 have h15:=fun M=>k15 (opOf s) (opOf_ok hs) .sh (.inl rfl) M
 simp only [eRead] at h55 h56 h57
 have hg:(18≤gv0.length)=True:=by simp only [eq_iff_iff,iff_true]; decide
 have ht:List.take 18 gv0=gv0:=rfl
 have hlp:=fun M0 hM0 v5 v6 h5 h6=>loop24 s (cutF s) (cutR s) M0 hM0 (acall tab) rfl v5 v6 h5 h6 wordsL [] rfl
 have ho:eOpC .sh (opOf s)=eOpC .sh (opOf s):=rfl
 generalize hq:opN (opOf s)=q at h15
 conv at ho=>rhs; simp only [eOpC,opOf,numG,txtG,wClient,wPath,wTo,wN,wM,wHandle,wData]
 rw [eOp,ho] at h15
 have hr:some (AVal.tuple [eOp .sh (rdOp s).1,eI (rdOp s).2],([]:AMem))=if (q != s)=false then some (.tuple [.agg (eOpC .sh (opOf s)),eI 0],[]) else some (.tuple [.agg (eOpC .sh opZ),eI 11],[]):=by
  unfold rdOp
  rw [hq]
  by_cases h:q=s<;>simp [h]
 rw [hr,ho]
 clear hr ho
 simp only [fn24,E24,h55,h58,h59,hg,ht,EVT,EVD,↓reduceIte,Nat.reduceEqDiff,reduceCtorEq,Nat.reduceAdd,Nat.reduceLeDiff,ne_eq,Nat.reduceLT,Int.reduceLT,Int.reduceLE,Int.reduceNeg]
 refine (hlp _ (by intro B M; rfl) _ _ (by intro B M; rfl) (by intro B M; rfl) _ _ _ _).trans ?_
 simp only [E24,h56,h57,h15,EVT,EVD,↓reduceIte,Nat.reduceEqDiff,reduceCtorEq,Nat.reduceAdd,Nat.reduceLeDiff,ne_eq,Nat.reduceLT,Int.reduceLT,Int.reduceLE,Int.reduceNeg]
 refine fork_split (fun hc=>?_) (fun hc=>?_)
 ·rw [if_neg (by rw [hc]; decide)]
  simp only [E24,hc,EVT,EVD,↓reduceIte,Nat.reduceEqDiff,reduceCtorEq,Nat.reduceAdd,Nat.reduceLeDiff,ne_eq,Nat.reduceLT,Int.reduceLT,Int.reduceLE,Int.reduceNeg]
  rfl
 ·rw [if_pos hc]
  simp only [E24,hc,EVT,EVD,↓reduceIte,Nat.reduceEqDiff,reduceCtorEq,Nat.reduceAdd,Nat.reduceLeDiff,ne_eq,Nat.reduceLT,Int.reduceLT,Int.reduceLE,Int.reduceNeg]
theorem k24 (s:Bytes) (hs:s.length≤900000) (M:AMem):callOp (acall tab) 24 [.str s] M=some (.tuple [eOp .sh (rdOp s).1,eI (rdOp s).2],M):=callOp0 (c24 s hs) rfl rfl rfl rfl rfl M
end Go.Proofs.YtannopdcbocngaaGreatDoor
namespace Go.Proofs.YtannopdcbocngaaGreatDoor
open Go Go.Abs
attribute [local irreducible] exK opsK opK gK forkK kr acall callOp owhen obind
theorem loop26 (s a:Bytes) (l:List Fld) (M0:List AVal) (hM0:∀B M,M0.map (AVal.back1 B M)=M0) (v0 v1 v2 v3 v4 v6:AVal) (hv:∀B M,[v0,v1,v2,v3,v4,v6].map (AVal.back1 B M)=[v0,v1,v2,v3,v4,v6]) (f:List AVal) (hf:∀B M,f.map (AVal.back1 B M)=f)
  (ws:List Bytes) (hl:ws.length≤1000000) (hs:∀x,x∈ws→x.length≤1000000) (C:CallF) (hC:C=acall tab):∀(r pre:List Bytes),ws=pre++r→∀(fn:List ARes) (base:Nat) (k:List K),
  exK C fn base (.block 0::k) (.loop [0,2,8,45,46,47] lb26_0) [(0,.str s),(2,.ptr 0 0),(8,.ptr 2 0),(45,.slice .sh (ws.map .str)),(46,eI ws.length),(47,eI pre.length)]
   [.cells M0,.cells [.str a,.slice .sh (l.map eFld)],.cells [v0,v1,v2,v3,v4,.slice (.own 3) ((pre.map rawN).map .str),v6],.tick 1 pre.length,.cells f] =
  kr C fn base k ⟨.normal,[(0,.str s),(2,.ptr 0 0),(8,.ptr 2 0),(45,.slice .sh (ws.map .str)),(46,eI ws.length),(47,eI ws.length),(48,.bool false)],
   [.cells M0,.cells [.str a,.slice .sh (l.map eFld)],.cells [v0,v1,v2,v3,v4,.slice (.own 3) ((ws.map rawN).map .str),v6],.tick 1 ws.length,.cells f]⟩
 | [],pre,he,fn,base,k=>by
  subst hC
  have:pre=ws:=by simpa using he.symm
  subst this
  rw [exK_loop]
  have hlt:decide ((pre.length:Int)<pre.length)=false:=by simp
  simp only [E26,hlt,EVT,EVD,↓reduceIte,Nat.reduceEqDiff,reduceCtorEq,Nat.reduceAdd,Nat.reduceLeDiff,ne_eq,Nat.reduceLT,Int.reduceLT,Int.reduceLE,Int.reduceNeg]
 |x::r,pre,he,fn,base,k=>by
  subst hC
  have hl':pre.length<ws.length:=by rw [he]; simp
  have hlt:decide ((pre.length:Int)<ws.length)=true:=by simpa using hl'
  have hix:ws[pre.length]?=some x:=by rw [he]; simp
  have hn:(0:Int)≤pre.length:=by omega
  have hw:IntKind.i64.wrap ((pre.length:Int)+1)=((pre++[x]).length:Int):=by rw [List.length_append,wrapS (by omega) (by omega)]; simp
  have h65:=fun M=>k65 x (hs x (by rw [he]; simp)) M
  have hr:=roomO (a:=pre.length+1) (b:=16) (by omega) (by omega)
  have ih:=loop26 s a l M0 hM0 v0 v1 v2 v3 v4 v6 hv f hf ws hl hs (acall tab) rfl r (pre++[x]) (by simpa using he) fn base k
  simp only [List.length_append,List.length_cons,List.length_nil,Nat.zero_add,List.map_append,List.map_cons,List.map_nil] at ih hw
  simp only [List.map_cons,List.map_nil,List.cons.injEq,and_true] at hv
  rw [exK_loop]
  simp only [E26,hlt,hix,h65,hr,widS,hw,hM0,hf,hv,EVT,EVD,↓reduceIte,Nat.reduceEqDiff,reduceCtorEq,Nat.reduceAdd,Nat.reduceLeDiff,ne_eq,Nat.reduceLT,Int.reduceLT,Int.reduceLE,Int.reduceNeg]
  exact ih
theorem sumL_cut (c:UInt8):∀s:Bytes,sumL (cutL c s)≤s.length
 | []=>by simp [cutL,sumL]
 |x::r=>by
  have ih:=sumL_cut c r
  unfold cutL
  split
  ·simp only [sumL,List.map_cons,List.sum_cons,List.length_nil,List.length_cons] at ih ⊢; omega
  ·rw [cutL_split c r] at ih
   simp only [sumL,List.map_cons,List.sum_cons,List.length_cons,List.headD_cons,List.tail_cons] at ih ⊢; omega
theorem sumL_raw:∀l:List Bytes,sumL (l.map rawN)≤sumL l
 | []=>by simp [sumL]
 |x::r=>by
  have ih:=sumL_raw r
  have:=rawN_le _ x (Nat.le_refl _)
  simp only [sumL,List.map_cons,List.sum_cons] at ih ⊢
  omega
def namesG (s:Bytes):List Bytes:=if (getN wNames (cutR s)).2=true then (cutL 44 (getN wNames (cutR s)).1.s).map rawN else []
def ansOf (s:Bytes):Ans:=⟨atoiN (trimN (cutF s) [101,114,114,111,114]),numG s wIno,numG s wKind,numG s wN,numG s wM,namesG s,txtG s wData⟩
theorem ansOf_ok {s:Bytes} (h:s.length≤900000):AnsOk (ansOf s) where
 err:=atoiN_ok _
 ino:=cut_field_ok _ _
 kind:=cut_field_ok _ _
 n:=cut_field_ok _ _
 m:=cut_field_ok _ _
 names:=by
  have h1:=cut_field_le s wNames
  have h2:=cutL_len 44 (getN wNames (cutR s)).1.s
  simp only [ansOf,namesG]
  split
  ·simp; omega
  ·simp
 sum:=by
  have h1:=cut_field_le s wNames
  have h2:=sumL_cut 44 (getN wNames (cutR s)).1.s
  have h3:=sumL_raw (cutL 44 (getN wNames (cutR s)).1.s)
  simp only [ansOf,namesG]
  split
  ·omega
  ·simp [sumL]
 data:=by have:=txtG_le s wData; simp only [ansOf]; omega
def ansZ:Ans:=⟨0,0,0,0,0,[],[]⟩
def rdAns (s:Bytes):Ans×Int:=if ansN (ansOf s)=s then (ansOf s,0) else (ansZ,11)
theorem c26 (s:Bytes) (hs:s.length≤900000):acall tab 26 [.str s] []=some (.tuple [eAns .sh .sh (rdAns s).1,eI (rdAns s).2],[]):=by
 refine acall_ex rfl rfl rfl ?_
 have h55:=fun M=>k55 s hs M
 have hcf:(cutF s).length≤s.length:=cutL_mem 32 s _ (by rw [cutL_split 32 s]; simp [cutF])
 have h59:=fun M=>k59 (cutF s) [101,114,114,111,114] M
 have h58:=fun M=>k58 (trimN (cutF s) [101,114,114,111,114]) (by have:=trimN_le (cutF s) [101,114,114,111,114]; omega) M
 have hl:=cutR_len s
 have h56:=fun w M=>k56 (cutF s) w (cutR s) (by omega) M
 have h57:=fun w M=>k57 (cutF s) w (cutR s) (by omega) (by have:=cut_field_le s w; omega) M
 have h63:=fun M=>k63 (cutF s) wNames .sh (.inl rfl) (cutR s) (by omega) M
 have hfl:=cut_field_le s wNames
 have h64:=fun M=>k64 (getN wNames (cutR s)).1.s [44] (by omega) (by simp) M
 rw [splitS_one] at h64
 have h17:=fun M=>k17 (ansOf s) (ansOf_ok hs) .sh .sh (.inl rfl) (.inl rfl) M
 have hlp:=fun M0 hM0 v0 v1 v2 v3 v4 v6 hv f hf=>loop26 s (cutF s) (cutR s) M0 hM0 v0 v1 v2 v3 v4 v6 hv f hf (cutL 44 (getN wNames (cutR s)).1.s) (by have:=cutL_len 44 (getN wNames (cutR s)).1.s; omega) (fun x hx=>by have:=cutL_mem 44 _ x hx; omega) (acall tab) rfl _ [] rfl
 have ho:eAnsC .sh .sh (ansOf s)=eAnsC .sh .sh (ansOf s):=rfl
 generalize hq:ansN (ansOf s)=q at h17
 conv at ho=>rhs; simp only [eAnsC,ansOf,numG,txtG,wIno,wKind,wN,wM,wData]
 rw [eAns,ho] at h17
 have hr:some (AVal.tuple [eAns .sh .sh (rdAns s).1,eI (rdAns s).2],([]:AMem))=if (q != s)=false then some (.tuple [.agg (eAnsC .sh .sh (ansOf s)),eI 0],[]) else some (.tuple [.agg (eAnsC .sh .sh ansZ),eI 11],[]):=by
  unfold rdAns
  rw [hq]
  by_cases h:q=s<;>simp [h]
 rw [hr,ho]
 clear hr ho
 simp only [eRead,eFld,eFldC,wNames] at h55 h56 h57 h63
 simp only [fn26,E26,h55,h58,h59,h56,h57,h63,EVT,EVD,↓reduceIte,Nat.reduceEqDiff,reduceCtorEq,Nat.reduceAdd,Nat.reduceLeDiff,ne_eq,Nat.reduceLT,Int.reduceLT,Int.reduceLE,Int.reduceNeg]
 have hn:∀b,(getN [110,97,109,101,115] (cutR s)).2=b→namesG s=if b=true then (cutL 44 (getN [110,97,109,101,115] (cutR s)).1.s).map rawN else []:=fun b h=>by subst h; rfl
 simp only [wNames] at h64 hlp
 refine fork_split (fun hb=>?_) (fun hb=>?_)
 ·rw [hn _ hb,if_pos (show true=true from rfl)] at h17 ⊢
  simp only [E26,hb,h64,List.length_map,EVT,EVD,↓reduceIte,Nat.reduceEqDiff,reduceCtorEq,Nat.reduceAdd,Nat.reduceLeDiff,ne_eq,Nat.reduceLT,Int.reduceLT,Int.reduceLE,Int.reduceNeg]
  refine (hlp _ (by intro B M; rfl) _ _ _ _ _ _ (by intro B M; rfl) _ (by intro B M; rfl) _ _ _).trans ?_
  simp only [E26,h17,EVT,EVD,↓reduceIte,Nat.reduceEqDiff,reduceCtorEq,Nat.reduceAdd,Nat.reduceLeDiff,ne_eq,Nat.reduceLT,Int.reduceLT,Int.reduceLE,Int.reduceNeg]
  refine fork_split (fun hc=>?_) (fun hc=>?_)
  ·rw [if_neg (by rw [hc]; decide)]
   simp only [E26,hc,EVT,EVD,↓reduceIte,Nat.reduceEqDiff,reduceCtorEq,Nat.reduceAdd,Nat.reduceLeDiff,ne_eq,Nat.reduceLT,Int.reduceLT,Int.reduceLE,Int.reduceNeg]
   rfl
  ·rw [if_pos hc]
   simp only [E26,hc,EVT,EVD,↓reduceIte,Nat.reduceEqDiff,reduceCtorEq,Nat.reduceAdd,Nat.reduceLeDiff,ne_eq,Nat.reduceLT,Int.reduceLT,Int.reduceLE,Int.reduceNeg]
 ·rw [hn _ hb,if_neg (show ¬(false=true) by decide)] at h17 ⊢
  simp only [List.map_nil] at h17 ⊢
  simp only [E26,hb,h17,EVT,EVD,↓reduceIte,Nat.reduceEqDiff,reduceCtorEq,Nat.reduceAdd,Nat.reduceLeDiff,ne_eq,Nat.reduceLT,Int.reduceLT,Int.reduceLE,Int.reduceNeg]
  refine fork_split (fun hc=>?_) (fun hc=>?_)
  ·rw [if_neg (by rw [hc]; decide)]
   simp only [E26,hc,EVT,EVD,↓reduceIte,Nat.reduceEqDiff,reduceCtorEq,Nat.reduceAdd,Nat.reduceLeDiff,ne_eq,Nat.reduceLT,Int.reduceLT,Int.reduceLE,Int.reduceNeg]
   rfl
  ·rw [if_pos hc]
   simp only [E26,hc,EVT,EVD,↓reduceIte,Nat.reduceEqDiff,reduceCtorEq,Nat.reduceAdd,Nat.reduceLeDiff,ne_eq,Nat.reduceLT,Int.reduceLT,Int.reduceLE,Int.reduceNeg]
theorem k26 (s:Bytes) (hs:s.length≤900000) (M:AMem):callOp (acall tab) 26 [.str s] M=some (.tuple [eAns .sh .sh (rdAns s).1,eI (rdAns s).2],M):=callOp0 (c26 s hs) rfl rfl rfl rfl rfl M
end Go.Proofs.YtannopdcbocngaaGreatDoor
namespace Go.Proofs.YtannopdcbocngaaGreatDoor
open Go Go.Abs
attribute [local irreducible] exK opsK opK gK forkK kr acall callOp owhen obind
structure Event where
 kind:Int
 client:Int
 op:Op
 ans:Ans
 deriving DecidableEq,Inhabited
def eEvC (e:Event):List AVal:=[.int .i64 e.kind,.int .i64 e.client,
 .int .i64 e.op.kind,.int .i64 e.op.client,.str e.op.path,.str e.op.dest,.int .i64 e.op.n,.int .i64 e.op.m,.int .i64 e.op.handle,.slice .sh (e.op.data.map u8V),
 .int .i64 e.ans.err,.int .i64 e.ans.ino,.int .i64 e.ans.kind,.int .i64 e.ans.n,.int .i64 e.ans.m,.slice .sh (e.ans.names.map .str),.slice .sh (e.ans.data.map u8V)]
abbrev eEv (e:Event):AVal := .agg (eEvC e)
structure EvOk (e:Event):Prop where
 client:okI e.client
 op:OpOk e.op
 ans:AnsOk e.ans
theorem opN_le {o:Op} (h:OpOk o):(opN o).length≤10000000:=by
 have h0:=firstN_le h.kind
 have h1:=fldN_le' (f:=⟨wClient,o.client,[]⟩) h.client
 have h2:=fldN_le' (f:=⟨wPath,0,escN o.path⟩) okI_zero
 have h3:=fldN_le' (f:=⟨wTo,0,escN o.dest⟩) okI_zero
 have h4:=fldN_le' (f:=⟨wN,o.n,[]⟩) h.n
 have h5:=fldN_le' (f:=⟨wM,o.m,[]⟩) h.m
 have h6:=fldN_le' (f:=⟨wHandle,o.handle,[]⟩) h.handle
 have h7:=fldN_le' (f:=⟨wData,0,escN o.data⟩) okI_zero
 have e1:=escN_le o.path; have e2:=escN_le o.dest; have e3:=escN_le o.data
 have g1:=h.path; have g2:=h.dest; have g3:=h.data
 simp only [wClient,wPath,wTo,wN,wM,wHandle,wData,List.length_cons,List.length_nil] at h1 h2 h3 h4 h5 h6 h7
 simp only [opN,lineN,opFlds,fldsN,List.flatMap_cons,List.flatMap_nil,List.length_append,List.length_nil,wClient,wPath,wTo,wN,wM,wHandle,wData]
 omega
theorem ansN_le {a:Ans} (h:AnsOk a):(ansN a).length≤10000000:=by
 have h0:=ansHead_le h
 have h1:=namesN_le h
 have h2:=fldN_le' (f:=⟨wData,0,escN a.data⟩) okI_zero
 have e1:=escN_le a.data; have g1:=h.data
 simp only [wData,List.length_cons,List.length_nil] at h2
 unfold ansN
 rw [lineN]
 simp only [fldsN,List.flatMap_cons,List.flatMap_nil,List.length_append,List.length_nil,wData]
 omega
def evN (e:Event):Bytes:=if e.kind=1 then 98::101::103::105::110::32::(Lib.itoa e.client++[58,32]++opN e.op++[10]) else if e.kind=2 then 101::110::100::32::(Lib.itoa e.client++[58,32]++ansN e.ans++[10]) else []
def histN (l:List Event):Bytes:=l.flatMap evN
theorem evN_le {e:Event} (h:EvOk e):(evN e).length≤10000100:=by
 have:=opN_le h.op; have:=ansN_le h.ans; have:=itoa_le h.client
 unfold evN
 split
 ·simp; omega
 ·split
  ·simp; omega
  ·simp
theorem loop19 (l:List Event) (hok:∀e,e∈l→EvOk e) (hl:l.length≤100000) (C:CallF) (hC:C=acall tab):∀(r pre:List Event),l=pre++r→∀(t:Bytes),t.length≤10000100*pre.length→∀(fn:List ARes) (base:Nat) (k:List K),
  exK C fn base (.block 0::k) (.loop [3,6,7,8] lb19_0) [(3,.ptr 1 0),(6,.slice .sh (l.map eEv)),(7,eI l.length),(8,eI pre.length)] [.tick 1 t.length,bld 1 0 t] =
  kr C fn base k ⟨.normal,[(3,.ptr 1 0),(6,.slice .sh (l.map eEv)),(7,eI l.length),(8,eI l.length),(9,.bool false)],[.tick 1 (t++histN r).length,bld 1 0 (t++histN r)]⟩
 | [],pre,he,t,ht,fn,base,k=>by
  subst hC
  have:pre=l:=by simpa using he.symm
  subst this
  rw [exK_loop]
  have hlt:decide ((pre.length:Int)<pre.length)=false:=by simp
  have h0:t++histN []=t:=by simp [histN]
  rw [h0]
  simp only [E19,hlt,EVT,EVD,↓reduceIte,Nat.reduceEqDiff,reduceCtorEq,Nat.reduceAdd,Nat.reduceLeDiff,ne_eq,Nat.reduceLT,Int.reduceLT,Int.reduceLE,Int.reduceNeg]
 |e::r,pre,he,t,ht,fn,base,k=>by
  subst hC
  have hl':pre.length<l.length:=by rw [he]; simp
  have hlt:decide ((pre.length:Int)<l.length)=true:=by simpa using hl'
  have hix:l[pre.length]?=some e:=by rw [he]; simp
  have hn:(0:Int)≤pre.length:=by omega
  have hw:IntKind.i64.wrap ((pre.length:Int)+1)=((pre++[e]).length:Int):=by rw [List.length_append,wrapS (by omega) (by omega)]; simp
  have hfo:=hok e (by rw [he]; simp)
  have h4:=evN_le hfo
  have ho:=opN_le hfo.op; have ha:=ansN_le hfo.ans; have hi:=itoa_le hfo.client
  have ih:=loop19 l hok hl (acall tab) rfl r (pre++[e]) (by simpa using he) (t++evN e) (by simp; omega) fn base k
  have hfr:t++evN e++histN r=t++histN (e::r):=by simp [histN]
  rw [hfr] at ih
  generalize t++histN (e::r)=u at ih ⊢
  have h42:=fun M=>k42 e.client hfo.client M
  have h15:=fun M=>k15 e.op hfo.op .sh (.inl rfl) M
  have h17:=fun M=>k17 e.ans hfo.ans .sh .sh (.inl rfl) (.inl rfl) M
  simp only [eOpC,eAnsC,eOp,eAns] at h15 h17
  simp only [List.length_append,List.length_cons,List.length_nil,Nat.zero_add] at ih hw
  have hk:=fun (c:List AVal) (v:Bytes) (hv:t.length+v.length≤1099511627776)=>k50 (p:=1) (k:=0) (M:=[.tick 1 t.length,bld 1 0 t,.cells c]) v rfl rfl (by decide) hv
  simp only [List.length_append] at hk
  rw [exK_loop]
  simp only [E19,hlt,hix,eEvC,EVT,EVD,↓reduceIte,Nat.reduceEqDiff,reduceCtorEq,Nat.reduceAdd,Nat.reduceLeDiff,ne_eq,Nat.reduceLT,Int.reduceLT,Int.reduceLE,Int.reduceNeg]
  refine fork_split (fun hb=>?_) (fun hb=>?_)
  ·have he2:evN e=98::101::103::105::110::32::(Lib.itoa e.client++[58,32]++opN e.op++[10]):=by rw [evN,if_pos (by simpa using hb)]
   simp (disch:=omega) only [E19,hb,h42,h15,EVT,EVD,↓reduceIte,Nat.reduceEqDiff,reduceCtorEq,Nat.reduceAdd,Nat.reduceLeDiff,ne_eq,Nat.reduceLT,Int.reduceLT,Int.reduceLE,Int.reduceNeg]
   rw [←he2,hk _ (evN e) (by omega)]
   simp only [E19,hw,EVT,EVD,↓reduceIte,Nat.reduceEqDiff,reduceCtorEq,Nat.reduceAdd,Nat.reduceLeDiff,ne_eq,Nat.reduceLT,Int.reduceLT,Int.reduceLE,Int.reduceNeg]
   exact ih
  ·simp only [E19,hb,EVT,EVD,↓reduceIte,Nat.reduceEqDiff,reduceCtorEq,Nat.reduceAdd,Nat.reduceLeDiff,ne_eq,Nat.reduceLT,Int.reduceLT,Int.reduceLE,Int.reduceNeg]
   refine fork_split (fun hc=>?_) (fun hc=>?_)
   ·have he2:evN e=101::110::100::32::(Lib.itoa e.client++[58,32]++ansN e.ans++[10]):=by rw [evN,if_neg (by simpa using hb),if_pos (by simpa using hc)]
    simp (disch:=omega) only [E19,hb,hc,h42,h17,EVT,EVD,↓reduceIte,Nat.reduceEqDiff,reduceCtorEq,Nat.reduceAdd,Nat.reduceLeDiff,ne_eq,Nat.reduceLT,Int.reduceLT,Int.reduceLE,Int.reduceNeg]
    rw [←he2,hk _ (evN e) (by omega)]
    simp only [E19,hw,EVT,EVD,↓reduceIte,Nat.reduceEqDiff,reduceCtorEq,Nat.reduceAdd,Nat.reduceLeDiff,ne_eq,Nat.reduceLT,Int.reduceLT,Int.reduceLE,Int.reduceNeg]
    exact ih
   ·have he2:evN e=[]:=by rw [evN,if_neg (by simpa using hb),if_neg (by simpa using hc)]
    rw [he2,List.append_nil] at ih
    simp only [List.length_nil,Nat.add_zero] at ih
    simp only [E19,hb,hc,hw,EVT,EVD,↓reduceIte,Nat.reduceEqDiff,reduceCtorEq,Nat.reduceAdd,Nat.reduceLeDiff,ne_eq,Nat.reduceLT,Int.reduceLT,Int.reduceLE,Int.reduceNeg]
    exact ih
theorem histN_le:∀ {l:List Event},(∀e,e∈l→EvOk e)→(histN l).length≤10000100*l.length
 | [],_=>by simp [histN]
 |e::r,h=>by
  have h1:=evN_le (h e (by simp))
  have h2:=histN_le fun g hg=>h g (List.mem_cons_of_mem _ hg)
  simp only [histN,List.flatMap_cons,List.length_append,List.length_cons] at h2 ⊢
  omega
theorem c19 (l:List Event) (hok:∀e,e∈l→EvOk e) (hl:l.length≤100000):acall tab 19 [.slice .sh (l.map eEv)] []=some (.str (histN l),[]):=by
 refine acall_ex rfl rfl rfl ?_
 have h0:=loop19 l hok hl (acall tab) rfl l [] rfl [] (by simp)
 have hle:=histN_le hok
 have hk2:=k51 (p:=1) (k:=0) (M:=[.tick 1 (histN l).length,bld 1 0 (histN l)]) rfl rfl (by decide) (by omega)
 simp only [List.length_nil,List.nil_append] at h0
 simp only [fn19,E19,EVT,EVD,↓reduceIte,Nat.reduceEqDiff,reduceCtorEq,Nat.reduceAdd,Nat.reduceLeDiff,ne_eq,Nat.reduceLT,Int.reduceLT,Int.reduceLE,Int.reduceNeg]
 refine (h0 _ _ _).trans ?_
 simp only [E19,hk2,EVT,EVD,↓reduceIte,Nat.reduceEqDiff,reduceCtorEq,Nat.reduceAdd,Nat.reduceLeDiff,ne_eq,Nat.reduceLT,Int.reduceLT,Int.reduceLE,Int.reduceNeg]
theorem k19 (l:List Event) (hok:∀e,e∈l→EvOk e) (hl:l.length≤100000) (M:AMem):callOp (acall tab) 19 [.slice .sh (l.map eEv)] M=some (.str (histN l),M):=callOp0 (c19 l hok hl) rfl rfl rfl rfl rfl M
end Go.Proofs.YtannopdcbocngaaGreatDoor
namespace Go.Proofs.YtannopdcbocngaaGreatDoor
open Go Go.Abs
attribute [local irreducible] exK opsK opK gK forkK kr acall callOp owhen obind
def evWord (s:Bytes):Bytes:=(Lib.cut (Lib.cut s [58,32]).1 [32]).1
def evClient (s:Bytes):Int:=atoiN (Lib.cut (Lib.cut s [58,32]).1 [32]).2.1
def evRest (s:Bytes):Bytes:=(Lib.cut s [58,32]).2.1
def evHas (s:Bytes):Bool:=(Lib.cut s [58,32]).2.2
def evOf (s:Bytes):Event×Bool :=
 if evWord s=[98,101,103,105,110] then (⟨1,evClient s,(rdOp (evRest s)).1,ansZ⟩,evHas s&&(rdOp (evRest s)).2==0)
 else if evWord s=[101,110,100] then (⟨2,evClient s,opZ,(rdAns (evRest s)).1⟩,evHas s&&(rdAns (evRest s)).2==0)
 else (⟨0,evClient s,opZ,ansZ⟩,false)
theorem c68 (s:Bytes) (hs:s.length≤900000):acall tab 68 [.str s] []=some (.tuple [eEv (evOf s).1,.bool (evOf s).2],[]):=by
 refine acall_ex rfl rfl rfl ?_
 have h1:=cut_le s [58,32]
 have h2:=cut_le (Lib.cut s [58,32]).1 [32]
 have k1:=fun M=>k93 s [58,32] (by omega) M
 have k2:=fun M=>k93 (Lib.cut s [58,32]).1 [32] (by omega) M
 have k3:=fun M=>k58 (Lib.cut (Lib.cut s [58,32]).1 [32]).2.1 (by omega) M
 have k4:=fun M=>k24 (evRest s) (by unfold evRest; omega) M
 have k5:=fun M=>k26 (evRest s) (by unfold evRest; omega) M
 simp only [eOp,eOpC,eAns,eAnsC,evRest] at k4 k5
 simp only [fn68,E68,k1,k2,k3,EVT,EVD,↓reduceIte,Nat.reduceEqDiff,reduceCtorEq,Nat.reduceAdd,Nat.reduceLeDiff,ne_eq,Nat.reduceLT,Int.reduceLT,Int.reduceLE,Int.reduceNeg]
 refine fork_split (fun hb=>?_) (fun hb=>?_)
 ·have he:evOf s=(⟨1,evClient s,(rdOp (evRest s)).1,ansZ⟩,evHas s&&(rdOp (evRest s)).2==0):=by rw [evOf,if_pos (by simpa [evWord] using hb)]
  rw [he]
  simp only [E68,hb,k4,EVT,EVD,↓reduceIte,Nat.reduceEqDiff,reduceCtorEq,Nat.reduceAdd,Nat.reduceLeDiff,ne_eq,Nat.reduceLT,Int.reduceLT,Int.reduceLE,Int.reduceNeg]
  refine guard_split (fun hc=>?_) (fun hc=>?_)
  ·simp only [E68,hc,EVT,EVD,↓reduceIte,Nat.reduceEqDiff,reduceCtorEq,Nat.reduceAdd,Nat.reduceLeDiff,ne_eq,Nat.reduceLT,Int.reduceLT,Int.reduceLE,Int.reduceNeg]
   simp [eEvC,evClient,evRest,evHas,hc,ansZ]
  ·simp only [E68,hc,EVT,EVD,↓reduceIte,Nat.reduceEqDiff,reduceCtorEq,Nat.reduceAdd,Nat.reduceLeDiff,ne_eq,Nat.reduceLT,Int.reduceLT,Int.reduceLE,Int.reduceNeg]
   simp at hc
   simp [eEvC,evClient,evRest,evHas,hc,ansZ]
 ·simp only [E68,hb,EVT,EVD,↓reduceIte,Nat.reduceEqDiff,reduceCtorEq,Nat.reduceAdd,Nat.reduceLeDiff,ne_eq,Nat.reduceLT,Int.reduceLT,Int.reduceLE,Int.reduceNeg]
  refine fork_split (fun hd=>?_) (fun hd=>?_)
  ·have he:evOf s=(⟨2,evClient s,opZ,(rdAns (evRest s)).1⟩,evHas s&&(rdAns (evRest s)).2==0):=by rw [evOf,if_neg (by simpa [evWord] using hb),if_pos (by simpa [evWord] using hd)]
   rw [he]
   simp only [E68,hb,hd,k5,EVT,EVD,↓reduceIte,Nat.reduceEqDiff,reduceCtorEq,Nat.reduceAdd,Nat.reduceLeDiff,ne_eq,Nat.reduceLT,Int.reduceLT,Int.reduceLE,Int.reduceNeg]
   refine guard_split (fun hc=>?_) (fun hc=>?_)
   ·simp only [E68,hc,EVT,EVD,↓reduceIte,Nat.reduceEqDiff,reduceCtorEq,Nat.reduceAdd,Nat.reduceLeDiff,ne_eq,Nat.reduceLT,Int.reduceLT,Int.reduceLE,Int.reduceNeg]
    simp [eEvC,evClient,evRest,evHas,hc,opZ]
   ·simp only [E68,hc,EVT,EVD,↓reduceIte,Nat.reduceEqDiff,reduceCtorEq,Nat.reduceAdd,Nat.reduceLeDiff,ne_eq,Nat.reduceLT,Int.reduceLT,Int.reduceLE,Int.reduceNeg]
    simp at hc
    simp [eEvC,evClient,evRest,evHas,hc,opZ]
  ·have he:evOf s=(⟨0,evClient s,opZ,ansZ⟩,false):=by rw [evOf,if_neg (by simpa [evWord] using hb),if_neg (by simpa [evWord] using hd)]
   rw [he]
   simp only [E68,hb,hd,EVT,EVD,↓reduceIte,Nat.reduceEqDiff,reduceCtorEq,Nat.reduceAdd,Nat.reduceLeDiff,ne_eq,Nat.reduceLT,Int.reduceLT,Int.reduceLE,Int.reduceNeg]
   simp [eEvC,evClient,opZ,ansZ]
theorem k68 (s:Bytes) (hs:s.length≤900000) (M:AMem):callOp (acall tab) 68 [.str s] M=some (.tuple [eEv (evOf s).1,.bool (evOf s).2],M):=callOp0 (c68 s hs) rfl rfl rfl rfl rfl M
theorem rdOp_ok {s:Bytes} (h:s.length≤900000):OpOk (rdOp s).1:=by
 unfold rdOp
 split
 ·exact opOf_ok h
 ·constructor<;>simp [opZ,okI]
theorem rdAns_ok {s:Bytes} (h:s.length≤900000):AnsOk (rdAns s).1:=by
 unfold rdAns
 split
 ·exact ansOf_ok h
 ·constructor<;>simp [ansZ,okI,sumL]
theorem opZ_ok:OpOk opZ:=by constructor<;>simp [opZ,okI]
theorem ansZ_ok:AnsOk ansZ:=by constructor<;>simp [ansZ,okI,sumL]
theorem evOf_ok {s:Bytes} (h:s.length≤900000):EvOk (evOf s).1:=by
 have h1:=(cut_le s [58,32]).2
 have h2:(evRest s).length≤900000:=by unfold evRest; omega
 unfold evOf
 split
 ·exact ⟨atoiN_ok _,rdOp_ok h2,ansZ_ok⟩
 ·split
  ·exact ⟨atoiN_ok _,opZ_ok,rdAns_ok h2⟩
  ·exact ⟨atoiN_ok _,opZ_ok,ansZ_ok⟩
end Go.Proofs.YtannopdcbocngaaGreatDoor
set_option linter.defProp false
namespace Go.Proofs.YtannopdcbocngaaGreatDoor
open Go Go.Abs
def rfBc:Code→Code
 | .rangeFunc _ _ _ b=>b
 | .block _ c=>rfBc c
 | .seq a b=>match rfBc a with | .skip=>rfBc b|c=>c
 |_ => .skip
def rfHas:Code→Bool
 | .rangeFunc .. => true
 | .block _ c=>rfHas c
 | .seq a b=>rfHas a||rfHas b
 |_=>false
def rfRc:Code→Code
 | .seq a b=>if rfHas a then b else rfRc b
 |_ => .skip
def rfB (f:Func):Code:=match f.body with|some c=>rfBc c|none => .skip
def rfR (f:Func):Code:=match f.body with|some c=>rfRc c|none => .skip
def q28b_0:ACode :=
 (.seq (.region [
 ox (.store 1 (.tmp 2) (.cst (.slice .c0 []))),
 ox (.store 1 (.tmp 3) (.cst (.int .i64 11)))] false []) (.ret))
def q28b_1:ACode :=
 (.region [
 ob 20 (.load1 (.tmp 4)),
 ob 21 (.loadA 17 (.tmp 6)),
 ob 22 (.lits 17 [(.tmp 21)]),
 ob 23 (.append 17 200 (.tmp 20) (.tmp 22)),
 ox (.store 1 (.tmp 4) (.tmp 23))] false [])
def q28b_2:ACode :=
 (.seq (.seq (.region [
 ob 18 (.mv (.tmp 7)),
 ob 19 (.not (.tmp 18))] false [2,3,4,6,19]) (.cond (.tmp 19) q28b_0 (.skip))) q28b_1)
def q28b_3:ACode :=
 (.seq (.region [
 ob 14 (.mv (.tmp 5)),
 ob 15 (.call 68 [(.tmp 14)]),
 ob 13 (.mv (.tmp 15)),
 ob 16 (.extract (.tmp 13) 0),
 ob 17 (.extract (.tmp 13) 1),
 ob 6 (.box0 [(.int .i64 0),(.int .i64 0),(.int .i64 0),(.int .i64 0),(.str []),(.str []),(.int .i64 0),(.int .i64 0),(.int .i64 0),(.slice .c0 []),(.int .i64 0),(.int .i64 0),(.int .i64 0),(.int .i64 0),(.int .i64 0),(.slice .c0 []),(.slice .c0 [])]),
 ox (.store 17 (.tmp 6) (.tmp 16)),
 ob 7 (.mv (.tmp 17))] false [2,3,4,6,7]) q28b_2)
def ann28b:Ann:={ n:=29,own:=[],lv:=[(4,[2,3,4,5,12]),(5,[2,3,4,6,7]),(6,[2,3,4,6,19]),(7,[]),(8,[])],lp:=[] }
def cd28b:ACode :=
 (.block 1 (.seq (.seq (.region [
 ob 11 (.mv (.tmp 5)),
 ob 12 (.bin .eql (.tmp 11) (.cst (.str [])))] false [2,3,4,5,12]) (.cond (.tmp 12) (.exit 1) (.skip))) q28b_3))
theorem ok28b:comp Tryz.prog ann28b (rfB Tryz.f28)=some cd28b:=by kernel_rfl
def q28r_0:ACode :=
 (.seq (.region [
 ox (.store 1 (.tmp 2) (.cst (.slice .c0 []))),
 ox (.store 1 (.tmp 3) (.cst (.int .i64 11)))] false [2,3]) (.ret))
def q28r_1:ACode :=
 (.seq (.region [
 ob 28 (.load1 (.tmp 4)),
 ox (.store 1 (.tmp 2) (.tmp 28)),
 ox (.store 1 (.tmp 3) (.cst (.int .i64 0)))] false [2,3]) (.ret))
def ann28r:Ann:={ n:=29,own:=[],lv:=[(9,[2,3,4,27]),(10,[2,3]),(11,[2,3])],lp:=[] }
def cd28r:ACode :=
 (.seq (.seq (.region [
 ob 24 (.load1 (.tmp 4)),
 ob 25 (.call 19 [(.tmp 24)]),
 ob 26 (.mv (.tmp 0)),
 ob 27 (.bin .neq (.tmp 25) (.tmp 26))] false [2,3,4,27]) (.cond (.tmp 27) q28r_0 (.skip))) q28r_1)
theorem ok28r:comp Tryz.prog ann28r (rfR Tryz.f28)=some cd28r:=by kernel_rfl
end Go.Proofs.YtannopdcbocngaaGreatDoor
namespace Go.Proofs.YtannopdcbocngaaGreatDoor
open Go Go.Abs
attribute [local irreducible] acall callOp owhen obind
def Mh (evs:List Event):AMem:=[.cells [.slice .c0 []],.cells [.int .i64 0],.cells [.slice (.own 3) (evs.map eEv)],.tick 17 evs.length]
def Eh (s x:Bytes):Env:=[(0,.str s),(2,.ptr 0 0),(3,.ptr 1 0),(4,.ptr 2 0),(5,.str x)]
theorem round_skip (s:Bytes) (evs:List Event):∃env,aexec (acall tab) cd28b (Eh s []) (Mh evs)=some ⟨.normal,env,Mh evs⟩:=by
 refine ⟨?_,?_⟩
 rotate_left
 ·simp only [cd28b,Eh,Mh,aexec,aregion,goOn,outOf,EVT,EVD,↓reduceIte,Nat.reduceEqDiff,reduceCtorEq,Nat.reduceAdd,Nat.reduceLeDiff,ne_eq,Nat.reduceLT,Int.reduceLT,Int.reduceLE,Int.reduceNeg]
  rfl
theorem round_bad (s x:Bytes) (evs:List Event) (hx:x≠[]) (hl:x.length≤900000) (hb:(evOf x).2=false) :
  ∃env m,aexec (acall tab) cd28b (Eh s x) (Mh evs)=some ⟨.ret,env,.cells [.slice .c0 []] :: .cells [.int .i64 11] :: .cells [.slice (.own 3) (evs.map eEv)] :: .tick 17 evs.length::m⟩:=by
 have h68:=fun M=>k68 x hl M
 have hx':(x==[])=false:=by simpa using hx
 rw [hb] at h68
 simp only [eEv,eEvC] at h68
 refine ⟨?_,?_,?_⟩
 rotate_left
 rotate_left
 ·simp only [cd28b,q28b_0,q28b_1,q28b_2,q28b_3,Eh,Mh,aexec,aregion,goOn,outOf,hx',h68,EVT,EVD,↓reduceIte,Nat.reduceEqDiff,reduceCtorEq,Nat.reduceAdd,Nat.reduceLeDiff,ne_eq,Nat.reduceLT,Int.reduceLT,Int.reduceLE,Int.reduceNeg]
  rfl
theorem round_good (s x:Bytes) (evs:List Event) (hx:x≠[]) (hl:x.length≤900000) (hb:(evOf x).2=true) (hn:evs.length≤1000000) :
  ∃env m,aexec (acall tab) cd28b (Eh s x) (Mh evs)=some ⟨.normal,env,Mh (evs++[(evOf x).1])++m⟩:=by
 have h68:=fun M=>k68 x hl M
 have hx':(x==[])=false:=by simpa using hx
 have hr:=roomO (a:=evs.length+1) (b:=200) (by omega) (by omega)
 have hwd:wid (List.map eEv evs) 17=True:=by
  simp only [eq_iff_iff,iff_true]
  intro y hy
  obtain ⟨z,_,rfl⟩:=List.mem_map.1 hy
  rfl
 rw [hb] at h68
 simp only [eEv,eEvC] at h68
 refine ⟨?_,?_,?_⟩
 rotate_left
 rotate_left
 ·simp only [cd28b,q28b_0,q28b_1,q28b_2,q28b_3,Eh,Mh,aexec,aregion,goOn,outOf,hx',h68,hr,hwd,List.map_append,List.map_cons,List.map_nil,EVT,EVD,↓reduceIte,Nat.reduceEqDiff,reduceCtorEq,Nat.reduceAdd,Nat.reduceLeDiff,ne_eq,Nat.reduceLT,Int.reduceLT,Int.reduceLE,Int.reduceNeg]
  rfl
def Er (s:Bytes):Env:=[(0,.str s),(2,.ptr 0 0),(3,.ptr 1 0),(4,.ptr 2 0)]
theorem rest_ok (s:Bytes) (evs:List Event) (hok:∀e,e∈evs→EvOk e) (hl:evs.length≤100000) (h:histN evs=s) :
  ∃m,aexec (acall tab) cd28r (Er s) (Mh evs)=some ⟨.ret,[(2,.ptr 0 0),(3,.ptr 1 0)],.cells [.slice (.own 3) (evs.map eEv)] :: .cells [.int .i64 0]::m⟩:=by
 have h19:=fun M=>k19 evs hok hl M
 have hb:(histN evs != s)=false:=by simp [h]
 refine ⟨?_,?_⟩
 rotate_left
 ·simp only [cd28r,q28r_0,q28r_1,Er,Mh,aexec,aregion,goOn,outOf,h19,hb,EVT,EVD,↓reduceIte,Nat.reduceEqDiff,reduceCtorEq,Nat.reduceAdd,Nat.reduceLeDiff,ne_eq,Nat.reduceLT,Int.reduceLT,Int.reduceLE,Int.reduceNeg]
  rfl
theorem rest_bad (s:Bytes) (evs:List Event) (hok:∀e,e∈evs→EvOk e) (hl:evs.length≤100000) (h:¬histN evs=s) :
  ∃m,aexec (acall tab) cd28r (Er s) (Mh evs)=some ⟨.ret,[(2,.ptr 0 0),(3,.ptr 1 0)],.cells [.slice .c0 []] :: .cells [.int .i64 11]::m⟩:=by
 have h19:=fun M=>k19 evs hok hl M
 have hb:(histN evs != s)=true:=by simp [h]
 refine ⟨?_,?_⟩
 rotate_left
 ·simp only [cd28r,q28r_0,q28r_1,Er,Mh,aexec,aregion,goOn,outOf,h19,hb,EVT,EVD,↓reduceIte,Nat.reduceEqDiff,reduceCtorEq,Nat.reduceAdd,Nat.reduceLeDiff,ne_eq,Nat.reduceLT,Int.reduceLT,Int.reduceLE,Int.reduceNeg]
  rfl
end Go.Proofs.YtannopdcbocngaaGreatDoor
namespace Go.Proofs.YtannopdcbocngaaGreatDoor
open Go Go.Abs Go.RowKit Go.Shelf
theorem repP_mono' {w w':World} {saf saf':Nat→Nat→Prop} (h:∀b off v,saf b off→w.cell? ⟨b,off,none⟩=some v→saf' b off∧w'.cell? ⟨b,off,none⟩=some v) {x:AVal} {v:Value} (hr:RepP w saf x v):RepP w' saf' x v:=by
 induction hr with
 |bool b=>exact .bool b
 |int k n=>exact .int k n
 |str s=>exact .str s
 |raw v h1=>exact .raw v h1
 |slice xs A len cap b off sz vs hl hc ha hz hs hr ih =>
  refine .slice xs A len cap b off sz vs hl hc ha hz (fun i x k c hx hk=>?_) (fun i x k c hx hk=>ih i x k c hx hk)
  obtain ⟨e,s⟩:=hs i x k c hx hk
  obtain ⟨s',e'⟩:=h _ _ _ s e
  exact ⟨e',s'⟩
def flatC:AVal→Bool
 | .int .. | .str _ | .bool _ | .slice .. | .any=>true
 |_=>false
def FlatM (M:AMem):Prop:=∀(i:Nat) (bx:ABox),M[i]?=some bx→(∃cs,bx=ABox.cells cs∧∀c,c∈cs→flatC c=true)∨∃sz n,bx=ABox.tick sz n
structure Chg (j:J) (M:AMem) (A B:World) (r:Nat→Prop):Prop where
 size:A.heap.size≤B.heap.size
 blk:∀b,b<A.heap.size→¬r b→B.heap[b]?=A.heap[b]?
 cell:∀b off v,r b→Saf j M A b off→A.cell? ⟨b,off,none⟩≠some v
 rng:∀i b,i<M.length→j i=some b→¬r b
section
variable {j:J} {M:AMem} {A B:World} {r:Nat→Prop}
theorem Chg.saf (c:Chg j M A B r):∀b off v,Saf j M A b off→A.cell? ⟨b,off,none⟩=some v→Saf j M B b off∧B.cell? ⟨b,off,none⟩=some v:=fun b off v hs hv =>
 ⟨⟨Nat.lt_of_lt_of_le hs.lt c.size,hs.ids,hs.nx⟩,by rw [World.cell?_of_block (c.blk b hs.lt fun h=>c.cell b off v h hs hv)]; exact hv⟩
theorem Chg.rep (c:Chg j M A B r) (hr:Rel j M A) {x:AVal} {v:Value} (hx:flatC x=true) (h:Rep j M A x v):Rep j M B x v:=by
 cases h with
 |plain h=>exact .plain (repP_mono' c.saf h)
 |c0 A=>exact .c0 A
 |any v=>exact .any v
 |own hk hn h ht =>
  refine .own hk hn (repP_mono' c.saf h) fun e=>?_
  rcases ht e with h|⟨b,cap,vs,t,h1,h2,h3,h4⟩
  ·exact .inl h
  ·have hlt:=hr.lt _ _ (lt_of_some hk) h1
   exact .inr ⟨b,cap,vs,t,h1,h2,(c.blk b hlt (c.rng _ _ (lt_of_some hk) h1)).trans h3,h4⟩
 |_=>cases hx
theorem Chg.rel (c:Chg j M A B r) (hM:FlatM M) (hr:Rel j M A):Rel j M B where
 inj:=hr.inj
 lt:=fun i b hi hj=>Nat.lt_of_lt_of_le (hr.lt i b hi hj) c.size
 fix:=fun i bx h hf=>by
  obtain ⟨b,h1,h2⟩:=hr.fix i bx h hf
  refine ⟨b,h1,?_⟩
  have hlt:=hr.lt i b (lt_of_some h) h1
  have hb:=c.blk b hlt (c.rng i b (lt_of_some h) h1)
  rcases hM i bx h with ⟨cs,rfl,hcs⟩|⟨sz,n,rfl⟩
  ·obtain ⟨vs,t,h3,h4,h5⟩:=h2
   exact ⟨vs,t,hb.trans h3,h4,fun q x v hx hv=>c.rep hr (hcs x (List.mem_of_getElem? hx)) (h5 q x v hx hv)⟩
  ·trivial
 tick:=fun i sz n b h hj=>by
  obtain ⟨vs,t,h1⟩:=hr.tick i sz n b h hj
  exact ⟨vs,t,(c.blk b (hr.lt i b (lt_of_some h) hj) (c.rng i b (lt_of_some h) hj)).trans h1⟩
 arr:=fun i sz ver xs h=>by
  rcases hM i _ h with ⟨cs,h,_⟩|⟨sz,n,h⟩<;>cases h
 xdis:=hr.xdis
 xlt:=fun b off hx=>Nat.lt_of_lt_of_le (hr.xlt b off hx) c.size
theorem Chg.glob (c:Chg j M A B r) (hG:Glob j M A) (h0:∀b vs,Globs.g b=some vs→¬r b):Glob j M B where
 g:=fun b vs k v hb hk=>let ⟨h1,h2⟩:=hG.g b vs k v hb hk; c.saf b k v h1 h2
 n:=fun b vs hb=>by
  obtain ⟨us,t,fr,h1,h2⟩:=hG.n b vs hb
  exact ⟨us,t,fr,(c.blk b (lt_of_block h1) (h0 b vs hb)).trans h1,h2⟩
 q:=fun b p hb=>by
  obtain ⟨v,h0,h1,h2⟩:=hG.q b p hb
  obtain ⟨h3,h4⟩:=c.saf b 0 v h1 h2
  exact ⟨v,h0,h3,h4⟩
end
theorem flat_Mh (evs:List Event):FlatM (Mh evs):=by
 intro i bx h
 match i,h with
 |0,h=>cases h; exact .inl ⟨_,rfl,fun c hc=>by simp at hc; subst hc; rfl⟩
 |1,h=>cases h; exact .inl ⟨_,rfl,fun c hc=>by simp at hc; subst hc; rfl⟩
 |2,h=>cases h; exact .inl ⟨_,rfl,fun c hc=>by simp at hc; subst hc; rfl⟩
 |3,h=>cases h; exact .inr ⟨_,_,rfl⟩
 |n+4,h=>cases h
def evGo:List BytesL→Option (List Event)
 | []=>some []
 |x::r=>if x=[] then evGo r else if (evOf x).2=true then (evGo r).map ((evOf x).1 :: ·) else none
theorem evGo_app:∀a b:List BytesL,evGo (a++b)=(evGo a).bind fun l=>(evGo b).map (l ++ ·)
 | [],b=>by simp [evGo]
 |x::r,b=>by
  simp only [List.cons_append,evGo]
  split
  ·exact evGo_app r b
  ·split
   ·rw [evGo_app r b]
    cases evGo r with
    |none=>rfl
    |some l=>simp; rfl
   ·rfl
theorem evGo_len:∀ {a:List BytesL} {l:List Event},evGo a=some l→l.length≤a.length
 | [],l,h=>by simp [evGo] at h; subst h; simp
 |x::r,l,h=>by
  simp only [evGo] at h
  split at h
  ·have:=evGo_len h; simp; omega
  ·split at h
   ·obtain ⟨l',h1,rfl⟩:=Option.map_eq_some_iff.1 h
    have:=evGo_len h1; simp; omega
   ·cases h
def rdHist (s:BytesL):List Event×Int:=match evGo (cutL 10 s) with
 |none=>([],11)
 |some l=>if histN l=s then (l,0) else ([],11)
structure InvH (j:J) (w:World) (pre:List BytesL) (evs:List Event) (jx:J) (W:World):Prop where
 go:evGo pre=some evs
 rel:Rel jx (Mh evs) W
 gl:Glob jx (Mh evs) W
 X:∀b off,jx.X b off↔j.X b off∨(w.heap.size+3≤b∧b<w.heap.size+6)
 j0:jx 0=some w.heap.size
 j1:jx 1=some (w.heap.size+1)
 j2:jx 2=some (w.heap.size+2)
 j3:∀b,jx 3=some b→w.heap.size≤b
 below:Below w.heap.size w W
 sz:w.heap.size+6≤W.heap.size
end Go.Proofs.YtannopdcbocngaaGreatDoor
namespace Go.Proofs.YtannopdcbocngaaGreatDoor
open Go Go.Abs Go.RowKit Go.Shelf
theorem cell_none {A:World} {b off:Nat} {o:Obj} (h:A.heap[b]?=some o) (ho:o.isCells=false) (v:Value):A.cell? ⟨b,off,none⟩≠some v:=by
 intro e
 simp only [World.cell?,h] at e
 cases o<;>simp_all [Obj.isCells]
section
variable {j jx:J} {w A B:World} {pre:List BytesL} {evs:List Event}
theorem InvH.cells (hI:InvH j w pre evs jx A):∀i b,i<4→jx i=some b→∃vs t,A.heap[b]?=some (.cells vs t (0,0)):=by
 intro i b hi hj
 match i,hi with
 |0,_=>obtain ⟨b',vs,t,h1,h2,_⟩:=hI.rel.box 0 _ rfl; rw [hj] at h1; cases h1; exact ⟨vs,t,h2⟩
 |1,_=>obtain ⟨b',vs,t,h1,h2,_⟩:=hI.rel.box 1 _ rfl; rw [hj] at h1; cases h1; exact ⟨vs,t,h2⟩
 |2,_=>obtain ⟨b',vs,t,h1,h2,_⟩:=hI.rel.box 2 _ rfl; rw [hj] at h1; cases h1; exact ⟨vs,t,h2⟩
 |3,_=>exact hI.rel.tick 3 _ _ b rfl hj
theorem InvH.chg (hI:InvH j w pre evs jx A) (hG:Glob j [] w) {r:Nat→Prop} (c:Chg jx (Mh evs) A B r) (hr:∀b,r b→w.heap.size≤b) (ho:B.os=A.os) (ht:B.tape=A.tape) (hp:B.output=A.output):InvH j w pre evs jx B where
 go:=hI.go
 rel:=c.rel (flat_Mh evs) hI.rel
 gl:=c.glob hI.gl fun b vs hb hrb=>by
  obtain ⟨us,t,fr,h1,_⟩:=hG.n b vs hb
  have:=lt_of_block h1
  have:=hr b hrb
  omega
 X:=hI.X
 j0:=hI.j0
 j1:=hI.j1
 j2:=hI.j2
 j3:=hI.j3
 below:=⟨ho.trans hI.below.os,ht.trans hI.below.tape,hp.trans hI.below.output,Nat.le_trans hI.below.size c.size,fun k hk=>by
  have:=hI.below.size
  rw [c.blk k (by omega) fun h=>by have:=hr k h; omega]
  exact hI.below.block k hk⟩
 sz:=Nat.le_trans hI.sz c.size
theorem InvH.own (hG:Glob j [] w):OwnFrom (w.heap.size+6) (fun pre W=>∃evs jx,InvH j w pre evs jx W):=by
 rintro s A B row ⟨evs,jx,hI⟩ hg hr
 refine ⟨evs,jx,hI.chg hG (r:=fun b=>some b=row) ⟨hg.size,fun b hb hn=>hg.block b hb hn,?_,?_⟩ ?_ hg.os hg.tape hg.output⟩
 ·intro b off v e _
  obtain ⟨_,o,h1,h2⟩:=hr b e.symm
  exact cell_none h1 h2 v
 ·intro i b hi hj e
  obtain ⟨_,o,h1,h2⟩:=hr b e.symm
  obtain ⟨vs,t,h3⟩:=hI.cells i b hi hj
  rw [h3] at h1; cases h1; cases h2
 ·intro b e
  obtain ⟨h1,_⟩:=hr b e.symm
  omega
theorem InvH.cell (hG:Glob j [] w) (s:List BytesL) (A:World) (v:Value) (h:∃evs jx,InvH j w s evs jx A):∃evs jx,InvH j w s evs jx (A.setCell ⟨w.heap.size+3,0,none⟩ v):=by
 obtain ⟨evs,jx,hI⟩:=h
 have hg:=grownBy_setCell' A (w.heap.size+3) v
 have hX:∀off,jx.X (w.heap.size+3) off:=fun off=>(hI.X _ _).2 (.inr (by omega))
 refine ⟨evs,jx,hI.chg hG (r:=fun b=>b=w.heap.size+3) ⟨hg.size,fun b hb hn=>hg.block b hb (fun e=>hn (by injection e)),?_,?_⟩ ?_ hg.os hg.tape hg.output⟩
 ·rintro b off v rfl hs
  exact absurd (hX off) hs.nx
 ·rintro i b hi hj rfl
  exact hI.rel.xdis i _ hi hj 0 (hX 0)
 ·intro b e; omega
theorem InvH.out {j':J} {M':AMem} {W':World} (hI:InvH j w pre evs jx A) (hx:Ext jx (Mh evs) A j' M' W'):KeepsOthers A W'∧Kp (w.heap.size+3) A W'∧Below w.heap.size w W':=by
 have hold:∀b,b<A.heap.size→(∀vs t,A.heap[b]?≠some (.cells vs t (0,0)))→W'.heap[b]?=A.heap[b]?:=fun b hb hn=>(hx.old b hb fun i hi hj=>by
  obtain ⟨vs,t,h⟩:=hI.cells i b hi hj
  exact hn vs t h).1
 have hXb:∀b,w.heap.size+3≤b→b<w.heap.size+6→W'.heap[b]?=A.heap[b]?:=fun b h1 h2=>(hx.old b (by have:=hI.sz; omega) fun i hi hj=>hI.rel.xdis i b hi hj 0 ((hI.X b 0).2 (.inr ⟨h1,h2⟩))).1
 refine ⟨⟨hx.size,fun k o hk ho=>?_⟩,⟨hXb _ (by omega) (by omega),hXb _ (by omega) (by omega),hXb _ (by omega) (by omega)⟩,⟨hx.os.trans hI.below.os,hx.tape.trans hI.below.tape,hx.output.trans hI.below.output,Nat.le_trans hI.below.size hx.size,fun k hk=>?_⟩⟩
 ·rw [hold k (lt_of_block hk) fun vs t h=>by rw [hk] at h; cases h; cases ho]
  exact hk
 ·have:=hI.below.size
  rw [(hx.old k (by omega) fun i hi hj=>?_).1]
  ·exact hI.below.block k hk
  ·match i,hi with
   |0,_=>rw [hI.j0] at hj; injection hj with hj; omega
   |1,_=>rw [hI.j1] at hj; injection hj with hj; omega
   |2,_=>rw [hI.j2] at hj; injection hj with hj; omega
   |3,_=>have:=hI.j3 k hj; omega
theorem backM_Mh (evs:List Event) (m:AMem):backM 4 (Mh evs++m)=Mh evs:=rfl
theorem InvH.round {j':J} {m:AMem} {W':World} {evs':List Event} {x:BytesL} (hI:InvH j w pre evs jx A) (hgo:evGo (pre++[x])=some evs') (hr:Rel j' (Mh evs'++m) W') (hx:Ext jx (Mh evs) A j' (Mh evs'++m) W') :
  InvH j w (pre++[x]) evs' j' W':=by
 have hb:Rel j' (backM 4 (Mh evs'++m)) W':=back_rel (by simp [Mh]) hr
 have hx4:Ext jx (Mh evs) A j' (backM 4 (Mh evs'++m)) W':=back_ext (by simp [Mh]) rfl hx
 rw [backM_Mh] at hb hx4
 obtain ⟨_,_,hbel⟩:=hI.out hx
 refine ⟨hgo,hb,hI.gl.mono hx4,fun b off=>by rw [hx.X]; exact hI.X b off,?_,?_,?_,?_,hbel,Nat.le_trans hI.sz hx.size⟩
 ·rw [(hx.fix 0 _ rfl rfl).1]; exact hI.j0
 ·rw [(hx.fix 1 _ rfl rfl).1]; exact hI.j1
 ·rw [(hx.fix 2 _ rfl rfl).1]; exact hI.j2
 ·intro b hb3
  rcases Nat.lt_or_ge b w.heap.size with h|h
  ·exfalso
   have:=hI.below.size
   refine (hx4.old b (by omega) fun i hi hj=>?_).2 3 (by simp [Mh]) hb3
   match i,hi with
   |0,_=>rw [hI.j0] at hj; injection hj with hj; omega
   |1,_=>rw [hI.j1] at hj; injection hj with hj; omega
   |2,_=>rw [hI.j2] at hj; injection hj with hj; omega
   |3,_=>have:=hI.j3 b hj; omega
  ·exact h
end
structure OutH (w:World) (c:Code) (pre:List BytesL) (W:World):Prop where
 ret:c = .ret
 bad:evGo pre=none
 r0:∃A t,W.heap[w.heap.size]?=some (.cells #[.slice A 0 0] t (0,0))
 r1:∃t,W.heap[w.heap.size+1]?=some (.cells #[.int .i64 11] t (0,0))
 below:Below w.heap.size w W
theorem OutH.own {w:World} (c:Code):OwnFrom (w.heap.size+6) (OutH w c):=by
 intro s A B row hs hg hr
 have hk:∀(b:Nat) (vs:Array Value) (t:TypeId),A.heap[b]?=some (Obj.cells vs t (0,0))→B.heap[b]?=some (Obj.cells vs t (0,0)):=fun b vs t h=>by
  rw [hg.block b (lt_of_block h) fun e=>by
   obtain ⟨_,o,h1,h2⟩:=hr b e.symm
   rw [h] at h1; cases h1; cases h2]
  exact h
 obtain ⟨A0,t0,h0⟩:=hs.r0
 obtain ⟨t1,h1⟩:=hs.r1
 refine ⟨hs.ret,hs.bad,⟨A0,t0,hk _ _ _ h0⟩,⟨t1,hk _ _ _ h1⟩,⟨hg.os.trans hs.below.os,hg.tape.trans hs.below.tape,hg.output.trans hs.below.output,Nat.le_trans hs.below.size hg.size,fun k hk'=>?_⟩⟩
 have:=hs.below.size
 rw [hg.block k (by omega) fun e=>by obtain ⟨h2,_⟩:=hr k e.symm; omega]
 exact hs.below.block k hk'
end Go.Proofs.YtannopdcbocngaaGreatDoor
namespace Go.Proofs.YtannopdcbocngaaGreatDoor
open Go Go.Abs Go.RowKit Go.Shelf
attribute [local go_sem] Oper.semAt_some
abbrev seqW (w:World) (s:BytesL):World:=((w.alloc (.cells #[.string (bs s)] 9)).alloc (.cells #[.string ⟨#[10]⟩] 9)).alloc (.cells #[.int .i64 0] 3)
abbrev seqV (h:Nat):Value := .func (.func 140) #[] #[.pointer (some ⟨h+1,0,none⟩),.pointer (some ⟨h,0,none⟩),.pointer (some ⟨h+2,0,none⟩)]
set_option maxHeartbeats 1000000 in
theorem seq99 (n:Nat) (s:BytesL) (w:World) :
  CallsIn Fence.wide n Tryz.prog 99 #[.string (bs s),.string ⟨#[10]⟩,.int .i64 0] w fun e w'=>e = .returned (seqV w.heap.size)∧w'=seqW w s:=by
 refine callsIn_of_wp Tryz.func99 rfl trivial ?_ rfl
 simp only [Tryz.ntmps99,List.size_toArray,List.length_cons,List.length_nil,Nat.reduceAdd,Nat.reduceSub,Array.replicate_succ,Array.replicate_zero,List.push_toArray,List.append_toArray,List.nil_append,List.cons_append]
 gi_wp2
 go_ret
 simp [seqV,seqW]
set_option maxHeartbeats 1000000 in
theorem seq67 (n:Nat) (s:BytesL) (w:World) :
  CallsIn Fence.wide n Tryz.prog 67 #[.string (bs s),.string ⟨#[10]⟩] w fun e w'=>e = .returned (seqV w.heap.size)∧w'=seqW w s:=by
 refine callsIn_of_wp Tryz.func67 rfl trivial ?_ rfl
 simp only [Tryz.ntmps67,List.size_toArray,List.length_cons,List.length_nil,Nat.reduceAdd,Nat.reduceSub,Array.replicate_succ,Array.replicate_zero,List.push_toArray,List.append_toArray,List.nil_append,List.cons_append]
 gi_wp2
 refine ⟨trivial,fun h=>(by cases h),(seq99 _ s _).mono ?_⟩
 rintro e w' ⟨rfl,rfl⟩
 gi_wp2
 go_ret
 exact ⟨rfl,rfl⟩
abbrev startW (w:World) (s:BytesL):World:=seqW (((w.alloc (.cells #[.slice none 0 0] 29)).alloc (.cells #[.int .i64 0] 25)).alloc (.cells #[.slice none 0 0] 29)) s
theorem startW_boxes (w:World) (s:BytesL):(startW w s).heap.size=w.heap.size+6∧Boxed (startW w s) w.heap.size 29 (.slice none 0 0)∧Boxed (startW w s) (w.heap.size+1) 25 (.int .i64 0)∧Boxed (startW w s) (w.heap.size+2) 29 (.slice none 0 0) ∧
  Boxed (startW w s) (w.heap.size+3) 9 (.string (bs s))∧Boxed (startW w s) (w.heap.size+4) 9 (.string ⟨#[10]⟩)∧Boxed (startW w s) (w.heap.size+5) 3 (.int .i64 0)∧Below w.heap.size w (startW w s):=by
 have b0:=Boxed.new w 29 (.slice none 0 0)
 have b1:=Boxed.new (w.alloc (.cells #[.slice none 0 0] 29)) 25 (.int .i64 0)
 have b2:=Boxed.new ((w.alloc (.cells #[.slice none 0 0] 29)).alloc (.cells #[.int .i64 0] 25)) 29 (.slice none 0 0)
 have b3:=Boxed.new (((w.alloc (.cells #[.slice none 0 0] 29)).alloc (.cells #[.int .i64 0] 25)).alloc (.cells #[.slice none 0 0] 29)) 9 (.string (bs s))
 have b4:=Boxed.new ((((w.alloc (.cells #[.slice none 0 0] 29)).alloc (.cells #[.int .i64 0] 25)).alloc (.cells #[.slice none 0 0] 29)).alloc (.cells #[.string (bs s)] 9)) 9 (.string ⟨#[10]⟩)
 have b5:=Boxed.new (((((w.alloc (.cells #[.slice none 0 0] 29)).alloc (.cells #[.int .i64 0] 25)).alloc (.cells #[.slice none 0 0] 29)).alloc (.cells #[.string (bs s)] 9)).alloc (.cells #[.string ⟨#[10]⟩] 9)) 3 (.int .i64 0)
 simp only [World.size_alloc] at b1 b2 b3 b4 b5
 refine ⟨by simp [startW,seqW],((((b0.alloc _).alloc _).alloc _).alloc _).alloc _,(((b1.alloc _).alloc _).alloc _).alloc _,((b2.alloc _).alloc _).alloc _,(b3.alloc _).alloc _,b4.alloc _,b5,?_⟩
 have hB2:Below w.heap.size w ((w.alloc (.cells #[.slice none 0 0] 29)).alloc (.cells #[.int .i64 0] 25)):=((Below.refl _ w).alloc (Nat.le_refl _) _).alloc (by simp) _
 exact (((hB2.alloc (by simp; omega) _).alloc (by simp; omega) _).alloc (by simp; omega) _).alloc (by simp; omega) _
def jS (j:J) (h:Nat):J:=⟨fun i=>match i with|0=>some h|1=>some (h+1)|2=>some (h+2)|_=>none,fun b off=>j.X b off∨(h+3≤b∧b<h+6)⟩
theorem jS_at {j:J} {h i b:Nat} (hj:jS j h i=some b):b=h+i∧i<3:=by
 match i,hj with
 |0,hj=>simp [jS] at hj; omega
 |1,hj=>simp [jS] at hj; omega
 |2,hj=>simp [jS] at hj; omega
 |n+3,hj=>cases hj
theorem InvH.start {j:J} {w:World} (hr:Rel j [] w) (hG:Glob j [] w) (s:BytesL):InvH j w [] [] (jS j w.heap.size) (startW w s):=by
 obtain ⟨hsz,b0,b1,b2,_,_,_,hB⟩:=startW_boxes w s
 generalize startW w s=W at hsz b0 b1 b2 hB
 refine ⟨rfl,?_,?_,fun b off=>Iff.rfl,rfl,rfl,rfl,fun b h=>(by cases h),hB,by omega⟩
 ·refine ⟨?_,?_,?_,?_,?_,?_,?_⟩
  ·intro i i' b hi hi' h1 h2
   have:=jS_at h1; have:=jS_at h2; omega
  ·intro i b hi h1
   have:=jS_at h1; omega
  ·intro i bx h hf
   match i,h with
   |0,h=>cases h; exact ⟨_,rfl,_,_,b0,rfl,fun q c v hc hv=>by
     match q,hc,hv with
     |0,hc,hv=>cases hc; cases hv; exact .c0 _
     |q+1,hc,hv=>cases hc⟩
   |1,h=>cases h; exact ⟨_,rfl,_,_,b1,rfl,fun q c v hc hv=>by
     match q,hc,hv with
     |0,hc,hv=>cases hc; cases hv; exact .plain (.int _ _)
     |q+1,hc,hv=>cases hc⟩
   |2,h=>cases h; exact ⟨_,rfl,_,_,b2,rfl,fun q c v hc hv=>by
     match q,hc,hv with
     |0,hc,hv=>cases hc; cases hv; exact .own (sz:=17) (n:=0) rfl (Nat.le_refl _) (RepP.nil _ _ _) fun _ => .inl ⟨rfl,rfl,_,rfl⟩
     |q+1,hc,hv=>cases hc⟩
   |3,h=>cases h; cases hf
  ·intro i sz n b h hj
   match i,h with
   |3,h=>cases hj
  ·intro i sz ver xs h
   match i,h with
   |n+4,h=>cases h
  ·intro i b hi h1 off hx
   have hx':j.X b off∨(w.heap.size+3≤b∧b<w.heap.size+6):=hx
   have:=jS_at h1
   rcases hx' with h|h
   ·have:=hr.xlt b off h; omega
   ·omega
  ·intro b off hx
   have hx':j.X b off∨(w.heap.size+3≤b∧b<w.heap.size+6):=hx
   rcases hx' with h|h
   ·have:=hr.xlt b off h; omega
   ·omega
 ·have key:∀b off,Saf j [] w b off→Saf (jS j w.heap.size) (Mh []) W b off:=fun b off h=>by
   have hlt:=h.lt
   refine ⟨by omega,fun id hid hj=>?_,fun hx=>?_⟩
   ·have:=jS_at hj; omega
   ·have hx':j.X b off∨(w.heap.size+3≤b∧b<w.heap.size+6):=hx
    rcases hx' with h'|h'
    ·exact h.nx h'
    ·omega
  have kc:∀b off,b<w.heap.size→W.cell? ⟨b,off,none⟩=w.cell? ⟨b,off,none⟩:=fun b off h=>World.cell?_of_block (hB.block b h)
  refine ⟨fun b vs k v hb hk=>?_,fun b vs hb=>?_,fun b p hb=>?_⟩
  ·obtain ⟨h1,h2⟩:=hG.g b vs k v hb hk
   exact ⟨key _ _ h1,(kc _ _ h1.lt).trans h2⟩
  ·obtain ⟨us,t,fr,h1,h2⟩:=hG.n b vs hb
   exact ⟨us,t,fr,(hB.block b (lt_of_block h1)).trans h1,h2⟩
  ·obtain ⟨v,h0,h1,h2⟩:=hG.q b p hb
   exact ⟨v,h0,key _ _ h1,(kc _ _ h1.lt).trans h2⟩
theorem Kp.trans {b0:Nat} {A B C:World} (h:Kp b0 A B) (k:Kp b0 B C):Kp b0 A C:=⟨k.k0.trans h.k0,k.k1.trans h.k1,k.k2.trans h.k2⟩
abbrev actB (w:World) (s x:BytesL):Act:={ tmps := #[.string (bs s),undef,.pointer (some ⟨w.heap.size,0,none⟩),.pointer (some ⟨w.heap.size+1,0,none⟩),.pointer (some ⟨w.heap.size+1+1,0,none⟩),.string (bs x),undef,undef,.string (bs s),seqV (w.heap.size+1+1+1),.string (bs x),
   undef,undef,undef,undef,undef,undef,undef,undef,undef,undef,undef,undef,undef,undef,undef,undef,undef,undef],defers:=[] }
theorem envB {j jx:J} {w W:World} {pre:List BytesL} {evs:List Event} (hI:InvH j w pre evs jx W) (s x:BytesL):EnvRep jx (Mh evs) W (Eh s x) (actB w s x):=by
 refine ⟨fun t=>?_,hI.gl⟩
 match t with
 |0=>exact .plain (.str s)
 |1=>exact .any _
 |2=>exact .ptr (by simp [Mh]) ⟨_,rfl⟩ hI.j0
 |3=>exact .ptr (by simp [Mh]) ⟨_,rfl⟩ hI.j1
 |4=>exact .ptr (by simp [Mh]) ⟨_,rfl⟩ hI.j2
 |5=>exact .plain (.str x)
 |t+6 =>
  have:getS (Eh s x) (t+6) = .any:=by simp [Eh,getS]
  rw [this]; exact .any _
theorem evGo_ok:∀ {a:List BytesL} {l:List Event},evGo a=some l→(∀x,x∈a→x.length≤900000)→∀e,e∈l→EvOk e
 | [],l,h,_,e,he=>by simp [evGo] at h; subst h; cases he
 |x::r,l,h,hb,e,he=>by
  simp only [evGo] at h
  split at h
  ·exact evGo_ok h (fun y hy=>hb y (List.mem_cons_of_mem _ hy)) e he
  ·split at h
   ·obtain ⟨l',h1,rfl⟩:=Option.map_eq_some_iff.1 h
    rcases List.mem_cons.1 he with rfl|he
    ·exact evOf_ok (hb x (by simp))
    ·exact evGo_ok h1 (fun y hy=>hb y (List.mem_cons_of_mem _ hy)) e he
   ·cases h
theorem evGo_pre {a l:List BytesL} (h:a <+: l) (hn:evGo a=none):evGo l=none:=by
 obtain ⟨b,rfl⟩:=h
 rw [evGo_app,hn]; rfl
theorem mix28:Tryz.prog.follows .mixedOrders=true:=by kernel_rfl
theorem roundH {j jx:J} {w W:World} {pre:List BytesL} {evs:List Event} (l nd:Nat) (s x:BytesL) (hx:x.length≤900000) (hne:evs.length≤1000000) (hI:InvH j w pre evs jx W) :
  (rfB Tryz.f28).wpIn (Wd (some l)) nd Tryz.prog (fun e a' W'=>KeepsOthers W W'∧((e = .normal∧Kp (w.heap.size+3) W W'∧∃evs jx,InvH j w (pre++[x]) evs jx W')∨(e = .ret∧OutH w .ret (pre++[x]) W'))) (actB w s x) W:=by
 by_cases h0:x=[]
 ·subst h0
  obtain ⟨env,hex⟩:=round_skip s evs
  refine wpIn_mono (code_sound (rd:=some l) (nd:=nd) mix28 sound (rfB Tryz.f28) ok28b hex hI.rel hI.gl (envB hI s []) rfl) ?_
  rintro e a' W' ⟨rfl,_,_,j',hr',_,hx'⟩
  obtain ⟨k1,k2,k3⟩:=hI.out hx'
  refine ⟨k1,.inl ⟨rfl,k2,evs,j',?_⟩⟩
  refine InvH.round (m:=[]) hI ?_ (by rw [List.append_nil]; exact hr') (by rw [List.append_nil]; exact hx')
  rw [evGo_app,hI.go]; simp [evGo]
 ·cases hb:(evOf x).2 with
  |false =>
   obtain ⟨env,m,hex⟩:=round_bad s x evs h0 hx hb
   refine wpIn_mono (code_sound (rd:=some l) (nd:=nd) mix28 sound (rfB Tryz.f28) ok28b hex hI.rel hI.gl (envB hI s x) rfl) ?_
   rintro e a' W' ⟨rfl,_,_,j',hr',_,hx'⟩
   obtain ⟨k1,k2,k3⟩:=hI.out hx'
   have hj0:j' 0=some w.heap.size:=(hx'.fix 0 _ rfl rfl).1.trans hI.j0
   have hj1:j' 1=some (w.heap.size+1):=(hx'.fix 1 _ rfl rfl).1.trans hI.j1
   refine ⟨k1,.inr ⟨rfl,rfl,?_,?_,?_,k3⟩⟩
   ·rw [evGo_app,hI.go]; simp [evGo,h0,hb]
   ·obtain ⟨b,vs,t,h1,h2,h3,h4⟩:=hr'.box 0 _ rfl
    rw [hj0] at h1; cases h1
    obtain ⟨vs⟩:=vs
    match vs,h3 with
    | [v],_ =>
     have:=h4 0 _ v rfl rfl
     cases this with
     |plain h=>cases h
     |c0 A=>exact ⟨A,t,h2⟩
   ·obtain ⟨b,vs,t,h1,h2,h3,h4⟩:=hr'.box 1 _ rfl
    rw [hj1] at h1; cases h1
    obtain ⟨vs⟩:=vs
    match vs,h3 with
    | [v],_ =>
     have:=h4 0 _ v rfl rfl
     cases this with
     |plain h=>cases h; exact ⟨t,h2⟩
  |true =>
   obtain ⟨env,m,hex⟩:=round_good s x evs h0 hx hb hne
   refine wpIn_mono (code_sound (rd:=some l) (nd:=nd) mix28 sound (rfB Tryz.f28) ok28b hex hI.rel hI.gl (envB hI s x) rfl) ?_
   rintro e a' W' ⟨rfl,_,_,j',hr',_,hx'⟩
   obtain ⟨k1,k2,k3⟩:=hI.out hx'
   refine ⟨k1,.inl ⟨rfl,k2,_,j',InvH.round hI ?_ hr' hx'⟩⟩
   rw [evGo_app,hI.go]; simp [evGo,h0,hb]
theorem boxed_put {W:World} {B D:Nat} {t:TypeId} {v:Value} {x:Option (List Deferred)} {o:Obj} (h:Boxed W B t v) (hD:W.heap[D]?=some (.deferred x)):Boxed (W.putObj D o) B t v :=
 (World.putObj_heap_other (fun e=>by subst e; rw [show W.heap[B]?=_ from h] at hD; cases hD)).trans h
theorem below_put {w W:World} {D:Nat} {o:Obj} (h:Below w.heap.size w W) (hD:w.heap.size≤D):Below w.heap.size w (W.putObj D o) :=
 ⟨h.os,h.tape,h.output,by simpa [World.putObj] using h.size,fun k hk=>(World.putObj_heap_other (by omega)).trans (h.block k hk)⟩
theorem results28 {W:World} {b:Nat} {v u:Value} {t t':TypeId} {tmps:Array Value} (h2:tmps[2]?=some (.pointer (some ⟨b,0,none⟩))) (h3:tmps[3]?=some (.pointer (some ⟨b+1,0,none⟩))) (hv:Boxed W b t v) (hu:Boxed W (b+1) t' u):(results Tryz.f28 tmps).run Tryz.prog W = .ok (.tuple #[v,u]) W:=by
 have c0:=hv.cell
 have c1:=hu.cell
 simp [results,Tryz.f28,go_sem,c0,c1,h2,h3]
theorem leaves_mark {F:Fence} {n:Nat} {P:Program} {fn:Func} {tmps:Array Value} {R:Ending→World→Prop} {D:Nat} {W W':World} {v:Value} (hD:(Instr.takeDeferred D).run P W = .ok [] W') (hv:(results fn tmps).run P W' = .ok v W') (hR:R (.returned v) W') :
  LeavesInM F n P fn tmps R [{ target := .collected D,args := #[] }] .returning W :=
 ⟨by simp,.inl ⟨D,W',rfl,hD,⟨v,hv,hR⟩⟩⟩
abbrev actR (w:World) (s:BytesL) (ds:List Deferred):Act:={ tmps := #[.string (bs s),undef,.pointer (some ⟨w.heap.size,0,none⟩),.pointer (some ⟨w.heap.size+1,0,none⟩),.pointer (some ⟨w.heap.size+1+1,0,none⟩),undef,undef,undef,.string (bs s),seqV (w.heap.size+1+1+1),undef,
   undef,undef,undef,undef,undef,undef,undef,undef,undef,undef,undef,undef,undef,undef,undef,undef,undef,undef],defers:=ds }
theorem envR {j jx:J} {w W:World} {pre:List BytesL} {evs:List Event} (hI:InvH j w pre evs jx W) (s:BytesL) (ds:List Deferred):EnvRep jx (Mh evs) W (Er s) (actR w s ds):=by
 refine ⟨fun t=>?_,hI.gl⟩
 match t with
 |0=>exact .plain (.str s)
 |1=>exact .any _
 |2=>exact .ptr (by simp [Mh]) ⟨_,rfl⟩ hI.j0
 |3=>exact .ptr (by simp [Mh]) ⟨_,rfl⟩ hI.j1
 |4=>exact .ptr (by simp [Mh]) ⟨_,rfl⟩ hI.j2
 |t+5 =>
  have:getS (Er s) (t+5) = .any:=by simp [Er,getS]
  rw [this]; exact .any _
theorem finH {j jx j':J} {w W W':World} {pre:List BytesL} {evs:List Event} {tk:Tk} {l:List AVal} {er:Int} {m:AMem} (hI:InvH j w pre evs jx W) (hr:Rel j' (.cells [.slice tk l] :: .cells [.int .i64 er]::m) W') (hx:Ext jx (Mh evs) W j' (.cells [.slice tk l] :: .cells [.int .i64 er]::m) W') :
  ∃v t t',Boxed W' w.heap.size t v∧Boxed W' (w.heap.size+1) t' (.int .i64 er)∧∀D:Nat,W'.heap[D]?=some (.deferred (some []))→Rep j [] (W'.putObj D (.deferred none)) (.tuple [.slice .sh l,eI er]) (.tuple #[v,.int .i64 er]):=by
 have hj0:j' 0=some w.heap.size:=(hx.fix 0 _ rfl rfl).1.trans hI.j0
 have hj1:j' 1=some (w.heap.size+1):=(hx.fix 1 _ rfl rfl).1.trans hI.j1
 obtain ⟨b,vs,t,h1,h2,h3,h4⟩:=hr.box 0 _ rfl
 rw [hj0] at h1; cases h1
 obtain ⟨b',us,t',g1,g2,g3,g4⟩:=hr.box 1 _ rfl
 rw [hj1] at g1; cases g1
 obtain ⟨vs⟩:=vs
 obtain ⟨us⟩:=us
 match vs,us,h3,g3 with
 | [v],[u],_,_ =>
  have r0:=h4 0 _ v rfl rfl
  have r1:=g4 0 _ u rfl rfl
  have hu:u = .int .i64 er:=by
   cases r1 with
   |plain h=>cases h; rfl
  subst hu
  refine ⟨v,t,t',h2,g2,fun D hD => .tuple rfl fun i c x hc hv=>?_⟩
  match i,hc,hv with
  |0,hc,hv =>
   cases hc; cases hv
   refine .plain (repP_mono' ?_ r0.slice_inv)
   intro b off x hs hc
   have hne:b≠D:=fun e=>by subst e; exact cell_none hD rfl x hc
   refine ⟨⟨?_,fun id hid=>absurd hid (by simp),fun hX=>hs.nx (by rw [hx.X]; exact (hI.X b off).2 (.inl hX))⟩,?_⟩
   ·simpa [World.putObj] using hs.lt
   ·rw [World.cell?_of_block (World.putObj_heap_other hne)]; exact hc
  |1,hc,hv=>cases hc; cases hv; exact .plain (.int _ _)
  |i+2,hc,hv=>cases hc
theorem env_ptr {j:J} {M:AMem} {W:World} {env:Env} {a:Act} {t id h:Nat} (he:EnvRep j M W env a) (hs:a.tmps.size=29) (ht:t<29) (hg:getS env t = .ptr id 0) (hj:j id=some h):a.tmps[t]?=some (.pointer (some ⟨h,0,none⟩)):=by
 have h1:=he.at' t
 rw [hg] at h1
 obtain ⟨b,_,_,h2,h3⟩:=h1.ptr_inv
 rw [hj] at h2; cases h2
 rw [Array.getElem?_eq_getElem (by omega)]
 rw [←h3]
 simp [Array.getD,hs,ht]
set_option maxRecDepth 100000 in
set_option maxHeartbeats 2000000 in
theorem readHist_in (n:Nat) (hn:8≤n) (s:BytesL) (hs:s.length≤900000) (hN:(cutL 10 s).length≤100000) (j:J) (w:World) (hr:Rel j [] w) (hG:Glob j [] w) :
  CallsIn Fence.wide n Tryz.prog 28 #[.string (bs s)] w fun e W'=>∃v,e = .returned v∧Below w.heap.size w W'∧Rep j [] W' (.tuple [.slice .sh ((rdHist s).1.map eEv),eI (rdHist s).2]) v:=by
 have h1:1≤n:=by omega
 refine callsIn_of_wp_marks Tryz.func28 rfl trivial ?_ rfl
 simp only [Tryz.ntmps28,List.size_toArray,List.length_cons,List.length_nil,Nat.reduceAdd,Nat.reduceSub,Array.replicate_succ,Array.replicate_zero,List.push_toArray,List.append_toArray,List.nil_append,List.cons_append]
 gi_wp2
 refine ⟨trivial,(seq67 _ s _).mono ?_⟩
 rintro e w' ⟨rfl,rfl⟩
 gi_wp2
 rename_i Q0 K0 hK0
 obtain ⟨hsz,e0,e1,e2,b0,b1,b2,hB⟩:=startW_boxes w s
 have hst:=InvH.start hr hG s
 change Code.wpIn Fence.wide n Tryz.prog _ _ _ (startW w s)
 generalize startW w s=W4 at hsz e0 e1 e2 b0 b1 b2 hB hst ⊢
 have hpl:∀x,x∈cutL 10 s→x.length≤900000:=fun x hx=>Nat.le_trans (cutL_mem 10 s x hx) hs
 have hseq:SeqStopsC (w.heap.size+3) Fence.wide (n-1) Tryz.prog 140 #[.pointer (some ⟨w.heap.size+3+1,0,none⟩),.pointer (some ⟨w.heap.size+3,0,none⟩),.pointer (some ⟨w.heap.size+3+2,0,none⟩)] encS (Kp (w.heap.size+3)) (fun xs=>xs.map (·.1)=cutL 10 s) (fun pre=>pre.map (·.1) <+: cutL 10 s) (cutL 10 s).length W4 :=
  fun l J Jx W hW hJ hJx hJc hY h0=>iter140 (n-1) (by omega) l _ _ s (Nat.le_refl _) hs J Jx W hJ hJc hY ((hW.block _ (by omega)).trans b0) ((hW.block _ (by omega)).trans b1) ((hW.block _ (by omega)).trans b2) h0
 refine wpIn_rangeFunc_ownC (b0:=w.heap.size+3) (by omega) rfl h1 (gf:=140) (lb := #[.pointer (some ⟨w.heap.size+3+1,0,none⟩),.pointer (some ⟨w.heap.size+3,0,none⟩),.pointer (some ⟨w.heap.size+3+2,0,none⟩)]) rfl trivial (enters_of Tryz.func140 (by kernel_rfl) rfl) hseq
  Kp.trans (fun W l o o' hl _ _ _=>⟨World.putObj_heap_other (by omega),World.putObj_heap_other (by omega),World.putObj_heap_other (by omega)⟩) (Below.refl _ _) (fun _=>rfl)
  (fun pre W=>∃evs jx,InvH j w (pre.map (·.1)) evs jx W) (fun c pre W=>OutH w c (pre.map (·.1)) W) (by rw [hsz]; exact fun s A B row h hg hr=>InvH.own hG (s.map (·.1)) A B row h hg hr) (fun c=>by rw [hsz]; exact fun s A B row h hg hr=>OutH.own c (s.map (·.1)) A B row h hg hr) (fun s A v h=>InvH.cell hG (s.map (·.1)) A v h)
  ⟨_,_,hst⟩
  (fun x=>{ tmps := #[.string (bs s),undef,.pointer (some ⟨w.heap.size,0,none⟩),.pointer (some ⟨w.heap.size+1,0,none⟩),.pointer (some ⟨w.heap.size+1+1,0,none⟩),.string (bs x.1),undef,undef,.string (bs s),seqV (w.heap.size+1+1+1),.string (bs x.1),
   undef,undef,undef,undef,undef,undef,undef,undef,undef,undef,undef,undef,undef,undef,undef,undef,undef,undef],defers:=[] }) ?assign ?body ?done ?stop
 case assign =>
  intro l x W K hK
  gi_wp2
  exact hK
 case body =>
  rintro l pre ⟨x,hx⟩ W ⟨evs,jx,hI⟩ hlt
  have hle:=evGo_len hI.go
  refine wpIn_mono (c:=rfB Tryz.f28) (roundH l (n-1-1) s x hx (by simp at hle; omega) hI) ?_
  rintro e a' W' ⟨k1,⟨rfl,k2,k3⟩|⟨rfl,k2⟩⟩
  ·exact ⟨k1,k2,by simpa using k3⟩
  ·exact ⟨k1,by simpa using k2⟩
 case done =>
  rintro D xs W hD hS ⟨evs,jx,hI⟩ hm
  refine hK0 _ _ ?_
  have hok:=evGo_ok hI.go (fun x hx=>by
   obtain ⟨y,_,rfl⟩:=List.mem_map.1 hx
   exact y.2)
  have hle:=evGo_len hI.go
  have hgo:=hI.go
  rw [hS] at hgo hle
  by_cases hh:histN evs=s
  ·have hrd:rdHist s=(evs,0):=by unfold rdHist; rw [hgo]; simp [hh]
   obtain ⟨m,hex⟩:=rest_ok s evs hok (by omega) hh
   refine wpIn_mono (c:=rfR Tryz.f28) (code_sound (rd:=none) (nd:=n) mix28 sound (rfR Tryz.f28) ok28r hex hI.rel hI.gl (envR hI s _) rfl) ?_
   rintro e a' W' ⟨rfl,hsz',hdf,j',hr',hE',hx'⟩
   obtain ⟨k1,k2,k3⟩:=hI.out hx'
   obtain ⟨v,t,t',f1,f2,f3⟩:=finH hI hr' hx'
   have hm':=k1.same D _ hm rfl
   have hj0:j' 0=some w.heap.size:=(hx'.fix 0 _ rfl rfl).1.trans hI.j0
   have hj1:j' 1=some (w.heap.size+1):=(hx'.fix 1 _ rfl rfl).1.trans hI.j1
   have t2:=env_ptr hE' hsz' (t:=2) (by decide) rfl hj0
   have t3:=env_ptr hE' hsz' (t:=3) (by decide) rfl hj1
   change LeavesInM Fence.wide n _ _ a'.tmps _ a'.defers .returning W'
   rw [hdf]
   refine leaves_mark (run_takeDeferred hm') (results28 t2 t3 (boxed_put f1 hm') (boxed_put f2 hm')) ⟨_,rfl,below_put k3 (by omega),?_⟩
   rw [hrd]
   exact f3 D hm'
  ·have hrd:rdHist s=([],11):=by unfold rdHist; rw [hgo]; simp [hh]
   obtain ⟨m,hex⟩:=rest_bad s evs hok (by omega) hh
   refine wpIn_mono (c:=rfR Tryz.f28) (code_sound (rd:=none) (nd:=n) mix28 sound (rfR Tryz.f28) ok28r hex hI.rel hI.gl (envR hI s _) rfl) ?_
   rintro e a' W' ⟨rfl,hsz',hdf,j',hr',hE',hx'⟩
   obtain ⟨k1,k2,k3⟩:=hI.out hx'
   obtain ⟨v,t,t',f1,f2,f3⟩:=finH hI hr' hx'
   have hm':=k1.same D _ hm rfl
   have hj0:j' 0=some w.heap.size:=(hx'.fix 0 _ rfl rfl).1.trans hI.j0
   have hj1:j' 1=some (w.heap.size+1):=(hx'.fix 1 _ rfl rfl).1.trans hI.j1
   have t2:=env_ptr hE' hsz' (t:=2) (by decide) rfl hj0
   have t3:=env_ptr hE' hsz' (t:=3) (by decide) rfl hj1
   change LeavesInM Fence.wide n _ _ a'.tmps _ a'.defers .returning W'
   rw [hdf]
   refine leaves_mark (run_takeDeferred hm') (results28 t2 t3 (boxed_put f1 hm') (boxed_put f2 hm')) ⟨_,rfl,below_put k3 (by omega),?_⟩
   rw [hrd]
   exact f3 D hm'
 case stop =>
  rintro D c pre W hD hpre hOut hm
  obtain rfl:=hOut.ret
  have hrd:rdHist s=([],11):=by unfold rdHist; rw [evGo_pre hpre hOut.bad]
  obtain ⟨A0,t0,f1⟩:=hOut.r0
  obtain ⟨t1,f2⟩:=hOut.r1
  gi_wp2
  refine leaves_mark (run_takeDeferred hm) (results28 rfl rfl (boxed_put f1 hm) (boxed_put f2 hm)) ⟨_,rfl,below_put hOut.below (by omega),?_⟩
  refine .tuple rfl fun i c x hc hv=>?_
  match i,hc,hv with
  |0,hc,hv=>cases hc; cases hv; exact .plain (RepP.nil _ _ _)
  |1,hc,hv=>cases hc; cases hv; exact .plain (.int _ _)
  |i+2,hc,hv=>cases hc
def pReadHist:List AVal→AMem→Option (AVal×AMem)
 | [.str s],[]=>if s.length≤900000∧(cutL 10 s).length≤100000 then some (.tuple [.slice .sh ((rdHist s).1.map eEv),eI (rdHist s).2],[]) else none
 |_,_=>none
theorem readHists {args:List AVal} {M:AMem} {x:AVal×AMem} (h:pReadHist args M=some x):SoundCall Tryz.prog 28 args M x:=by
 unfold pReadHist at h
 split at h
 ·rename_i s
  split at h
  ·rename_i hs
   injection h with h; subst h
   intro j w vs hr hG hl hv
   obtain ⟨u,rfl⟩:=one_arg hl
   have h1:=(hv 0 _ u rfl rfl).str_inv
   subst h1
   refine (callsIn_wide.1 (readHist_in 8 (by omega) s hs.1 hs.2 j w hr hG)).mono ?_
   rintro e w' ⟨v,rfl,hb,hrep⟩
   exact ⟨v,j,rfl,hr.grow hb.size hb.os hb.tape hb.output hb.block,Ext.grow hb.size hb.os hb.tape hb.output hb.block,hrep⟩
  ·cases h
 ·cases h
noncomputable def primS (f:Nat):Option (List AVal→AMem→Option (AVal×AMem)):=if f=28 then some pReadHist else prim f
noncomputable def tabS:Tab:=⟨code,primS⟩
theorem tabS_ok:TabOk Tryz.prog tabS:=by
 refine ⟨code_ok,fun f g h args M x hx=>?_⟩
 simp only [tabS,primS] at h
 split at h
 ·rename_i hf
  injection h with h; subst h; subst hf
  exact ⟨by kernel_rfl,readHists hx⟩
 ·exact prim_ok f g h args M x hx
theorem tab_le:∀n,CallLe (acallN tab n) (acallN tabS n)
 |0,f,a,M,x,h=>by
  by_cases hf:f=28
  ·subst hf
   rw [acallN] at h
   cases h
  ·have hp:tabS.prim f=tab.prim f:=by simp [tabS,tab,primS,hf]
   rw [acallN] at h ⊢
   rw [hp]
   exact h
 |n+1,f,a,M,x,h=>by
  by_cases hf:f=28
  ·subst hf
   rw [acallN] at h
   cases h
  ·have hp:tabS.prim f=tab.prim f:=by simp [tabS,tab,primS,hf]
   rw [acallN] at h ⊢
   rw [hp]
   split at h
   ·rename_i g hg; exact h
   ·rename_i hg
    have hc:tabS.code f=tab.code f:=rfl
    rw [hc]
    split at h
    ·cases h
    ·rename_i fn hfn
     split at h
     ·rename_i hl
      simp only [if_pos hl]
      obtain ⟨o,ho,h⟩:=obind_inv h
      rw [aexec_mono (tab_le n) _ ho,obind_some]
      exact h
     ·cases h
theorem tab_leS {f:Nat} {a:List AVal} {M:AMem} {x:AVal×AMem} (h:acall tab f a M=some x):acall tabS f a M=some x:=by
 obtain ⟨n,hn⟩:=lim_ex h
 exact lim_some (fun n x h=>acallN_up tabS n f a M x h) (tab_le n f a M x hn)
end Go.Proofs.YtannopdcbocngaaGreatDoor
namespace Go.Abs
open Go
def ow {α:Type} (p:Prop) [Decidable p] (x:Option α):Option α:=if p then x else none
theorem ow_eq {α:Type} (p:Prop) [Decidable p] (x:Option α):ow p x=owhen p x:=by
 unfold ow
 split
 ·rename_i h; exact (owhen_pos h).symm
 ·rename_i h; rw [eq_false h]; exact (owhen_false x).symm
def widB (xs:List AVal) (sz:Nat):Bool:=xs.all fun x=>x.cells.length==sz
theorem widB_eq (xs:List AVal) (sz:Nat):(widB xs sz=true)=wid xs sz:=by
 simp [widB,wid]
instance (n b:Nat):Decidable (roomOk n b):=inferInstanceAs (Decidable (n*b≤2 ^ 44))
def sameL (f:AVal→AVal→Bool):List AVal→List AVal→Bool
 | [],[]=>true
 |a::r,b::s=>f a b&&sameL f r s
 |_,_=>false
theorem sameL_eq {f:AVal→AVal→Bool} (hf:∀a b,f a b=true→a=b):∀ {a b:List AVal},sameL f a b=true→a=b
 | [],[],_=>rfl
 |a::r,b::s,h=>by
  simp only [sameL,Bool.and_eq_true] at h
  rw [hf a b h.1,sameL_eq hf h.2]
 | [],_::_,h=>by cases h
 |_::_,[],h=>by cases h
def sameV:Nat→AVal→AVal→Bool
 |n+1,x,y=>match x,y with
  | .bool a,.bool b=>a==b
  | .int k a,.int l b=>decide (k=l)&&decide (a=b)
  | .str a,.str b=>decide (a=b)
  | .slice t a,.slice u b=>decide (t=u)&&sameL (sameV n) a b
  | .agg a,.agg b=>sameL (sameV n) a b
  | .tuple a,.tuple b=>sameL (sameV n) a b
  | .ptr a b,.ptr c d=>decide (a=c)&&decide (b=d)
  | .rptr a,.rptr b=>sameL (sameV n) a b
  | .func f a,.func g b=>decide (f=g)&&sameL (sameV n) a b
  | .mref a,.mref b=>decide (a=b)
  | .iref a,.iref b=>decide (a=b)
  | .fmap a b,.fmap c d=>sameL (sameV n) a c&&sameL (sameV n) b d
  | .aref a b c d e,.aref a' b' c' d' e'=>decide (a=a')&&decide (b=b')&&decide (c=c')&&decide (d=d')&&decide (e=e')
  | .eptr a b c d,.eptr a' b' c' d'=>decide (a=a')&&decide (b=b')&&decide (c=c')&&decide (d=d')
  | .mfn f a,.mfn g b=>decide (f=g)&&sameL (sameV n) a b
  | .bself a b,.bself c d=>decide (a=c)&&decide (b=d)
  | .obuf a b x l,.obuf c d y m=>decide (a=c)&&decide (b=d)&&(decide (x=y)&&decide (l=m))
  | .any,.any=>true
  |_,_=>false
 |0,_,_=>false
theorem sameV_eq:∀(n:Nat) (a b:AVal),sameV n a b=true→a=b
 |0,_,_,h=>by cases h
 |n+1,x,y,h=>by
  have hl:∀ {a b:List AVal},sameL (sameV n) a b=true→a=b:=fun h=>sameL_eq (sameV_eq n) h
  simp only [sameV] at h
  split at h<;>(try simp only [Bool.and_eq_true,decide_eq_true_eq,beq_iff_eq] at h)<;>first
   |(cases h; done)
   |(rw [h])
   |(rw [hl h])
   |(rw [h.1,hl h.2])
   |(rw [h.1,h.2])
   |(rw [hl h.1,hl h.2])
   |(obtain ⟨⟨⟨⟨h1,h2⟩,h3⟩,h4⟩,h5⟩:=h; rw [h1,h2,h3,h4,h5])
   |(obtain ⟨⟨⟨h1,h2⟩,h3⟩,h4⟩:=h; rw [h1,h2,h3,h4])
   |(obtain ⟨⟨h1,h2⟩,h3⟩:=h; rw [h1,h2,h3])
   |(obtain ⟨⟨h1,h2⟩,h3,h4⟩:=h; rw [h1,h2,h3,h4])
   |rfl
noncomputable def rop (call:CallF) (env:Env) (M:AMem):AOp→Option (AVal×AMem)
 | .sliceS x lo hi =>
  match x.ev env with
  | .str s=>obind (boundOf env s.length hi) fun h=>obind (boundOf env 0 lo) fun l =>
   ow (0≤h∧h≤s.length∧0≤l∧l≤h) (some (.str ((s.take h.toNat).drop l.toNat),M))
  |_=>none
 | .sliceV sz x lo hi mx =>
  match x.ev env with
  | .slice _ xs=>ow (widB xs sz=true) <| obind (boundOf env xs.length hi) fun h=>obind (boundOf env 0 lo) fun l =>
   match mx with
   |none=>ow (0≤h∧h≤xs.length∧0≤l∧l≤h) (some (.slice .sh ((xs.take h.toNat).drop l.toNat),M))
   |some m=>match m.ev env with
    | .int _ m=>ow (0≤m∧m≤xs.length∧0≤h∧h≤m∧0≤l∧l≤h)
      (oif (m==0) (some (.slice .c0 [],M)) (some (.slice .sh ((xs.take h.toNat).drop l.toNat),M)))
    |_=>none
  | .aref id v sz' al ah=>ow (sz'=sz) <| obind (boundOf env (ah-al) hi) fun h=>obind (boundOf env 0 lo) fun l =>
   match mx with
   |none=>ow (0≤h∧h≤(ah-al:Nat)∧0≤l∧l≤h) (oif (l==h) (some (.slice .sh [],M)) (some (.aref id v sz (al+l.toNat) (al+h.toNat),M)))
   |some m=>match m.ev env with
    | .int _ m=>ow (0≤m∧m≤(ah-al:Nat)∧0≤h∧h≤m∧0≤l∧l≤h)
      (oif (m==0) (some (.slice .c0 [],M)) (oif (l==h) (some (.slice .sh [],M)) (some (.aref id v sz (al+l.toNat) (al+h.toNat),M))))
    |_=>none
  |_=>none
 | .iaddr sz x i =>
  match x.ev env,i.ev env with
  | .slice _ xs,.int _ n=>ow (0≤n) (obind (xs[n.toNat]?) fun e=>if e.cells.length=sz then some (.rptr e.cells,M) else none)
  | .aref id v sz' lo hi,.int _ n=>ow (0≤n∧n<(hi-lo:Nat)∧sz'=sz) (some (.eptr id v (lo+n.toNat) 0,M))
  |_,_=>none
 | .indexS x i =>
  match x.ev env,i.ev env with
  | .str s,.int _ n=>ow (0≤n) (obind (s[n.toNat]?) fun b=>some (.int .u8 b.toNat,M))
  |_,_=>none
 | .append sz bytes x y =>
  match x.ev env,y.ev env with
  | .slice tk xs,.slice _ ys =>
   ow (roomOk (xs.length+ys.length) bytes∧widB xs sz=true∧widB ys sz=true) (
    match tk with
    | .c0=>match xs with|[]=>some (.slice (.own M.length) ys,M++[.tick sz ys.length])|_=>none
    | .own k=>match nth M k with
     |some (.tick sz' n)=>ow (sz'=sz∧n=xs.length) (some (.slice (.own k) (xs++ys),setN M k (.tick sz (xs.length+ys.length))))
     |_=>none
    | .sh=>none)
  |_,_=>none
 | .iaddrA n sz x i =>
  match x.ev env,i.ev env with
  | .rptr cs,.int _ m=>ow (0≤m∧m<n∧n*sz≤cs.length) (some (.rptr (cs.drop (m.toNat*sz)),M))
  |_,_=>none
 | .indexA n x i =>
  match x.ev env,i.ev env with
  | .agg cs,.int _ m=>ow (0≤m∧m<n) (obind (cs[m.toNat]?) fun c=>some (c,M))
  |_,_=>none
 | .appendS e y z =>
  match y.ev env,z.ev env with
  | .obuf k t x l,.str s=>match nth M k with
   |some (.tick sz n)=>ow (sz=1∧t=e∧n=l.length∧roomOk (l.length+s.length) 1) (some (.obuf k t x (l++s),setN M k (.tick 1 (l.length+s.length))))
   |_=>none
  |_,_=>none
 | .appendB e y z =>
  match y.ev env,z.ev env with
  | .obuf k t x l,.slice _ ys=>obind (bytesOf ys) fun s=>oif (sameL (sameV 9) ys (s.map u8V)) (match nth M k with
   |some (.tick sz n)=>ow (sz=1∧t=e∧n=l.length∧roomOk (l.length+s.length) 1) (some (.obuf k t x (l++s),setN M k (.tick 1 (l.length+s.length))))
   |_=>none) none
  |_,_=>none
 |o=>aop call env M o
theorem rop_le {call:CallF} {env:Env} {M:AMem} {o:AOp} {x:AVal×AMem} (h:rop call env M o=some x):aop call env M o=some x:=by
 by_cases hb:∃e x y,o = .appendB e x y
 ·obtain ⟨e,y,z,rfl⟩:=hb
  simp only [rop,aop] at h ⊢
  split at h
  ·rename_i k t l tk ys e1 e2
   obtain ⟨s,hs,h⟩:=obind_inv h
   simp only [e1,e2,hs,obind_some]
   rcases oif_inv h with ⟨h1,h2⟩|⟨_,h2⟩
   ·rw [owhen_pos (sameL_eq (sameV_eq 9) h1)]
    simp only [ow_eq] at h2
    exact h2
   ·cases h2
  ·cases h
 ·have:rop call env M o=aop call env M o:=by
   cases o<;>first|rfl|(exact absurd ⟨_,_,_,rfl⟩ hb)|(simp only [rop,aop,ow_eq,widB_eq]; rfl)
  rw [←this]; exact h
def growOk (env:Env):AOp→Bool
 | .mv _ | .own .. | .pick .. | .box0 _ | .box _ | .build .. | .lits .. | .litsO .. | .loadA .. | .load1 _ | .chk _ | .bin .. | .eqA .. | .eqB .. | .not _ | .neg _ | .conv .. | .same _ | .fn .. | .faddr .. | .fieldA .. | .field1 ..
 | .s2b _ | .boxO .. | .boxW .. | .bindF .. | .iaddrA .. | .indexA .. | .look .. | .indexS .. | .extract .. | .lenS _ | .lenV _ | .minmax .. | .b2s _ | .iaddr .. | .sliceS .. => true
 |_=>false
theorem growOk_sound {call:CallF} {env:Env} {M:AMem} {o:AOp} {x:AVal×AMem} (h:growOk env o=true) (hx:aop call env M o=some x):M <+: x.2:=by
 have hm:∀ {v:AVal} {x:AVal×AMem},some (v,M)=some x→M <+: x.2:=fun h=>by cases h; exact List.prefix_refl _
 have ha:∀ {v:AVal} {l:AMem} {x:AVal×AMem},some (v,M++l)=some x→M <+: x.2:=fun h=>by cases h; exact List.prefix_append _ _
 have ho:∀ {p:Prop} {y:Option (AVal×AMem)} {x:AVal×AMem},owhen p y=some x→y=some x:=fun {p} {y} {x} h=>by
  by_cases hp:p
  ·rwa [owhen_pos hp] at h
  ·rw [eq_false hp,owhen_false] at h; cases h
 cases o<;>first|(cases h; done)|skip
 all_goals (simp only [aop] at hx)
 all_goals (repeat' (first|exact hm hx|exact ha hx|(replace hx:=ho hx)|(have hx':=obind_inv hx; clear hx; obtain ⟨_,_,hx⟩:=hx')|(have hx':=oif_inv hx; clear hx; rcases hx' with ⟨_,hx⟩|⟨_,hx⟩)|(split at hx)|(cases hx; done)))
def sepOk (env:Env) (o:AOp) (sep:List Nat):Bool:=match o with
 | .store _ a _=>match a.ev env with
  | .ptr id _ => !sep.isEmpty&&sep.all fun z=>match getS env z with | .ptr i _=>i != id|_=>false
  |_=>false
 |_=>false
theorem nth_setN_ne {M:AMem} {i j:Nat} {b:ABox} (h:j≠i):nth (setN M i b) j=nth M j:=by
 induction M generalizing i j with
 |nil=>rfl
 |cons a r ih =>
  cases i with
  |zero=>cases j with
   |zero=>exact absurd rfl h
   |succ j=>rfl
  |succ i=>cases j with
   |zero=>rfl
   |succ j=>simp only [setN,nth]; exact ih (fun e=>h (by rw [e]))
theorem sepOk_sound {call:CallF} {env:Env} {M:AMem} {o:AOp} {sep:List Nat} {x:AVal×AMem} (h:sepOk env o sep=true) (hx:aop call env M o=some x):sep≠[]∧sepAll env M x.2 sep:=by
 unfold sepOk at h
 split at h
 ·rename_i n a y
  split at h
  ·rename_i id off ha
   simp only [Bool.and_eq_true,List.all_eq_true] at h
   refine ⟨fun e=>by rw [e] at h; simp at h,?_⟩
   simp only [aop,ha] at hx
   split at hx
   ·rename_i cs hcs
    obtain ⟨new,_,hx⟩:=obind_inv hx
    split at hx
    ·cases hx
     have h2:=h.2
     clear h
     induction sep with
     |nil=>trivial
     |cons z r ih =>
      refine ⟨?_,ih fun w hw=>h2 w (List.mem_cons_of_mem _ hw)⟩
      have hz:=h2 z List.mem_cons_self
      split
      ·rename_i i o hi
       rw [hi] at hz
       exact nth_setN_ne (by simpa using hz)
      ·rename_i hi
       split at hz
       ·rename_i i o hi'; exact absurd hi' (hi i o)
       ·cases hz
    ·cases hx
   ·cases hx
  ·cases h
 ·cases h
def sameB:ABox→ABox→Bool
 | .cells a,.cells b=>sameL (sameV 9) a b
 | .tick a b,.tick c d=>decide (a=c)&&decide (b=d)
 | .map a b,.map c d=>sameL (sameV 9) a c&&sameL (sameV 9) b d
 | .siter a b,.siter c d=>decide (a=c)&&decide (b=d)
 | .arr a b c,.arr d e f=>decide (a=d)&&decide (b=e)&&sameL (sameV 9) c f
 |_,_=>false
theorem sameB_eq {a b:ABox} (h:sameB a b=true):a=b:=by
 have hl:∀ {a b:List AVal},sameL (sameV 9) a b=true→a=b:=fun h=>sameL_eq (sameV_eq 9) h
 unfold sameB at h
 split at h<;>(try simp only [Bool.and_eq_true,decide_eq_true_eq] at h)<;>first
  |(cases h; done)
  |(rw [hl h])
  |(rw [h.1,h.2])
  |(rw [hl h.1,hl h.2])
  |(obtain ⟨⟨h1,h2⟩,h3⟩:=h; rw [h1,h2,hl h3])
def prefB:AMem→AMem→Bool
 | [],_=>true
 |a::r,b::s=>sameB a b&&prefB r s
 |_::_,[]=>false
theorem prefB_eq:∀ {a b:AMem},prefB a b=true→a <+: b
 | [],_,_=>List.nil_prefix
 |a::r,b::s,h=>by
  simp only [prefB,Bool.and_eq_true] at h
  rw [sameB_eq h.1]
  exact (List.prefix_cons_inj _).2 (prefB_eq h.2)
 |_::_,[],h=>by cases h
noncomputable def rstep (call:CallF) (o:AOper) (env:Env) (M:AMem):Option (AVal×AMem) :=
 match o.nomem with
 |true=>ow (o.op.argIds env=[]) (rop call env M o.op)
 |false=>match o.grow with
  |false=>rop call env M o.op
  |true=>match growOk env o.op||sepOk env o.op o.sep with
   |true=>rop call env M o.op
   |false=>obind (rop call env M o.op) fun x=>oif (prefB M x.2) (some x) none
theorem rstep_le {call:CallF} {o:AOper} {env:Env} {M:AMem} {x:AVal×AMem} (h:rstep call o env M=some x):astep call o env M=some x:=by
 unfold rstep at h
 unfold astep
 split at h
 ·rename_i hn
  simp only [hn]
  rw [ow_eq] at h
  obtain ⟨h1,h2⟩:=owhen_inv h
  rw [owhen_pos h1]
  exact rop_le h2
 ·rename_i hn
  simp only [hn]
  split at h
  ·rename_i hg
   simp only [hg]
   exact rop_le h
  ·rename_i hg
   simp only [hg]
   split at h
   ·rename_i hb
    replace h:=rop_le h
    rw [h,obind_some]
    refine owhen_pos ?_
    rcases Bool.or_eq_true .. ▸ hb with hb|hb
    ·exact .inl (growOk_sound hb h)
    ·exact .inr (sepOk_sound hb h)
   ·obtain ⟨y,hy,h⟩:=obind_inv h
    replace hy:=rop_le hy
    rcases oif_inv h with ⟨hp,h⟩|⟨_,h⟩
    ·injection h with h; subst h
     rw [hy,obind_some]
     exact owhen_pos (.inl (prefB_eq hp))
    ·cases h
noncomputable def rregion (call:CallF):List AOper→Env→AMem→Option (Env×AMem)
 | [],env,M=>some (env,M)
 |o::r,env,M =>
  match o.guard with
  |none=>obind (rstep call o env M) fun x=>rregion call r (putS env o.dst x.1) x.2
  |some (t,want)=>match getS env t with
   | .bool b=>oif (b==want) (obind (rstep call o env M) fun x=>rregion call r (putS env o.dst x.1) x.2)
    (rregion call r (putS env o.dst (.tuple [])) M)
   | .tuple []=>rregion call r (putS env o.dst (.tuple [])) M
   |_=>none
theorem rregion_le {call:CallF}:∀ {ops:List AOper} {env:Env} {M:AMem} {x:Env×AMem},rregion call ops env M=some x→aregion call ops env M=some x
 | [],_,_,_,h=>h
 |o::r,env,M,x,h=>by
  rw [rregion] at h
  rw [aregion]
  split at h
  ·rename_i hg
   simp only [hg]
   obtain ⟨a,ha,h⟩:=obind_inv h
   rw [rstep_le ha,obind_some]
   exact rregion_le h
  ·rename_i t want hg
   simp only [hg]
   split at h
   ·rename_i b hb
    simp only [hb]
    rcases oif_inv h with ⟨hw,h⟩|⟨hw,h⟩
    ·obtain ⟨a,ha,h⟩:=obind_inv h
     rw [hw,oif_true,rstep_le ha,obind_some]
     exact rregion_le h
    ·rw [hw,oif_false]
     exact rregion_le h
   ·rename_i hb
    simp only [hb]
    exact rregion_le h
   ·cases h
noncomputable def rexec (call:CallF) (fuel:Nat):ACode→Env→AMem→Option Out
 | .skip,env,M=>some ⟨.normal,env,M⟩
 | .region ops _ live,env,M=>obind (rregion call ops env M) fun x=>some ⟨.normal,keepS x.1 live,x.2⟩
 | .seq a b,env,M=>obind (rexec call fuel a env M) fun o=>goOn o (rexec call fuel b)
 | .cond c x y,env,M=>match c.ev env with
  | .bool t=>oif t (rexec call fuel x env M) (rexec call fuel y env M)
  |_=>none
 | .block id c,env,M=>obind (rexec call fuel c env M) fun o=>some (outOf id o)
 | .loop live c,env,M=>iter (rexec call fuel c) live fuel env M
 | .exit id,env,M=>some ⟨.exit id,env,M⟩
 | .ret,env,M=>some ⟨.ret,env,M⟩
theorem rexec_le {call:CallF} {fuel:Nat}:∀(c:ACode) {env:Env} {M:AMem} {x:Out},rexec call fuel c env M=some x→aexec call c env M=some x
 | .skip,_,_,_,h=>h
 | .exit _,_,_,_,h=>h
 | .ret,_,_,_,h=>h
 | .region ops d live,env,M,x,h=>by
  simp only [aexec,rexec] at *
  obtain ⟨a,ha,h⟩:=obind_inv h
  rw [rregion_le ha]; exact h
 | .seq a b,env,M,x,h=>by
  simp only [aexec,rexec] at *
  obtain ⟨o,ho,h⟩:=obind_inv h
  rw [rexec_le a ho]
  exact goOn_mono (fun env M x=>rexec_le b) h
 | .cond c a b,env,M,x,h=>by
  simp only [aexec,rexec] at *
  split
  ·rename_i t ht
   simp only [ht] at h
   rcases oif_inv h with ⟨rfl,h⟩|⟨rfl,h⟩
   ·exact rexec_le a h
   ·exact rexec_le b h
  ·rename_i ht
   split at h
   ·rename_i t ht'; exact absurd ht' (ht t)
   ·cases h
 | .block id c,env,M,x,h=>by
  simp only [aexec,rexec] at *
  obtain ⟨o,ho,h⟩:=obind_inv h
  rw [rexec_le c ho]; exact h
 | .loop live c,env,M,x,h=>by
  simp only [aexec,rexec] at *
  exact lim_some (fun n x=>iter_up live n) (iter_mono (fun env M x=>rexec_le c) live fuel h)
noncomputable def rcall (T:Tab) (loops:Nat):Nat→CallF
 |0,_,_,_=>none
 |n+1,f,args,M=>match T.prim f with
  |some g=>g args M
  |none=>match T.code f with
   |none=>none
   |some fn=>if args.length=fn.nparams then obind (rexec (rcall T loops n) loops fn.body (parsFrom 0 args) M) (finish fn.results M.length) else none
def TabLe (S T:Tab):Prop:=S.code=T.code∧(∀f,(S.prim f).isSome=(T.prim f).isSome)∧∀f g,S.prim f=some g→∃g',T.prim f=some g'∧∀a M x,g a M=some x→g' a M=some x
theorem rcall_le {S T:Tab} (h:TabLe S T) (loops:Nat):∀n,CallLe (rcall S loops n) (acallN T n)
 |0,_,_,_,_,h=>by cases h
 |n+1,f,a,M,x,hx=>by
  rw [rcall] at hx
  rw [acallN]
  split at hx
  ·rename_i g hg
   obtain ⟨g',h1,h2⟩:=h.2.2 f g hg
   simp only [h1]
   exact h2 a M x hx
  ·rename_i hg
   have:T.prim f=none:=by
    have:=h.2.1 f
    rw [hg] at this
    cases hT:T.prim f with
    |none=>rfl
    |some g=>rw [hT] at this; cases this
   simp only [this,←h.1]
   split at hx
   ·cases hx
   ·rename_i fn hf
    simp only [hf]
    split at hx
    ·rename_i hl
     rw [if_pos hl]
     obtain ⟨o,ho,hx⟩:=obind_inv hx
     rw [aexec_mono (rcall_le h loops n) _ (rexec_le _ ho),obind_some]
     exact hx
    ·cases hx
theorem rcall_sound {S T:Tab} (h:TabLe S T) {loops n f:Nat} {a:List AVal} {M:AMem} {x:AVal×AMem} (hx:rcall S loops n f a M=some x):acall T f a M=some x :=
 lim_some (fun n x h=>acallN_up T n f a M x h) (rcall_le h loops n f a M x hx)
end Go.Abs
namespace Go.Proofs.YtannopdcbocngaaGreatDoor
open Go Go.Abs
noncomputable def rClone (sz bytes:Nat):List AVal→AMem→Option (AVal×AMem)
 | [.slice _ xs],M=>match xs with
  | []=>some (.slice .c0 [],M)
  |x::r=>ow (widB (x::r) sz=true∧roomOk (x::r).length bytes) (some (.aref M.length 0 sz 0 (x::r).length,M++[.arr sz 0 (x::r)]))
 |_,_=>none
theorem rClone_eq (sz bytes:Nat):rClone sz bytes=pClone sz bytes:=by
 funext a M
 unfold rClone pClone
 simp only [ow_eq,widB_eq]
 rfl
noncomputable def rDelete (sz:Nat):List AVal→AMem→Option (AVal×AMem)
 | [.aref id ver sz' lo hi,.int .i64 i,.int .i64 i'],M=>match nth M id with
  |some (.arr sz0 v xs)=>ow (v=ver∧sz'=sz∧lo=0∧hi=xs.length∧0≤i∧i.toNat<xs.length∧i'=i+1∧xs.length≤2 ^ 44)
    (some (.aref id (ver+1) sz 0 (xs.length-1),setN M id (.arr sz0 (ver+1) (xs.take i.toNat++xs.drop (i.toNat+1)))))
  |_=>none
 |_,_=>none
noncomputable def rInsert (sz bytes:Nat):List AVal→AMem→Option (AVal×AMem)
 | [.aref id ver sz' lo hi,.int .i64 i,.slice _ [e]],M=>match nth M id with
  |some (.arr sz0 v xs)=>ow (v=ver∧sz'=sz∧lo=0∧hi=xs.length∧0≤i∧i.toNat≤xs.length∧e.cells.length=sz∧roomOk (xs.length+1) bytes)
    (some (.aref id (ver+1) sz 0 (xs.length+1),setN M id (.arr sz0 (ver+1) (xs.take i.toNat++e::xs.drop i.toNat))))
  |_=>none
 | [.slice .c0 [],.int .i64 i,.slice _ [e]],M=>ow (i=0∧e.cells.length=sz) (some (.aref M.length 0 sz 0 1,M++[.arr sz 0 [e]]))
 |_,_=>none
theorem rInsert_eq (sz bytes:Nat):rInsert sz bytes=pInsert sz bytes:=by
 funext a M
 unfold rInsert pInsert
 simp only [ow_eq,widB_eq]
 rfl
noncomputable def rSplitS:List AVal→AMem→Option (AVal×AMem)
 | [.str s,.str [c]],M=>if s.length<4294967281 then some (.slice .sh ((cutL c s).map .str),M) else none
 |_,_=>none
theorem rSplitS_le:∀a M x,rSplitS a M=some x→pSplitS a M=some x:=by
 intro a M x h
 unfold rSplitS at h
 split at h
 ·rename_i s c
  split at h
  ·rename_i hs
   simp only [pSplitS]
   rw [if_pos ⟨hs,by simp⟩,splitS_one]
   exact h
  ·cases h
 ·cases h
noncomputable def primR:Nat→Option (List AVal→AMem→Option (AVal×AMem))
 |42=>some pItoa
 |58=>some pAtoi
 |98=>some pIndexByte
 |93=>some pCut
 |64=>some rSplitS
 |48=>some pJoin
 |91=>some pCheck
 |51=>some pString
 |110=>some (rClone 3 32)
 |107=>some (rClone 6 80)
 |108=>some (rInsert 6 80)
 |109=>some (rInsert 3 32)
 |171=>some pCompare
 |28=>some pReadHist
 |_=>none
theorem primR_le (f:Nat) (g:List AVal→AMem→Option (AVal×AMem)) (h:primR f=some g):∃g',primS f=some g'∧∀a M x,g a M=some x→g' a M=some x:=by
 unfold primR at h
 split at h
 all_goals first|cases h; done|skip
 all_goals (injection h with h; subst h)
 all_goals (simp only [primS,prim,Nat.reduceEqDiff,if_false,if_true])
 all_goals first
  |exact ⟨_,rfl,fun _ _ _ h=>h⟩
  |exact ⟨_,rfl,rSplitS_le⟩
  |exact ⟨_,rfl,fun _ _ _ h=>by rw [rClone_eq] at h; exact h⟩
  |exact ⟨_,rfl,fun _ _ _ h=>by rw [rInsert_eq] at h; exact h⟩
theorem primR_some (f:Nat):(primR f).isSome=(primS f).isSome:=by
 cases h:primR f with
 |some g=>obtain ⟨g',h',_⟩:=primR_le f g h; rw [h']; rfl
 |none =>
  have:primS f=none:=by
   by_cases h28:f=28
   ·subst h28; cases h
   ·simp only [primS,if_neg h28]
    unfold prim
    split<;>first|rfl|(cases h; done)
  rw [this]; try rfl
noncomputable def tabR:Tab:=⟨code,primR⟩
theorem run_sound {loops n f:Nat} {a:List AVal} {M:AMem} {x:AVal×AMem} (hx:rcall tabR loops n f a M=some x):acall tabS f a M=some x :=
 rcall_sound (S:=tabR) (T:=tabS) ⟨rfl,primR_some,primR_le⟩ hx
end Go.Proofs.YtannopdcbocngaaGreatDoor
namespace Go.Proofs.YtannopdcbocngaaGreatDoor
open Go Go.Abs
theorem head_ok:acall tabS 10 [] []=some (.bool true,[]):=run_sound (loops:=60) (n:=20) (by kernel_rfl)
end Go.Proofs.YtannopdcbocngaaGreatDoor
namespace Go.Proofs.YtannopdcbocngaaGreatDoor
open Go Go.Abs
attribute [local irreducible] exK opsK opK gK forkK kr acall callOp owhen obind
theorem kS10 (M:AMem):callOp (acall tabS) 10 [] M=some (.bool true,M):=callOp0 head_ok rfl rfl rfl rfl rfl M
end Go.Proofs.YtannopdcbocngaaGreatDoor
namespace Go.Proofs.YtannopdcbocngaaGreatDoor
open Go Go.Abs Go.RowKit Go.Lib
theorem one_taken {cs:Array Value} {i:Nat} {c:Value} (h:(cs.toList.drop (i*1)).take 1=[c]):cs[i]?=some c:=by
 have:=congrArg (·[0]?) h
 simpa [List.getElem?_take,List.getElem?_drop] using this
theorem strs_laid {P:Program} {W:World} {n:String} {g t e m:Nat} {ds:List (List UInt8)} (h:VarReads P W n (.agg (ds.map fun s => .lit (.string s)))) (hg:P.globalNamed n=some g) (ht:(P.globals[g]?).map (·.type)=some t) (hu:P.underlying t=some (.array m e)) (he:P.underlying e=some .string) (hc:P.cellsOf e=1) :
  ∀k s,k<m→ds[k]?=some s→W.cell? ⟨g,k,none⟩=some (.string (Go.Abs.bs s)):=by
 intro k s hk hs
 obtain ⟨g',t',cs,fuel,p,h1,h2,h3,h4⟩:=h
 obtain rfl:=Option.some.inj (hg.symm.trans h1)
 obtain rfl:=Option.some.inj (ht.symm.trans h2)
 obtain ⟨fuel',d,q,e1,e2⟩:=array_elem hu h4 k hk
 rw [hc] at e2
 obtain ⟨s',e3,e4,_⟩:=DataW.trod_string he e2
 rw [World.var?_cell hg h3,one_taken e3]
 rw [List.getElem?_map,hs] at e1
 injection e1 with e1
 injection e4 with e4 _
 rw [←e1] at e4
 injection e4 with e4
 injection e4 with e4
 congr 2
 rw [e4]
 apply ByteArray.ext
 simp [Go.Abs.bs]
theorem ints_laid {P:Program} {W:World} {n:String} {g t e m:Nat} {ki:IntKind} {ds:List Int} (h:VarReads P W n (.agg (ds.map fun s => .lit (.int ki s)))) (hg:P.globalNamed n=some g) (ht:(P.globals[g]?).map (·.type)=some t) (hu:P.underlying t=some (.array m e)) (he:P.underlying e=some (.int ki)) (hc:P.cellsOf e=1) :
  ∀k s,k<m→ds[k]?=some s→W.cell? ⟨g,k,none⟩=some (.int ki s):=by
 intro k s hk hs
 obtain ⟨g',t',cs,fuel,p,h1,h2,h3,h4⟩:=h
 obtain rfl:=Option.some.inj (hg.symm.trans h1)
 obtain rfl:=Option.some.inj (ht.symm.trans h2)
 obtain ⟨fuel',d,q,e1,e2⟩:=array_elem hu h4 k hk
 rw [hc] at e2
 obtain ⟨s',e3,e4,_⟩:=DataW.trod_int he e2
 rw [World.var?_cell hg h3,one_taken e3]
 rw [List.getElem?_map,hs] at e1
 injection e1 with e1
 injection e4 with e4 _
 rw [←e1] at e4
 injection e4 with e4
 injection e4 with _ e4
 rw [e4]
abbrev laidL:=Rows.reportOwnRow.laid
def jX0:J:=⟨fun _=>none,fun _ _=>False⟩
theorem rel0 (W:World):Rel jX0 [] W where
 inj:=fun _ _ _ h=>by cases h
 lt:=fun _ _ h=>by cases h
 fix:=fun _ _ h=>by cases h
 tick:=fun _ _ _ _ h=>by cases h
 arr:=fun _ _ _ _ h=>by cases h
 xdis:=fun _ _ h=>by cases h
 xlt:=fun _ _ h=>h.elim
theorem saf0 {W:World} {b k:Nat} {v:Value} (h:W.cell? ⟨b,k,none⟩=some v):Saf jX0 [] W b k:=by
 refine ⟨?_,fun id hid=>by simp at hid,fun h=>h⟩
 simp only [World.cell?] at h
 split at h
 ·rename_i o ho
  exact (Array.getElem?_eq_some_iff.1 ho).1
 ·cases h
theorem size_of_shape {W:World} (hsh:W.ShapedOpen Tryz.prog) {g n t:Nat} (hg:g<Tryz.prog.globals.size) (h0:(((begin Tryz.prog (fun _ _=>0) default).world.heap[g]?).bind Obj.row?).map (fun x=>(x.1.size,x.2))=some (n,t)) :
  ∃us,W.heap[g]?=some (.cells us t (0,0))∧us.size=n:=by
 obtain ⟨⟨zero,t'⟩,hz,he⟩:=Option.map_eq_some_iff.1 h0
 injection he with e1 e2
 obtain ⟨cs,h1,h2,_⟩:=hsh.1 g zero t' hg hz
 subst e2
 exact ⟨cs,h1,h2.trans e1⟩
theorem globL {W:World} (hL:laidMet Tryz.prog laidL W) (hsh:W.ShapedOpen Tryz.prog):Glob jX0 [] W:=by
 have r0:=Lib.laidMet.reads hL (.tail _ (.tail _ (.tail _ (.tail _ (.tail _ (.tail _ (.head _)))))))
 have r1:=Lib.laidMet.reads hL (.tail _ (.tail _ (.tail _ (.tail _ (.tail _ (.head _))))))
 have r2:=Lib.laidMet.reads hL (.tail _ (.tail _ (.tail _ (.tail _ (.head _)))))
 have r3:=Lib.laidMet.reads hL (.tail _ (.tail _ (.head _)))
 have c0:=strs_laid (ds:=wordsL) (g:=0) (t:=76) (e:=9) (m:=18) r0 (by kernel_rfl) (by kernel_rfl) (by kernel_rfl) (by kernel_rfl) (by kernel_rfl)
 have c3:=ints_laid (ds:=pow10L.map fun (n:Nat)=>(n:Int)) (ki := .u64) (g:=3) (t:=216) (e:=127) (m:=20) r3 (by kernel_rfl) (by kernel_rfl) (by kernel_rfl) (by kernel_rfl) (by kernel_rfl)
 have sent:∀ {n:String} {g:Nat} {nm:String} {d:DataW Unit},VarReads Tryz.prog W n (.iface nm d)→Tryz.prog.globalNamed n=some g→(Tryz.prog.globals[g]?).map (·.type)=some 89→∃t p,W.cell? ⟨g,0,none⟩=some (.iface t p):=by
  rintro n g nm d ⟨g',t',cs,fuel,p,h1,h2,h3,h4⟩ hg ht
  obtain rfl:=Option.some.inj (hg.symm.trans h1)
  obtain rfl:=Option.some.inj (ht.symm.trans h2)
  obtain ⟨_,u,v,e1,_⟩:=iface_of_trod (P:=Tryz.prog) (ti:=89) (ms := #[("Error",92)]) (by kernel_rfl) h4
  refine ⟨u,v,?_⟩
  rw [World.var?_cell hg h3]
  have:=congrArg (·[0]?) e1
  simpa using this
 obtain ⟨m,hm⟩:=cell_of_shapedOpen_int (P:=Tryz.prog) (g:=4) (t:=3) (k := .i64) hsh (of_decide_eq_true (by kernel_rfl)) (zero := #[.int .i64 0]) (by kernel_rfl) rfl (by kernel_rfl) (by kernel_rfl) (by kernel_rfl)
 obtain ⟨us0,n0,z0⟩:=size_of_shape hsh (g:=0) (n:=18) (t:=76) (of_decide_eq_true (by kernel_rfl)) (by kernel_rfl)
 obtain ⟨us3,n3,z3⟩:=size_of_shape hsh (g:=3) (n:=20) (t:=216) (of_decide_eq_true (by kernel_rfl)) (by kernel_rfl)
 obtain ⟨t1,p1,h1⟩:=sent (g:=1) r1 (by kernel_rfl) (by kernel_rfl)
 obtain ⟨t2,p2,h2⟩:=sent (g:=2) r2 (by kernel_rfl) (by kernel_rfl)
 refine ⟨fun b vs k v hb hk=>?_,fun b vs hb=>?_,fun b p hb=>?_⟩
 ·have hcell:W.cell? ⟨b,k,none⟩=some v:=by
   match b,hb with
   |0,hb =>
    cases hb
    rw [List.getElem?_map,Option.map_eq_some_iff] at hk
    obtain ⟨s,hs,rfl⟩:=hk
    exact c0 k s (List.getElem?_eq_some_iff.1 hs).1 hs
   |3,hb =>
    cases hb
    rw [List.getElem?_map,Option.map_eq_some_iff] at hk
    obtain ⟨s,hs,rfl⟩:=hk
    exact c3 k s (List.getElem?_eq_some_iff.1 hs).1 (by rw [List.getElem?_map,hs]; rfl)
   |1,hb=>cases hb
   |2,hb=>cases hb
   |n+4,hb=>cases hb
  exact ⟨saf0 hcell,hcell⟩
 ·match b,hb with
  |0,hb=>cases hb; exact ⟨us0,_,_,n0,z0⟩
  |3,hb=>cases hb; exact ⟨us3,_,_,n3,z3⟩
  |1,hb=>cases hb
  |2,hb=>cases hb
  |n+4,hb=>cases hb
 ·match b,hb with
  |1,hb=>cases hb; exact ⟨_,⟨t1,p1,rfl⟩,saf0 h1,h1⟩
  |2,hb=>cases hb; exact ⟨_,⟨t2,p2,rfl⟩,saf0 h2,h2⟩
  |4,hb=>cases hb; exact ⟨_,⟨m,rfl⟩,saf0 hm,hm⟩
  |0,hb=>cases hb
  |3,hb=>cases hb
  |n+5,hb=>cases hb
end Go.Proofs.YtannopdcbocngaaGreatDoor
namespace Go.Proofs.YtannopdcbocngaaGreatDoor
open Go Go.Abs Go.ChangeShapes Go.WideShapes Go.ChangeAt Go.RowKit Go.Lib
open Go.ChangeMaps (open_string shut_string)
theorem ownK:ownKnob Tryz.prog.godebug=none:=by kernel_rfl
def valsOf:DataW Unit→List Value
 | .lit (.int k z)=>[.int k z]
 | .lit (.string s)=>[.string ⟨s.toArray⟩]
 | .agg ds=>ds.flatMap fun d=>match d with
  | .lit (.int k z)=>[.int k z]
  | .lit (.string s)=>[.string ⟨s.toArray⟩]
  | .agg es=>es.flatMap fun e=>match e with
   | .lit (.int k z)=>[.int k z]
   | .lit (.string s)=>[.string ⟨s.toArray⟩]
   |_=>[]
  |_=>[]
 |_=>[]
noncomputable def low:Nat:=(World.holding Tryz.prog default ⟨#[],#[],[]⟩).heap.size
abbrev synS:ByteArray:=⟨#[105,110,118,97,108,105,100,32,115,121,110,116,97,120]⟩
abbrev rngS:ByteArray:=⟨#[118,97,108,117,101,32,111,117,116,32,111,102,32,114,97,110,103,101]⟩
noncomputable def laidWorld (os:Os):World :=
 let w0:=World.holding Tryz.prog os ⟨#[.cells #[.string synS] 223,.cells #[.string rngS] 223],#[],[]⟩
 let put (h:Array Obj) (g:Nat) (cs:List Value):Array Obj:=h.modify g fun
  | .cells _ t frozen => .cells cs.toArray t frozen
  |o=>o
 let h:=put w0.heap 0 (valsOf Rows.laid_catacomb_report_words)
 let h:=put h 1 [.iface 221 (.pointer (some ⟨low,0,none⟩))]
 let h:=put h 2 [.iface 221 (.pointer (some ⟨low+1,0,none⟩))]
 let h:=put h 3 (valsOf Rows.laid_internal_strconv_uint64pow10)
 let h:=put h 5 (valsOf Rows.laid_unicode_utf8_first)
 let h:=put h 6 (valsOf Rows.laid_unicode_utf8_acceptRanges)
 let h:=put h 7 (valsOf Rows.laid_math_bits_deBruijn32tab)
 let h:=put h 8 (valsOf Rows.laid_math_bits_deBruijn64tab)
 { w0 with heap:=h }
theorem laid_met (os:Os) (args:Array Value):laidMet Tryz.prog laidL ((laidWorld os).forCall (fun _ _=>0) ⟨#[],args,[]⟩).memory :=
 laidMet_of_run' 8 (by kernel_rfl) (by kernel_rfl)
end Go.Proofs.YtannopdcbocngaaGreatDoor
namespace Go.Proofs.YtannopdcbocngaaGreatDoor
open Go Go.Abs Go.ChangeShapes Go.WideShapes Go.RowKit Go.Deep
theorem laidOut:laidOutB Tryz.prog=true:=by kernel_rfl
section
variable {H:Type} {enc:TypeId×Value→H}
theorem trodAll_stays {W W':World} (hb:Below W.heap.size W W'):∀ {ts:List TypeId} {vs:List Value} {ds:List (DataW H)} {p:List MemPlace},DataW.TrodAll enc Tryz.prog W 0 (fun _=>true) true ts vs ds p →
  (∀t,t∈ts→Tryz.prog.readableRec t=true∧t<Tryz.prog.types.size)→(∀x∈p,x.block<W.heap.size)→DataW.TrodAll enc Tryz.prog W' 0 (fun b=>decide (b<W.heap.size)) true ts vs ds p
 | [],vs,ds,p,h,_,_=>by
  obtain ⟨rfl,rfl,rfl⟩:=trodAll_nil h
  exact trodAll_mk0
 |t::ts,vs,ds,p,h,ht,hp=>by
  obtain ⟨v,vs',d,ds',p1,q,rfl,rfl,rfl,h1,h2⟩:=trodAll_cons h
  exact trodAll_cons_mk (Below.trod laidOut (ht t List.mem_cons_self).1 (ht t List.mem_cons_self).2 h1 hb (fun x hx=>hp x (List.mem_append_left _ hx)))
   (trodAll_stays hb h2 (fun t ht'=>ht t (List.mem_cons_of_mem _ ht')) (fun x hx=>hp x (List.mem_append_right _ hx)))
abbrev SafW (w:World):Nat→Nat→Prop:=Saf jX0 [] w
theorem saf_none {w:World} {b off:Nat} (h:b<w.heap.size):SafW w b off:=⟨h,fun id hid=>absurd hid (Nat.not_lt_zero _),fun hx=>hx⟩
theorem cell_lt {w:World} {b off:Nat} {v:Value} (h:w.cell? ⟨b,off,none⟩=some v):b<w.heap.size:=by
 rcases Nat.lt_or_ge b w.heap.size with hb|hb
 ·exact hb
 ·simp [World.cell?,Array.getElem?_eq_none hb] at h
theorem addr_add (b off i:Nat):(⟨b,off,none⟩:Addr).add i=⟨b,off+i,none⟩:=by
 unfold Addr.add
 split
 ·rename_i h; rw [h]; rfl
 ·rfl
theorem u8_rep {w:World} {fuel t:Nat} {v:Value} {x:DataW H×List MemPlace} (ht:Tryz.prog.underlying t=some (.int .u8)) (h:DataW.trod enc Tryz.prog w 0 (fun _=>true) true fuel t [v]=some x):∃b:UInt8,RepP w (SafW w) (u8V b) v:=by
 obtain ⟨n,q,_,wf⟩:=DataW.trod_int ht h
 cases q
 have h3:IntKind.u8.min≤n∧n≤IntKind.u8.max:=by simpa [Lit.wf] using wf
 have e1:IntKind.u8.min=0:=by decide
 have e2:IntKind.u8.max=255:=by decide
 have e:n=((UInt8.ofNat n.toNat).toNat:Int):=by rw [UInt8.toNat_ofNat']; omega
 refine ⟨UInt8.ofNat n.toNat,?_⟩
 unfold u8V
 rw [←e]
 exact .int _ _
theorem choose_list {α:Type} (P:Nat→α→Prop):∀(n:Nat),(∀i,i<n→∃a,P i a)→∃l:List α,l.length=n∧∀i a,l[i]?=some a→P i a
 |0,_=>⟨[],rfl,fun i a h=>by cases i<;>cases h⟩
 |n+1,h=>by
  obtain ⟨l,hl,hp⟩:=choose_list P n (fun i hi=>h i (by omega))
  obtain ⟨a,ha⟩:=h n (by omega)
  refine ⟨l++[a],by simp [hl],fun i b hb=>?_⟩
  rcases Nat.lt_or_ge i n with hi|hi
  ·rw [List.getElem?_append_left (by omega)] at hb
   exact hp i b hb
  ·rw [List.getElem?_append_right (by omega)] at hb
   have:i=n:=by
    have:=(List.getElem?_eq_some_iff.1 hb).1
    simp at this; omega
   subst this
   simp [hl] at hb
   subst hb; exact ha
def CellsRep (w:World) (l:List AVal) (cs:List Value):Prop:=l.length=cs.length∧∀(k:Nat) (c:AVal) (v:Value),l[k]?=some c→cs[k]?=some v→RepP w (SafW w) c v
theorem CellsRep.one {w:World} {c:AVal} {v:Value} (h:RepP w (SafW w) c v):CellsRep w [c] [v]:=⟨rfl,fun k c' v' h1 h2=>by
 match k with
 |0=>cases h1; cases h2; exact h
 |k+1=>cases h1⟩
theorem CellsRep.app {w:World} {a b:List AVal} {cs ds:List Value} (h:CellsRep w a cs) (g:CellsRep w b ds):CellsRep w (a++b) (cs++ds):=⟨by simp [h.1,g.1],fun k c v h1 h2=>by
 rcases Nat.lt_or_ge k a.length with hk|hk
 ·rw [List.getElem?_append_left hk] at h1
  rw [List.getElem?_append_left (by rw [←h.1]; exact hk)] at h2
  exact h.2 k c v h1 h2
 ·rw [List.getElem?_append_right hk] at h1
  rw [List.getElem?_append_right (by rw [←h.1]; exact hk),←h.1] at h2
  exact g.2 _ c v h1 h2⟩
theorem CellsRep.nil {w:World}:CellsRep w [] []:=⟨rfl,fun k c v h1 _=>by cases h1⟩
theorem rows_rep {α:Type} {w:World} {fuel t e m:Nat} {v:Value} {x:DataW H×List MemPlace} {eC:α→List AVal} {mk:α→AVal} {P:α→Prop} (ht:Tryz.prog.underlying t=some (.slice e)) (hm:Tryz.prog.cellsOf e=m) (hm0:0<m)
  (hmk:∀a,(mk a).cells=eC a) (hlen:∀a,(eC a).length=m)
  (he:∀(n:Nat) (cs:List Value) (y:DataW H×List MemPlace),cs.length=m→DataW.trod enc Tryz.prog w 0 (fun _=>true) true n e cs=some y→∃a,P a∧CellsRep w (eC a) cs)
  (h:DataW.trod enc Tryz.prog w 0 (fun _=>true) true fuel t [v]=some x) :
  ∃l:List α,(∀a,a∈l→P a)∧RepP w (SafW w) (.slice .sh (l.map mk)) v:=by
 rcases open_slice ht h with ⟨hcs,_⟩|⟨a,len,cap,mm,n,D,Pl,hcs,_,hl,_,hmm,_,hi⟩
 ·cases hcs
  exact ⟨[],by simp,RepP.nil _ _ _⟩
 ·cases hcs
  simp only [if_true] at hmm
  obtain ⟨b,off,spot⟩:=a
  rw [hm] at hi
  have each:∀i,i<len→∃s:α,P s∧∃cs',w.cells? 0 ((⟨b,off,spot⟩:Addr).add (i*m)) m=some cs'∧cs'.length=m∧CellsRep w (eC s) cs':=by
   intro i hi'
   obtain ⟨cs',hcl,ht⟩:=hi i (by omega)
   have hln:cs'.length=m:=(World.cells?_some hcl).2.1
   obtain ⟨s,hs,hr⟩:=he _ _ _ hln ht
   exact ⟨s,hs,cs',hcl,hln,hr⟩
  obtain ⟨l,hll,hlp⟩:=choose_list _ len each
  refine ⟨l,fun s hs=>?_,?_⟩
  ·obtain ⟨i,hi'⟩:=List.mem_iff_getElem?.1 hs
   exact (hlp i s hi').1
  have hsp:len≠0→spot=none:=fun h0=>by
   obtain ⟨s,_,cs',hcl,h6,_⟩:=each 0 (by omega)
   obtain ⟨_,_,hat⟩:=World.cells?_some hcl
   have:=hat 0 hm0
   have h3:cs'[0]?=some (cs'[0]'(by omega)):=List.getElem?_eq_getElem (by omega)
   rw [h3] at this
   simpa [Addr.add] using World.cell?_spot this
  have cell:∀(i:Nat) (s:α) (k:Nat) (c:AVal),l[i]?=some s→(eC s)[k]?=some c→∃u,w.cell? ⟨b,off+(i*m+k),none⟩=some u∧RepP w (SafW w) c u:=fun i s k c hs hk=>by
   obtain ⟨_,cs',hcl,h6,hr⟩:=hlp i s hs
   have hil:i<len:=by have:=(List.getElem?_eq_some_iff.1 hs).1; omega
   obtain rfl:=hsp (by omega)
   obtain ⟨_,_,hat⟩:=World.cells?_some hcl
   have hk6:k<m:=by have:=(List.getElem?_eq_some_iff.1 hk).1; rw [hlen] at this; exact this
   have h1:=hat k hk6
   have h3:cs'[k]?=some (cs'[k]'(by omega)):=List.getElem?_eq_getElem (by omega)
   rw [addr_add,addr_add,h3] at h1
   exact ⟨_,by rw [←Nat.add_assoc]; exact h1,hr.2 k c _ hk h3⟩
  refine .slice _ _ _ _ b off m (fun q=>(w.cell? ⟨b,off+q,none⟩).getD undef) (by simp [hll]) hl (fun hne=>?_) ?_ ?_ ?_
  ·obtain rfl:=hsp (fun h0=>hne (by rw [h0] at hll; rw [List.length_eq_zero_iff.1 hll]; rfl))
   rfl
  ·intro x hx
   obtain ⟨s,_,rfl⟩:=List.mem_map.1 hx
   rw [hmk,hlen]
  ·intro i x k c hx hk
   rw [List.getElem?_map] at hx
   obtain ⟨s,hs,rfl⟩:=Option.map_eq_some_iff.1 hx
   rw [hmk] at hk
   obtain ⟨u,h1,_⟩:=cell i s k c hs hk
   refine ⟨by rw [h1]; rfl,saf_none (cell_lt h1)⟩
  ·intro i x k c hx hk
   rw [List.getElem?_map] at hx
   obtain ⟨s,hs,rfl⟩:=Option.map_eq_some_iff.1 hx
   rw [hmk] at hk
   obtain ⟨u,h1,h2⟩:=cell i s k c hs hk
   show RepP w _ c ((w.cell? _).getD undef)
   rw [h1]
   exact h2
theorem bytes_rep {w:World} {fuel t e:Nat} {v:Value} {x:DataW H×List MemPlace} (ht:Tryz.prog.underlying t=some (.slice e)) (he:Tryz.prog.underlying e=some (.int .u8)) (hc:Tryz.prog.cellsOf e=1) (h:DataW.trod enc Tryz.prog w 0 (fun _=>true) true fuel t [v]=some x) :
  ∃d:Bytes,RepP w (SafW w) (.slice .sh (d.map u8V)) v:=by
 obtain ⟨l,_,h⟩:=rows_rep (eC:=fun b=>[u8V b]) (mk:=u8V) (P:=fun _=>True) ht hc (by omega) (fun _=>rfl) (fun _=>rfl) (fun n cs y hl hy=>by
  match cs,hl with
  | [c],_ =>
   obtain ⟨b,hb⟩:=u8_rep he hy
   exact ⟨b,trivial,.one hb⟩) h
 exact ⟨l,h⟩
theorem true_calls {T:Tab} (hT:SoundC Tryz.prog (acall T)) {f:Nat} {args:List AVal} (h:acall T f args []=some (.bool true,[])) (w:World) (hG:Glob jX0 [] w) (vs:Array Value) (hl:args.length=vs.size) (hv:∀(i:Nat) (c:AVal) (v:Value),args[i]?=some c→vs[i]?=some v→Rep jX0 [] w c v) :
  Calls Tryz.prog f vs w fun e w'=>e = .returned (.bool true)∧Below w.heap.size w w':=by
 refine ((hT f args [] _ h).2 jX0 w vs (rel0 w) hG hl hv).mono ?_
 rintro e w' ⟨v,j',rfl,_,hx,hr⟩
 obtain rfl:=hr.bool_inv
 exact ⟨rfl,hx.os,hx.tape,hx.output,hx.size,fun k hk=>(hx.old k hk fun i hi=>absurd hi (Nat.not_lt_zero _)).1⟩
end
theorem two_of {α:Type} {a:Array α} {l:List α} (h:a.toList=l):a=l.toArray:=by rw [←h]
end Go.Proofs.YtannopdcbocngaaGreatDoor
namespace Go.Proofs.YtannopdcbocngaaGreatDoor
open Go Go.Abs
theorem u8_of_nat {n:Nat} (h:n<256):(UInt8.ofNat n).toNat=n:=by rw [UInt8.toNat_ofNat']; omega
theorem dec_digit (u:Nat):∀c,c∈Lib.decDigits u→48≤c.toNat∧c.toNat≤57:=by
 induction u using Nat.strongRecOn with
 |_ u ih =>
  intro c hc
  rw [Lib.decDigits] at hc
  split at hc
  ·rename_i h
   simp only [List.mem_singleton] at hc; subst hc
   rw [u8_of_nat (by omega)]; omega
  ·rename_i h
   rcases List.mem_append.1 hc with hc|hc
   ·exact ih (u / 10) (by omega) c hc
   ·simp only [List.mem_singleton] at hc; subst hc
    rw [u8_of_nat (by omega)]; omega
theorem itoa_byte {n:Int}:∀c,c∈Lib.itoa n→c=45∨(48≤c.toNat∧c.toNat≤57):=by
 intro c hc
 unfold Lib.itoa at hc
 split at hc
 ·rcases List.mem_cons.1 hc with rfl|hc
  ·exact .inl rfl
  ·exact .inr (dec_digit _ c hc)
 ·exact .inr (dec_digit _ c hc)
theorem all_bytes {P:UInt8→Prop} (h:∀n:Nat,n<256→P (UInt8.ofNat n)) (c:UInt8):P c:=by
 have:=h c.toNat c.toNat_lt
 simpa using this
theorem plain_facts:∀c:UInt8,(plainE c=true→c≠37∧c≠32∧c≠61∧c≠44∧c≠10∧c≠58)∧rawC (hexD (c.toNat / 16)) (hexD (c.toNat % 16))=c∧plainE (hexD (c.toNat / 16))=true∧plainE (hexD (c.toNat % 16))=true :=
 all_bytes (by decide +kernel)
theorem escB_byte (c:UInt8):∀x,x∈escB c→plainE x=true∨x=37:=by
 intro x hx
 unfold escB at hx
 split at hx
 ·rename_i h
  simp only [List.mem_singleton] at hx; subst hx; exact .inl h
 ·have h:=plain_facts c
  simp only [List.mem_cons,List.not_mem_nil,or_false] at hx
  rcases hx with rfl|rfl|rfl
  ·exact .inr rfl
  ·exact .inl h.2.2.1
  ·exact .inl h.2.2.2
theorem escN_byte {s:Bytes}:∀x,x∈escN s→plainE x=true∨x=37:=by
 intro x hx
 obtain ⟨c,_,hc⟩:=List.mem_flatMap.1 hx
 exact escB_byte c x hc
theorem plain_not:plainE 32=false∧plainE 61=false∧plainE 44=false∧plainE 10=false∧plainE 58=false∧plainE 37=false:=by decide +kernel
theorem cutL_noc {c:UInt8}:∀ {s:Bytes},c∉s→cutL c s=[s]
 | [],_=>rfl
 |x::r,h=>by
  rw [cutL,if_neg (fun e=>h (by rw [e]; simp)),cutL_noc (fun hc=>h (List.mem_cons_of_mem _ hc))]
  rfl
theorem cutL_app {c:UInt8}:∀ {a:Bytes} (b:Bytes),c∉a→cutL c (a++c::b)=a::cutL c b
 | [],b,_=>by simp [cutL]
 |x::r,b,h=>by
  rw [List.cons_append,cutL,if_neg (fun e=>h (by rw [e]; simp)),cutL_app b (fun hc=>h (List.mem_cons_of_mem _ hc))]
  rfl
theorem cutL_rows {c:UInt8}:∀(bs:List Bytes) (first:Bytes),c∉first→(∀b,b∈bs→c∉b)→cutL c (first++bs.flatMap (c :: ·))=first::bs
 | [],first,h,_=>by simpa using cutL_noc h
 |b::r,first,h,hb=>by
  rw [List.flatMap_cons,List.cons_append,cutL_app _ h,cutL_rows r b (hb b (by simp)) (fun x hx=>hb x (by simp [hx]))]
def bodyR (p:Bytes×Bytes):Bytes:=p.1++61::p.2
def nz (f:Fld):Bool:=f.n != 0||f.s != []
def valF (f:Fld):Bytes:=if f.n != 0 then Lib.itoa f.n else f.s
def rowsF (l:List Fld):List (Bytes×Bytes):=(l.filter nz).map fun f=>(f.word,valF f)
theorem fldsN_rows:∀l:List Fld,fldsN l=(rowsF l).flatMap fun p=>32::bodyR p
 | []=>rfl
 |f::l=>by
  have ih:=fldsN_rows l
  rw [show fldsN (f::l)=fldN f++fldsN l by simp [fldsN],ih]
  unfold fldN rowsF
  by_cases h1:(f.n != 0)=true
  ·rw [if_pos h1,List.filter_cons_of_pos (by simp only [nz,h1,Bool.true_or])]
   simp only [List.map_cons,List.flatMap_cons,bodyR,valF,h1,if_true]
   simp
  ·rw [if_neg h1]
   by_cases h2:(f.s != [])=true
   ·rw [if_pos h2,List.filter_cons_of_pos (by simp only [nz,h2,Bool.or_true])]
    simp only [List.map_cons,List.flatMap_cons,bodyR,valF]
    rw [if_neg h1]
    simp
   ·rw [if_neg h2,List.filter_cons_of_neg (by simp only [nz,Bool.or_eq_true,h1,h2,or_self,not_false_eq_true,Bool.false_eq_true])]
    rfl
end Go.Proofs.YtannopdcbocngaaGreatDoor
namespace Go.Proofs.YtannopdcbocngaaGreatDoor
open Go Go.Abs
attribute [local irreducible] exK opsK opK gK forkK kr acall callOp owhen obind
theorem natI (n:Nat):((n:Nat):Int).toNat=n:=by omega
theorem wid_u8 (d:Bytes):wid (List.take 300 (d.map u8V)) 1=True:=by rw [←List.map_take]; exact widU _
end Go.Proofs.YtannopdcbocngaaGreatDoor
namespace Go.Proofs.YtannopdcbocngaaGreatDoor
open Go Go.Abs Go.ChangeShapes Go.WideShapes Go.RowKit Go.Deep
theorem u_u8:Tryz.prog.underlying 5=some (.int .u8):=by kernel_rfl
theorem u_bytes:Tryz.prog.underlying 22=some (.slice 5):=by kernel_rfl
theorem c_one:Tryz.prog.cellsOf 3=1∧Tryz.prog.cellsOf 25=1∧Tryz.prog.cellsOf 9=1∧Tryz.prog.cellsOf 5=1∧Tryz.prog.cellsOf 22=1∧Tryz.prog.cellsOf 26=1∧Tryz.prog.cellsOf 24=8∧Tryz.prog.cellsOf 28=7∧Tryz.prog.cellsOf 57=17:=⟨by kernel_rfl,by kernel_rfl,by kernel_rfl,by kernel_rfl,by kernel_rfl,by kernel_rfl,by kernel_rfl,by kernel_rfl,by kernel_rfl⟩
section
variable {H:Type} {enc:TypeId×Value→H}
end
end Go.Proofs.YtannopdcbocngaaGreatDoor
namespace Go.Proofs.YtannopdcbocngaaGreatDoor
open Go Go.Abs
def isB (x:Option (AVal×AMem)) (b:Bool):Bool:=match x with
 |some (.bool c,[])=>c==b
 |_=>false
theorem isB_eq {x:Option (AVal×AMem)} {b:Bool} (h:isB x b=true):x=some (.bool b,[]):=by
 unfold isB at h
 split at h
 ·have:=beq_iff_eq.1 h; subst this; rfl
 ·cases h
def isI (x:Option (AVal×AMem)) (n:Int):Bool:=match x with
 |some (.int .i64 m,[])=>m==n
 |_=>false
theorem isI_eq {x:Option (AVal×AMem)} {b:Int} (h:isI x b=true):x=some (eI b,[]):=by
 unfold isI at h
 split at h
 ·have:=beq_iff_eq.1 h; subst this; rfl
 ·cases h
def ixN (c:UInt8):Int:=Lib.indexByte hexL c
theorem c71 (c:UInt8):acall tabS 71 [.int .u8 c.toNat] []=some (.bool (plainE c),[]):=by
 have h:(List.range 256).all (fun n=>isB (rcall tabR 4 8 71 [.int .u8 (n:Int)] []) (plainE (UInt8.ofNat n)))=true:=by kernel_rfl
 have h1:=List.all_eq_true.1 h c.toNat (List.mem_range.2 c.toNat_lt)
 have h2:=isB_eq h1
 rw [UInt8.ofNat_toNat] at h2
 exact run_sound h2
theorem k71 (c:UInt8) (M:AMem):callOp (acall tabS) 71 [.int .u8 c.toNat] M=some (.bool (plainE c),M):=callOp0 (c71 c) rfl rfl rfl rfl rfl M
theorem c72 (c:UInt8):acall tabS 72 [.int .u8 c.toNat] []=some (eI (ixN c),[]):=by
 have h:(List.range 256).all (fun n=>isI (rcall tabR 4 8 72 [.int .u8 (n:Int)] []) (ixN (UInt8.ofNat n)))=true:=by kernel_rfl
 have h1:=List.all_eq_true.1 h c.toNat (List.mem_range.2 c.toNat_lt)
 have h2:=isI_eq h1
 rw [UInt8.ofNat_toNat] at h2
 exact run_sound h2
theorem k72 (c:UInt8) (M:AMem):callOp (acall tabS) 72 [.int .u8 c.toNat] M=some (eI (ixN c),M):=callOp0 (c72 c) rfl rfl rfl rfl rfl M
attribute [local irreducible] exK opsK opK gK forkK kr acall callOp owhen obind
theorem mid_cut (p w r:Bytes):((p++(w++r)).take (p.length+w.length)).drop p.length=w:=by
 rw [show p.length+w.length=(p++w).length by simp,←List.append_assoc,List.take_left,List.drop_left]
theorem loop33 (s:Bytes) (c:UInt8) (hs:s.length≤1125899906842624) (C:CallF) (hC:C=acall tabS):∀(r p w:Bytes) (out:List Bytes),s=p++(w++r)→c∉w→out.length+(cutL c (w++r)).length≤1000001→∀(u:List Bytes),out++cutL c (w++r)=u→∀(fn:List ARes) (base:Nat) (k:List K),∃z:AVal,
  exK C fn base (.block 0::k) (.loop [0,1,5,6,7] lb33_0) [(0,.str s),(1,.int .u8 c.toNat),(5,.slice (.own 0) (out.map .str)),(6,eI p.length),(7,eI (p.length+w.length:Nat))] [.tick 1 out.length] =
  kr C fn base k ⟨.normal,[(0,.str s),(1,.int .u8 c.toNat),(5,.slice (.own 0) (u.map .str)),(6,z),(7,eI (s.length+1:Nat)),(12,.bool false)],[.tick 1 u.length]⟩
 | [],p,w,out,he,hw,ho,u,hu,fn,base,k=>by
  subst hC
  have hl:s.length=p.length+w.length:=by rw [he]; simp
  have hu':u=out++[w]:=by rw [←hu,List.append_nil,cutL_noc hw]
  rw [List.append_nil,cutL_noc hw,List.length_singleton] at ho
  subst hu'
  have hle:decide (((p.length+w.length:Nat):Int)≤(s.length:Int))=true:=by simp; omega
  have hlt:decide (((p.length+w.length+1:Nat):Int)≤(s.length:Int))=false:=by simp; omega
  have heq:(((p.length+w.length:Nat):Int)==(s.length:Int))=true:=by simp; omega
  have hsl:(s.take (p.length+w.length)).drop p.length=w:=by rw [he]; exact mid_cut p w []
  have hok:(((p.length+w.length:Nat):Int)≤((s.length:Nat):Int)∧((p.length:Nat):Int)≤((p.length+w.length:Nat):Int))=True:=by simp only [eq_iff_iff,iff_true]; omega
  have hw1:IntKind.i64.wrap (((p.length+w.length:Nat):Int)+1)=((p.length+w.length+1:Nat):Int):=by rw [wrapS (by omega) (by omega)]; simp
  have hr:=roomO (a:=out.length+1) (b:=16) (by omega) (by omega)
  refine ⟨eI ((p.length+w.length+1:Nat):Int),?_⟩
  rw [exK_loop]
  simp only [E33,hle,heq,hsl,hok,hw1,hr,natI,EVT,EVD,↓reduceIte,Nat.reduceEqDiff,reduceCtorEq,Nat.reduceAdd,Nat.reduceLeDiff,ne_eq,Nat.reduceLT,Int.reduceLT,Int.reduceLE,Int.reduceNeg]
  simp only [E33,widS,hw1,EVT,EVD,↓reduceIte,Nat.reduceEqDiff,reduceCtorEq,Nat.reduceAdd,Nat.reduceLeDiff,ne_eq,Nat.reduceLT,Int.reduceLT,Int.reduceLE,Int.reduceNeg]
  rw [exK_loop,show (s.length+1:Nat)=p.length+w.length+1 by omega]
  simp only [E33,hlt,List.map_append,List.map_cons,List.map_nil,List.length_append,List.length_cons,List.length_nil,Nat.zero_add,EVT,EVD,↓reduceIte,Nat.reduceEqDiff,reduceCtorEq,Nat.reduceAdd,Nat.reduceLeDiff,ne_eq,Nat.reduceLT,Int.reduceLT,Int.reduceLE,Int.reduceNeg]
 |x::r,p,w,out,he,hw,ho,u,hu,fn,base,k=>by
  subst hC
  have hl:s.length=p.length+w.length+(r.length+1):=by rw [he]; simp; omega
  have hle:decide (((p.length+w.length:Nat):Int)≤(s.length:Int))=true:=by simp; omega
  have heq:(((p.length+w.length:Nat):Int)==(s.length:Int))=false:=by simp; omega
  have hix:s[p.length+w.length]?=some x:=by rw [he,←List.append_assoc,List.getElem?_append_right (by simp)]; simp
  have hsl:(s.take (p.length+w.length)).drop p.length=w:=by rw [he]; exact mid_cut p w _
  have hok:(((p.length+w.length:Nat):Int)≤((s.length:Nat):Int)∧((p.length:Nat):Int)≤((p.length+w.length:Nat):Int))=True:=by simp only [eq_iff_iff,iff_true]; omega
  have hw1:IntKind.i64.wrap (((p.length+w.length:Nat):Int)+1)=((p.length+w.length+1:Nat):Int):=by rw [wrapS (by omega) (by omega)]; simp
  have hn:(0:Int)≤((p.length+w.length:Nat):Int):=by omega
  by_cases hx:x=c
  ·subst hx
   have hne:1≤(cutL x r).length:=List.length_pos_iff.2 (cutL_ne x r)
   rw [cutL_app _ hw,List.length_cons] at ho
   have hr:=roomO (a:=out.length+1) (b:=16) (by omega) (by omega)
   have hb:(((x.toNat:Nat):Int)==((x.toNat:Nat):Int))=true:=by simp
   obtain ⟨z,ih⟩:=loop33 s x hs (acall tabS) rfl r (p++(w++[x])) [] (out++[w]) (by rw [he]; simp) (by simp) (by simp only [List.length_append,List.length_cons,List.length_nil,List.nil_append]; omega) u (by rw [←hu,cutL_app _ hw]; simp) fn base k
   refine ⟨z,?_⟩
   simp only [List.length_append,List.length_cons,List.length_nil,Nat.zero_add,Nat.add_zero,List.map_append,List.map_cons,List.map_nil,←Nat.add_assoc] at ih
   rw [exK_loop]
   simp only [E33,hle,heq,hix,hn,hb,EVT,EVD,↓reduceIte,Nat.reduceEqDiff,reduceCtorEq,Nat.reduceAdd,Nat.reduceLeDiff,ne_eq,Nat.reduceLT,Int.reduceLT,Int.reduceLE,Int.reduceNeg]
   simp only [E33,hsl,hok,hw1,hr,natI,EVT,EVD,↓reduceIte,Nat.reduceEqDiff,reduceCtorEq,Nat.reduceAdd,Nat.reduceLeDiff,ne_eq,Nat.reduceLT,Int.reduceLT,Int.reduceLE,Int.reduceNeg]
   simp only [E33,widS,hw1,EVT,EVD,↓reduceIte,Nat.reduceEqDiff,reduceCtorEq,Nat.reduceAdd,Nat.reduceLeDiff,ne_eq,Nat.reduceLT,Int.reduceLT,Int.reduceLE,Int.reduceNeg]
   exact ih
  ·have hb:(((x.toNat:Nat):Int)==((c.toNat:Nat):Int))=false:=by
    simp only [beq_eq_false_iff_ne,ne_eq,Int.natCast_inj]
    exact fun e=>hx (UInt8.toNat_inj.1 e)
   obtain ⟨z,ih⟩:=loop33 s c hs (acall tabS) rfl r p (w++[x]) out (by rw [he]; simp) (by simp [hw]; exact fun e=>hx e.symm) (by simpa using ho) u (by rw [←hu]; simp) fn base k
   refine ⟨z,?_⟩
   simp only [List.length_append,List.length_cons,List.length_nil,Nat.zero_add,←Nat.add_assoc] at ih
   rw [exK_loop]
   simp only [E33,hle,heq,hix,hn,hb,EVT,EVD,↓reduceIte,Nat.reduceEqDiff,reduceCtorEq,Nat.reduceAdd,Nat.reduceLeDiff,ne_eq,Nat.reduceLT,Int.reduceLT,Int.reduceLE,Int.reduceNeg]
   simp only [E33,hw1,EVT,EVD,↓reduceIte,Nat.reduceEqDiff,reduceCtorEq,Nat.reduceAdd,Nat.reduceLeDiff,ne_eq,Nat.reduceLT,Int.reduceLT,Int.reduceLE,Int.reduceNeg]
   exact ih
theorem c33g (s:Bytes) (c:UInt8) (hs:s.length≤1125899906842624) (hp:(cutL c s).length≤1000001):acall tabS 33 [.str s,.int .u8 c.toNat] []=some (.slice .sh ((cutL c s).map .str),[]):=by
 refine acall_ex rfl rfl rfl ?_
 have h0:=fun fn base k=>loop33 s c hs (acall tabS) rfl s [] [] [] rfl (by simp) (by simpa using hp) _ rfl fn base k
 simp only [List.length_nil,List.nil_append,List.map_nil,Nat.add_zero] at h0
 simp only [fn33,E33,EVT,EVD,↓reduceIte,Nat.reduceEqDiff,reduceCtorEq,Nat.reduceAdd,Nat.reduceLeDiff,ne_eq,Nat.reduceLT,Int.reduceLT,Int.reduceLE,Int.reduceNeg]
 obtain ⟨z,h1⟩:=h0 [.tmp 4] 0 [.seq q33_4]
 refine h1.trans ?_
 simp only [E33,EVT,EVD,↓reduceIte,Nat.reduceEqDiff,reduceCtorEq,Nat.reduceAdd,Nat.reduceLeDiff,ne_eq,Nat.reduceLT,Int.reduceLT,Int.reduceLE,Int.reduceNeg]
theorem k33g (s:Bytes) (c:UInt8) (hs:s.length≤1125899906842624) (hp:(cutL c s).length≤1000001) (M:AMem):callOp (acall tabS) 33 [.str s,.int .u8 c.toNat] M=some (.slice .sh ((cutL c s).map .str),M):=callOp0 (c33g s c hs hp) rfl rfl rfl rfl rfl M
theorem c33 (s:Bytes) (c:UInt8) (hs:s.length≤1000000):acall tabS 33 [.str s,.int .u8 c.toNat] []=some (.slice .sh ((cutL c s).map .str),[]):=c33g s c (by omega) (by have:=cutL_len c s; omega)
theorem k33 (s:Bytes) (c:UInt8) (hs:s.length≤1000000) (M:AMem):callOp (acall tabS) 33 [.str s,.int .u8 c.toNat] M=some (.slice .sh ((cutL c s).map .str),M):=callOp0 (c33 s c hs) rfl rfl rfl rfl rfl M
end Go.Proofs.YtannopdcbocngaaGreatDoor
namespace Go.Proofs.YtannopdcbocngaaGreatDoor
open Go Go.Abs
attribute [local irreducible] exK opsK opK gK forkK kr acall callOp owhen obind
theorem bytes_one (c:UInt8):bytesOf [.int .u8 ((c.toNat:Nat):Int)]=some [c]:=bytes_u8 [c]
theorem z10:((10:Int)=0)=False:=by simp
def numT (m:Nat) (s:Bytes):Bytes:=if m=0∧s≠[] then s else Lib.decDigits m++s
theorem numT_step {m:Nat} {s:Bytes} (h:0<m∨s=[]):numT m s=numT (m / 10) (UInt8.ofNat (48+m % 10)::s):=by
 have h0:¬(m=0∧s≠[]):=fun e=>by
  rcases h with h|h
  ·omega
  ·exact e.2 h
 unfold numT
 rw [if_neg h0]
 by_cases h1:m<10
 ·rw [if_pos ⟨by omega,by simp⟩,Lib.decDigits,dif_pos h1,show m % 10=m by omega]
  rfl
 ·rw [if_neg (fun e=>by omega),Lib.decDigits,dif_neg h1]
  simp
theorem loop37 (n:Int) (C:CallF) (hC:C=acall tabS):∀(f m:Nat),m<f→m<18446744073709551616→∀(s u:Bytes),(s=[]→m+1<f)→u.length≤1000→numT m s=u→∀(fn:List ARes) (base:Nat) (k:List K),
  exK C fn base (.block 0::k) (.loop [0,3,4] lb37_0) [(0,eI n),(3,.int .u64 m),(4,.str s)] [] =
  kr C fn base k ⟨.normal,[(0,eI n),(3,.int .u64 (0:Int)),(4,.str u),(16,.bool false)],[]⟩
 |0,m,hf,_,_,_,_,_,_,_,_,_=>by omega
 |f+1,m,hf,hm,s,u,hf2,hu1,hu,fn,base,k=>by
  subst hC
  by_cases hg:0<m∨s=[]
  ·have hst:=numT_step hg
   have ih:=loop37 n (acall tabS) rfl f (m / 10)
   have hq:IntKind.u64.wrap ((m:Int).tdiv 10)=((m / 10:Nat):Int):=by
    have:(m:Int).tdiv 10=((m / 10:Nat):Int):=by rw [Int.tdiv_eq_ediv_of_nonneg (by omega)]; omega
    rw [this,IntKind.wrap_u64]; omega
   have hr:IntKind.u64.wrap (48+(m:Int).tmod 10)=((48+m % 10:Nat):Int):=by
    have:(m:Int).tmod 10=((m % 10:Nat):Int):=by rw [Int.tmod_eq_emod_of_nonneg (by omega)]; omega
    rw [this,IntKind.wrap_u64]; omega
   have hc:IntKind.u8.wrap ((48+m % 10:Nat):Int)=(((UInt8.ofNat (48+m % 10)).toNat:Nat):Int):=by
    rw [u8_of_nat (by omega),IntKind.wrap_u8]; omega
   have hl:(UInt8.ofNat (48+m % 10)::s).length≤(numT m s).length:=by
    rw [hst]; unfold numT
    split
    ·exact Nat.le_refl _
    ·simp
   rw [hu,List.length_cons] at hl
   have hmx:=max_lt (1+s.length) (by omega)
   have hf3:m / 10<f:=by
    rcases hg with h|h
    ·omega
    ·have:=hf2 h; omega
   have ih':=ih hf3 (by omega) (UInt8.ofNat (48+m % 10)::s) u (fun e=>by cases e) hu1 (by rw [←hst]; exact hu) fn base k
   rw [exK_loop]
   rcases Nat.eq_zero_or_pos m with h0|h0
   ·have hs:s=[]:=hg.resolve_left (by omega)
    have hb:decide (0<(m:Int))=false:=by simp; omega
    subst hs
    simp only [E37,hb,z10,hr,hq,hc,bytes_one,hmx,List.length_nil,EVT,EVD,↓reduceIte,Nat.reduceEqDiff,reduceCtorEq,Nat.reduceAdd,Nat.reduceLeDiff,ne_eq,Nat.reduceLT,Int.reduceLT,Int.reduceLE,Int.reduceNeg]
    exact ih'
   ·have hb:decide (0<(m:Int))=true:=by simp; omega
    simp only [E37,hb,z10,hr,hq,hc,bytes_one,hmx,EVT,EVD,↓reduceIte,Nat.reduceEqDiff,reduceCtorEq,Nat.reduceAdd,Nat.reduceLeDiff,ne_eq,Nat.reduceLT,Int.reduceLT,Int.reduceLE,Int.reduceNeg]
    exact ih'
  ·have h0:m=0:=by omega
   have hs:s≠[]:=fun e=>hg (.inr e)
   subst h0
   have hb2:(s==[])=false:=by simpa using hs
   have hu':u=s:=by rw [←hu]; unfold numT; rw [if_pos ⟨rfl,hs⟩]
   subst hu'
   rw [exK_loop]
   simp only [E37,hb2,show decide (0<((0:Nat):Int))=false from rfl,show ((0:Nat):Int)=0 from rfl,EVT,EVD,↓reduceIte,Nat.reduceEqDiff,reduceCtorEq,Nat.reduceAdd,Nat.reduceLeDiff,ne_eq,Nat.reduceLT,Int.reduceLT,Int.reduceLE,Int.reduceNeg]
   done
theorem c37 (n:Int) (h:okI n):acall tabS 37 [eI n] []=some (.str (Lib.itoa n),[]):=by
 refine acall_ex rfl rfl rfl ?_
 have h':=h
 unfold okI at h'
 have h0:=fun m hm hl=>loop37 n (acall tabS) rfl (m+2) m (by omega) hm [] _ (fun _=>by omega) hl rfl
 have e0:∀m,numT m []=Lib.decDigits m:=fun m=>by unfold numT; rw [if_neg (by simp)]; simp
 simp only [e0] at h0
 have hl:=itoa_le h
 by_cases hn:n<0
 ·have hb:decide (n<0)=true:=by simpa using hn
  have hw:IntKind.u64.wrap n=((n+18446744073709551616).toNat:Int):=by rw [IntKind.wrap_u64]; omega
  have hw2:IntKind.u64.wrap (0-((n+18446744073709551616).toNat:Int))=((n.natAbs:Nat):Int):=by rw [IntKind.wrap_u64]; omega
  have hi:Lib.itoa n=45::Lib.decDigits n.natAbs:=by unfold Lib.itoa; rw [if_pos hn]
  simp only [fn37,E37,hb,hw,hw2,EVT,EVD,↓reduceIte,Nat.reduceEqDiff,reduceCtorEq,Nat.reduceAdd,Nat.reduceLeDiff,ne_eq,Nat.reduceLT,Int.reduceLT,Int.reduceLE,Int.reduceNeg]
  rw [hi,List.length_cons] at hl
  refine (h0 n.natAbs (by omega) (by omega) _ _ _).trans ?_
  have hmx:=max_lt (1+(Lib.decDigits n.natAbs).length) (by omega)
  rw [hi]
  simp only [E37,hb,hmx,EVT,EVD,↓reduceIte,Nat.reduceEqDiff,reduceCtorEq,Nat.reduceAdd,Nat.reduceLeDiff,ne_eq,Nat.reduceLT,Int.reduceLT,Int.reduceLE,Int.reduceNeg]
 ·have hb:decide (n<0)=false:=by simpa using hn
  have hw:IntKind.u64.wrap n=((n.toNat:Nat):Int):=by rw [IntKind.wrap_u64]; omega
  have hi:Lib.itoa n=Lib.decDigits n.toNat:=by unfold Lib.itoa; rw [if_neg hn]
  simp only [fn37,E37,hb,hw,EVT,EVD,↓reduceIte,Nat.reduceEqDiff,reduceCtorEq,Nat.reduceAdd,Nat.reduceLeDiff,ne_eq,Nat.reduceLT,Int.reduceLT,Int.reduceLE,Int.reduceNeg]
  rw [hi] at hl
  refine (h0 n.toNat (by omega) (by omega) _ _ _).trans ?_
  simp only [E37,hb,hi,EVT,EVD,↓reduceIte,Nat.reduceEqDiff,reduceCtorEq,Nat.reduceAdd,Nat.reduceLeDiff,ne_eq,Nat.reduceLT,Int.reduceLT,Int.reduceLE,Int.reduceNeg]
theorem k37 (n:Int) (h:okI n) (M:AMem):callOp (acall tabS) 37 [eI n] M=some (.str (Lib.itoa n),M):=callOp0 (c37 n h) rfl rfl rfl rfl rfl M
end Go.Proofs.YtannopdcbocngaaGreatDoor
namespace Go.Proofs.YtannopdcbocngaaGreatDoor
open Go Go.Abs
attribute [local irreducible] exK opsK opK gK forkK kr acall callOp owhen obind
def refC (a b:UInt8):UInt8:=UInt8.ofNat (16*ixN a+ixN b).toNat
def badC (a b:UInt8):Bool:=decide (ixN a<0)||decide (ixN b<0)||plainE (refC a b)
def rawO:Bytes→Option Bytes
 |c::a::b::r=>if plainE c=true then (rawO (a::b::r)).map (c :: ·) else if c=37∧badC a b=false then (rawO r).map (refC a b :: ·) else none
 |c::r=>if plainE c=true then (rawO r).map (c :: ·) else none
 | []=>some []
theorem rawO_plain {c:UInt8} (h:plainE c=true) (r:Bytes):rawO (c::r)=(rawO r).map (c :: ·):=by
 match r with
 | []=>rw [rawO,if_pos h]; intro a b r e; cases e
 | [a]=>rw [rawO,if_pos h]; intro a b r e; cases e
 |a::b::r=>rw [rawO,if_pos h]
def rawRes (out r:Bytes):Bytes×Bool:=match rawO r with
 |some u=>(out++u,true)
 |none=>([],false)
theorem rawRes_step {out r r':Bytes} {x:UInt8} (h:rawO r=(rawO r').map (x :: ·)):rawRes (out++[x]) r'=rawRes out r:=by
 unfold rawRes
 rw [h]
 cases rawO r' with
 |none=>rfl
 |some u=>simp
theorem rawRes_none {out r:Bytes} (h:rawO r=none):rawRes out r=([],false):=by unfold rawRes; rw [h]
theorem ix_le:∀c:UInt8,-1≤ixN c∧ixN c≤15:=all_bytes (by decide +kernel)
theorem loop34 (s:Bytes) (hs:s.length≤1000000) (C:CallF) (hC:C=acall tabS):∀(n:Nat) (r pre out:Bytes),r.length≤n→s=pre++r→out.length≤pre.length →
  exK C [.tmp 2,.tmp 3] 0 [.block 0,.seq q34_11] (.loop [0,4,5] lb34_0) [(0,.str s),(4,.slice (.own 0) (out.map u8V)),(5,eI pre.length)] [.tick 1 out.length] =
  some (.tuple [.str (rawRes out r).1,.bool (rawRes out r).2],[])
 |n,[],pre,out,hn,he,ho=>by
  subst hC
  have hp:pre=s:=by simpa using he.symm
  subst hp
  rw [exK_loop]
  have hlt:decide ((pre.length:Int)<pre.length)=false:=by simp
  have h0:rawRes out []=(out,true):=by simp [rawRes,rawO]
  rw [h0]
  simp only [E34,hlt,bytes_u8,EVT,EVD,↓reduceIte,Nat.reduceEqDiff,reduceCtorEq,Nat.reduceAdd,Nat.reduceLeDiff,ne_eq,Nat.reduceLT,Int.reduceLT,Int.reduceLE,Int.reduceNeg]
 |0,c::r,pre,out,hn,he,ho=>by simp at hn
 |n+1,c::r,pre,out,hn,he,ho=>by
  subst hC
  have hl:pre.length<s.length:=by rw [he]; simp
  have hlt:decide ((pre.length:Int)<s.length)=true:=by simpa using hl
  have hix:s[pre.length]?=some c:=by rw [he]; simp
  have hp:(0:Int)≤pre.length:=by omega
  have hw:IntKind.i64.wrap ((pre.length:Int)+1)=((pre.length+1:Nat):Int):=by rw [wrapS (by omega) (by omega)]; simp
  have hw2:IntKind.i64.wrap ((pre.length:Int)+2)=((pre.length+2:Nat):Int):=by rw [wrapS (by omega) (by omega)]; simp
  have hw3:IntKind.i64.wrap (((pre.length+2:Nat):Int)+1)=((pre.length+3:Nat):Int):=by rw [wrapS (by omega) (by omega)]; omega
  have hr:=roomO (a:=out.length+1) (b:=1) (by omega) (by omega)
  rw [exK_loop]
  by_cases hc:plainE c=true
  ·have ih:=loop34 s hs (acall tabS) rfl n r (pre++[c]) (out++[c]) (by simpa using hn) (by simpa using he) (by simp; omega)
   rw [rawRes_step (rawO_plain hc r)] at ih
   simp only [List.length_append,List.length_cons,List.length_nil,Nat.zero_add,List.map_append,List.map_cons,List.map_nil] at ih
   simp only [E34,hlt,hix,hp,k71,hc,hr,hw,EVT,EVD,↓reduceIte,Nat.reduceEqDiff,reduceCtorEq,Nat.reduceAdd,Nat.reduceLeDiff,ne_eq,Nat.reduceLT,Int.reduceLT,Int.reduceLE,Int.reduceNeg]
   simp only [E34,widU,hw,EVT,EVD,↓reduceIte,Nat.reduceEqDiff,reduceCtorEq,Nat.reduceAdd,Nat.reduceLeDiff,ne_eq,Nat.reduceLT,Int.reduceLT,Int.reduceLE,Int.reduceNeg]
   exact ih
  ·have hc0:plainE c=false:=by simpa using hc
   by_cases h37:c=37
   ·have hb37:(((c.toNat:Nat):Int) != 37)=false:=by rw [h37]; rfl
    match r,hn,he with
    | [],hn,he =>
     have hge:decide (((s.length:Nat):Int)≤((pre.length+2:Nat):Int))=true:=by rw [he]; simp
     have hn0:rawO [c]=none:=by rw [rawO,if_neg hc]; intro a b r e; cases e
     rw [rawRes_none hn0]
     simp only [E34,hlt,hix,hp,k71,hc0,hb37,hw2,hge,EVT,EVD,↓reduceIte,Nat.reduceEqDiff,reduceCtorEq,Nat.reduceAdd,Nat.reduceLeDiff,ne_eq,Nat.reduceLT,Int.reduceLT,Int.reduceLE,Int.reduceNeg]
    | [a],hn,he =>
     have hge:decide (((s.length:Nat):Int)≤((pre.length+2:Nat):Int))=true:=by rw [he]; simp
     have hn0:rawO [c,a]=none:=by rw [rawO,if_neg hc]; intro a b r e; cases e
     rw [rawRes_none hn0]
     simp only [E34,hlt,hix,hp,k71,hc0,hb37,hw2,hge,EVT,EVD,↓reduceIte,Nat.reduceEqDiff,reduceCtorEq,Nat.reduceAdd,Nat.reduceLeDiff,ne_eq,Nat.reduceLT,Int.reduceLT,Int.reduceLE,Int.reduceNeg]
    |a::b::r,hn,he =>
     have hge:decide (((s.length:Nat):Int)≤((pre.length+2:Nat):Int))=false:=by rw [he]; simp; omega
     have hia:s[pre.length+1]?=some a:=by rw [he,List.getElem?_append_right (by omega)]; simp
     have hib:s[pre.length+2]?=some b:=by rw [he,List.getElem?_append_right (by omega)]; simp
     have hp1:(0:Int)≤((pre.length+1:Nat):Int):=by omega
     have hp2:(0:Int)≤((pre.length+2:Nat):Int):=by omega
     have la:=ix_le a
     have lb:=ix_le b
     by_cases ga:ixN a<0
     ·have da:decide (ixN a<0)=true:=by simpa using ga
      have hn0:rawO (c::a::b::r)=none:=by rw [rawO,if_neg hc,if_neg (fun e=>by simp [badC,da] at e)]
      rw [rawRes_none hn0]
      simp only [E34,hlt,hix,hp,k71,hc0,hb37,hw2,hge,hw,hia,hib,hp1,hp2,natI,k72,da,EVT,EVD,↓reduceIte,Nat.reduceEqDiff,reduceCtorEq,Nat.reduceAdd,Nat.reduceLeDiff,ne_eq,Nat.reduceLT,Int.reduceLT,Int.reduceLE,Int.reduceNeg]
     ·have da:decide (ixN a<0)=false:=by simpa using ga
      by_cases gb:ixN b<0
      ·have db:decide (ixN b<0)=true:=by simpa using gb
       have hn0:rawO (c::a::b::r)=none:=by rw [rawO,if_neg hc,if_neg (fun e=>by simp [badC,db] at e)]
       rw [rawRes_none hn0]
       simp only [E34,hlt,hix,hp,k71,hc0,hb37,hw2,hge,hw,hia,hib,hp1,hp2,natI,k72,da,db,EVT,EVD,↓reduceIte,Nat.reduceEqDiff,reduceCtorEq,Nat.reduceAdd,Nat.reduceLeDiff,ne_eq,Nat.reduceLT,Int.reduceLT,Int.reduceLE,Int.reduceNeg]
      ·have db:decide (ixN b<0)=false:=by simpa using gb
       have w1:IntKind.i64.wrap (16*ixN a)=16*ixN a:=wrapS (by omega) (by omega)
       have w2:IntKind.i64.wrap (16*ixN a+ixN b)=16*ixN a+ixN b:=wrapS (by omega) (by omega)
       have w3:IntKind.u8.wrap (16*ixN a+ixN b)=(((refC a b).toNat:Nat):Int):=by
        unfold refC
        rw [u8_of_nat (by omega),IntKind.wrap_u8]; omega
       by_cases gp:plainE (refC a b)=true
       ·have hn0:rawO (c::a::b::r)=none:=by rw [rawO,if_neg hc,if_neg (fun e=>by simp [badC,gp] at e)]
        rw [rawRes_none hn0]
        simp only [E34,hlt,hix,hp,k71,hc0,hb37,hw2,hge,hw,hia,hib,hp1,hp2,natI,k72,da,db,w1,w2,w3,gp,EVT,EVD,↓reduceIte,Nat.reduceEqDiff,reduceCtorEq,Nat.reduceAdd,Nat.reduceLeDiff,ne_eq,Nat.reduceLT,Int.reduceLT,Int.reduceLE,Int.reduceNeg]
       ·have gp0:plainE (refC a b)=false:=by simpa using gp
        have hn1:rawO (c::a::b::r)=(rawO r).map (refC a b :: ·):=by rw [rawO,if_neg hc,if_pos ⟨h37,by simp [badC,da,db,gp0]⟩]
        have ih:=loop34 s hs (acall tabS) rfl n r (pre++[c,a,b]) (out++[refC a b]) (by simp at hn ⊢; omega) (by simpa using he) (by simp; omega)
        rw [rawRes_step hn1] at ih
        simp only [List.length_append,List.length_cons,List.length_nil,Nat.zero_add,Nat.reduceAdd,List.map_append,List.map_cons,List.map_nil] at ih
        simp only [E34,hlt,hix,hp,k71,hc0,hb37,hw2,hge,hw,hia,hib,hp1,hp2,natI,k72,da,db,w1,w2,w3,gp0,hr,EVT,EVD,↓reduceIte,Nat.reduceEqDiff,reduceCtorEq,Nat.reduceAdd,Nat.reduceLeDiff,ne_eq,Nat.reduceLT,Int.reduceLT,Int.reduceLE,Int.reduceNeg]
        simp only [E34,widU,hw2,hw3,EVT,EVD,↓reduceIte,Nat.reduceEqDiff,reduceCtorEq,Nat.reduceAdd,Nat.reduceLeDiff,ne_eq,Nat.reduceLT,Int.reduceLT,Int.reduceLE,Int.reduceNeg]
        exact ih
   ·have hb37:(((c.toNat:Nat):Int) != 37)=true:=by
     simp only [bne_iff_ne,ne_eq]
     intro e
     have h3:c.toNat=37:=by omega
     exact h37 (UInt8.toNat_inj.1 (by rw [h3]; rfl))
    have hn0:rawO (c::r)=none:=by
     match r with
     | []=>rw [rawO,if_neg hc]; intro a b r e; cases e
     | [a]=>rw [rawO,if_neg hc]; intro a b r e; cases e
     |a::b::r=>rw [rawO,if_neg hc,if_neg (fun e=>h37 e.1)]
    rw [rawRes_none hn0]
    simp only [E34,hlt,hix,hp,k71,hc0,hb37,EVT,EVD,↓reduceIte,Nat.reduceEqDiff,reduceCtorEq,Nat.reduceAdd,Nat.reduceLeDiff,ne_eq,Nat.reduceLT,Int.reduceLT,Int.reduceLE,Int.reduceNeg]
def refRaw (s:Bytes):Bytes×Bool:=rawRes [] s
theorem c34 (s:Bytes) (hs:s.length≤1000000):acall tabS 34 [.str s] []=some (.tuple [.str (refRaw s).1,.bool (refRaw s).2],[]):=by
 refine acall_ex rfl rfl rfl ?_
 have h0:=loop34 s hs (acall tabS) rfl s.length s [] [] (Nat.le_refl _) rfl (Nat.le_refl _)
 simp only [fn34,E34,EVT,EVD,↓reduceIte,Nat.reduceEqDiff,reduceCtorEq,Nat.reduceAdd,Nat.reduceLeDiff,ne_eq,Nat.reduceLT,Int.reduceLT,Int.reduceLE,Int.reduceNeg]
 exact h0
theorem k34 (s:Bytes) (hs:s.length≤1000000) (M:AMem):callOp (acall tabS) 34 [.str s] M=some (.tuple [.str (refRaw s).1,.bool (refRaw s).2],M):=callOp0 (c34 s hs) rfl rfl rfl rfl rfl M
theorem refC_facts:∀c:UInt8,refC (hexD (c.toNat / 16)) (hexD (c.toNat % 16))=c∧(plainE c=false→badC (hexD (c.toNat / 16)) (hexD (c.toNat % 16))=false):=all_bytes (by decide +kernel)
theorem rawO_esc:∀s:Bytes,rawO (escN s)=some s
 | []=>rfl
 |c::r=>by
  have ih:=rawO_esc r
  have h:=refC_facts c
  rw [show escN (c::r)=escB c++escN r by simp [escN]]
  unfold escB
  split
  ·rename_i hp
   rw [show [c]++escN r=c::escN r from rfl,rawO_plain hp,ih]; rfl
  ·rename_i hp
   have hp0:plainE c=false:=by simpa using hp
   rw [show [37,hexD (c.toNat / 16),hexD (c.toNat % 16)]++escN r=37::hexD (c.toNat / 16)::hexD (c.toNat % 16)::escN r from rfl,rawO,if_neg (by rw [plain_not.2.2.2.2.2]; simp),if_pos ⟨rfl,h.2 hp0⟩,ih,h.1]
   rfl
theorem refRaw_esc (s:Bytes):refRaw (escN s)=(s,true):=by
 unfold refRaw rawRes
 rw [rawO_esc]
 rfl
end Go.Proofs.YtannopdcbocngaaGreatDoor
set_option linter.defProp false
namespace Go.Proofs.YtannopdcbocngaaGreatDoor
open Go Go.Abs
def q11_0:ACode :=
 (.seq (.region [
 ob 2 (.mv (.cst (.bool true)))] false [2]) (.ret))
def q11_1:ACode :=
 (.seq (.region [
 ob 2 (.mv (.cst (.bool true)))] false [2]) (.ret))
def q11_2:ACode :=
 (.region [
 ob 11 (.mv (.tmp 3)),
 ob 12 (.bin .add (.tmp 11) (.cst (.int .i64 1))),
 ob 3 (.mv (.tmp 12))] false [0,3])
def q11_3:ACode :=
 (.seq (.block 1 (.seq (.region [
 ob 13 (.mv (.tmp 0)),
 ob 14 (.mv (.tmp 3)),
 ob 15 (.iaddr 6 (.tmp 13) (.tmp 14)),
 ob 16 (.faddr 5 (.tmp 15)),
 ob 17 (.load1 (.tmp 16)),
 ob 18 (.lenV (.tmp 17)),
 ob 19 (.bin .gtr (.tmp 18) (.cst (.int .i64 5000)))] false [0,3,19]) (.cond (.tmp 19) q11_1 (.skip)))) q11_2)
def lb11_0:ACode :=
 (.seq (.seq (.region [
 ob 7 (.mv (.tmp 3)),
 ob 8 (.mv (.tmp 0)),
 ob 9 (.lenV (.tmp 8)),
 ob 10 (.bin .lss (.tmp 7) (.tmp 9))] false [0,3,10]) (.cond (.tmp 10) (.skip) (.exit 0))) q11_3)
def q11_4:ACode :=
 (.seq (.region [
 ob 2 (.mv (.cst (.bool false)))] false [2]) (.ret))
def q11_5:ACode :=
 (.seq (.seq (.region [
 ob 3 (.mv (.cst (.int .i64 0)))] false [0,3]) (.block 0 (.loop [0,3] lb11_0))) q11_4)
def q11_6:ACode :=
 (.seq (.seq (.region [
 ob 4 (.mv (.tmp 0)),
 ob 5 (.lenV (.tmp 4)),
 ob 6 (.bin .gtr (.tmp 5) (.cst (.int .i64 60)))] false [0,6]) (.cond (.tmp 6) q11_0 (.skip))) q11_5)
def E11:=And.intro (exK_head q11_0.eq_1) (And.intro (exK_head q11_1.eq_1) (And.intro (exK_head q11_2.eq_1) (And.intro (exK_head q11_3.eq_1) (And.intro (exK_head lb11_0.eq_1) (And.intro (exK_head q11_4.eq_1) (And.intro (exK_head q11_5.eq_1) (exK_head q11_6.eq_1)))))))
def ann11:Ann:={ n:=20,own:=[],lv:=[(0,[0]),(1,[0,6]),(2,[2]),(3,[0,3]),(4,[0,3,10]),(5,[0,3]),(6,[0,3,19]),(7,[2]),(8,[2])],lp:=[(4,[0,3])] }
def fn11:AFn:=AFn.mk 1 [.tmp 2]
 (.seq (.region [
 ob 2 (.mv (.cst (.bool false)))] false [0]) q11_6)
theorem ok11:compFn Tryz.prog ann11 Tryz.f11=some fn11:=by kernel_rfl
def q14_0:ACode :=
 (.region [
 ob 25 (.loadA 3 (.tmp 5)),
 ox (.store 3 (.tmp 3) (.tmp 25))] false [0,2,3,4])
def q14_1:ACode :=
 (.region [
 ob 13 (.mv (.tmp 4)),
 ob 14 (.bin .add (.tmp 13) (.cst (.int .i64 1))),
 ob 4 (.mv (.tmp 14))] false [0,2,3,4])
def q14_2:ACode :=
 (.seq (.block 1 (.seq (.region [
 ob 16 (.loadA 3 (.tmp 3)),
 ob 17 (.mv (.tmp 0)),
 ob 18 (.mv (.tmp 4)),
 ob 19 (.iaddr 6 (.tmp 17) (.tmp 18)),
 ob 20 (.loadA 6 (.tmp 19)),
 ⟨(some 21),.call 41 [(.tmp 16),(.tmp 20)],none,false,true,[]⟩,
 ob 15 (.mv (.tmp 21)),
 ob 22 (.extract (.tmp 15) 0),
 ob 23 (.extract (.tmp 15) 1),
 ob 24 (.extract (.tmp 15) 2),
 ⟨(some 5),.box0 [(.slice .c0 []),(.int .i64 0),(.int .i64 0)],none,true,false,[]⟩,
 ox (.store 3 (.tmp 5) (.tmp 22)),
 ob 6 (.mv (.tmp 23)),
 ob 7 (.mv (.tmp 24))] true [0,2,3,4,5]) q14_0)) q14_1)
def lb14_0:ACode :=
 (.seq (.seq (.region [
 ob 9 (.mv (.tmp 4)),
 ob 10 (.mv (.tmp 0)),
 ob 11 (.lenV (.tmp 10)),
 ob 12 (.bin .lss (.tmp 9) (.tmp 11))] false [0,2,3,4,12]) (.cond (.tmp 12) (.skip) (.exit 0))) q14_2)
def q14_3:ACode :=
 (.seq (.region [
 ob 26 (.loadA 3 (.tmp 3)),
 ox (.store 3 (.tmp 2) (.tmp 26))] false [2]) (.ret))
def q14_4:ACode :=
 (.seq (.seq (.region [
 ob 4 (.mv (.cst (.int .i64 0)))] false [0,2,3,4]) (.block 0 (.loop [0,2,3,4] lb14_0))) q14_3)
def q14_5:ACode :=
 (.seq (.region [
 ob 8 (.call 40 []),
 ob 3 (.box0 [(.slice .c0 []),(.int .i64 0),(.int .i64 0)]),
 ox (.store 3 (.tmp 3) (.tmp 8))] false [0,2,3]) q14_4)
def E14:=And.intro (exK_head q14_0.eq_1) (And.intro (exK_head q14_1.eq_1) (And.intro (exK_head q14_2.eq_1) (And.intro (exK_head lb14_0.eq_1) (And.intro (exK_head q14_3.eq_1) (And.intro (exK_head q14_4.eq_1) (exK_head q14_5.eq_1))))))
def ann14:Ann:={ n:=27,own:=[],lv:=[(0,[0,2]),(1,[0,2,3]),(2,[0,2,3,4]),(3,[0,2,3,4,12]),(4,[0,2,3,4]),(5,[0,2,3,4,5]),(6,[0,2,3,4]),(7,[2])],lp:=[(3,[0,2,3,4])] }
def fn14:AFn:=AFn.mk 1 [.cellA 2 3]
 (.seq (.region [
 ob 2 (.box0 [(.slice .c0 []),(.int .i64 0),(.int .i64 0)])] false [0,2]) q14_5)
theorem ok14:compFn Tryz.prog ann14 Tryz.f14=some fn14:=by kernel_rfl
def q40_0:ACode :=
 (.seq (.region [
 ob 1 (.build [(.int .i64 0),(.int .i64 0),(.int .i64 0),(.slice .c0 []),(.slice .c0 []),(.int .i64 0)] [(0,1,(.cst (.int .i64 1))),(1,1,(.cst (.int .i64 2))),(5,1,(.cst (.int .i64 1)))]),
 ob 2 (.lits 6 [(.tmp 1)]),
 ob 3 (.build [(.slice .c0 []),(.int .i64 0),(.int .i64 0)] [(0,1,(.tmp 2)),(1,1,(.cst (.int .i64 2))),(2,1,(.cst (.int .i64 1)))]),
 ox (.store 3 (.tmp 0) (.tmp 3))] false [0]) (.ret))
def E40:=exK_head q40_0.eq_1
def ann40:Ann:={ n:=4,own:=[],lv:=[(0,[0]),(1,[0])],lp:=[] }
def fn40:AFn:=AFn.mk 0 [.cellA 0 3]
 (.seq (.region [
 ob 0 (.box0 [(.slice .c0 []),(.int .i64 0),(.int .i64 0)])] false [0]) q40_0)
theorem ok40:compFn Tryz.prog ann40 Tryz.f40=some fn40:=by kernel_rfl
def q41_0:ACode :=
 (.region [
 ob 45 (.bin .eql (.tmp 42) (.cst (.int .u8 1))),
 ob 43 (.mv (.tmp 45))] false [2,3,4,7,8,9,10,42,43])
def q41_1:ACode :=
 (.seq (.region [
 ob 59 (.loadA 3 (.tmp 11)),
 ob 60 (.mv (.tmp 12)),
 ob 61 (.mv (.tmp 13)),
 ox (.store 3 (.tmp 4) (.tmp 59)),
 ob 5 (.mv (.tmp 60)),
 ob 6 (.mv (.tmp 61))] false [4,5,6]) (.ret))
def q41_2:ACode :=
 (.seq (.region [
 ob 47 (.loadA 3 (.tmp 2)),
 ob 48 (.mv (.tmp 7)),
 ob 49 (.mv (.tmp 9)),
 ob 50 (.faddr 4 (.tmp 3)),
 ob 51 (.load1 (.tmp 50)),
 ob 52 (.conv .i64 (.tmp 51)),
 ob 53 (.bin .rem (.tmp 52) (.cst (.int .i64 2))),
 ob 54 (.bin .add (.tmp 53) (.cst (.int .i64 1))),
 ob 55 (.call 81 [(.tmp 47),(.tmp 48),(.tmp 49),(.tmp 54)]),
 ob 46 (.mv (.tmp 55)),
 ob 56 (.extract (.tmp 46) 0),
 ob 57 (.extract (.tmp 46) 1),
 ob 58 (.extract (.tmp 46) 2),
 ob 11 (.box0 [(.slice .c0 []),(.int .i64 0),(.int .i64 0)]),
 ox (.store 3 (.tmp 11) (.tmp 56)),
 ob 12 (.mv (.tmp 57)),
 ob 13 (.mv (.tmp 58))] false [4,11,12,13]) q41_1)
def q41_3:ACode :=
 (.seq (.region [
 ob 72 (.loadA 3 (.tmp 14)),
 ob 73 (.mv (.tmp 15)),
 ox (.store 3 (.tmp 4) (.tmp 72)),
 ob 5 (.mv (.cst (.int .i64 0))),
 ob 6 (.mv (.tmp 73))] false [4,5,6]) (.ret))
def q41_4:ACode :=
 (.seq (.region [
 ob 65 (.loadA 3 (.tmp 2)),
 ob 66 (.mv (.tmp 8)),
 ob 67 (.mv (.tmp 7)),
 ob 68 (.mv (.tmp 9)),
 ob 69 (.call 82 [(.tmp 65),(.tmp 66),(.tmp 67),(.tmp 68)]),
 ob 64 (.mv (.tmp 69)),
 ob 70 (.extract (.tmp 64) 0),
 ob 71 (.extract (.tmp 64) 1),
 ob 14 (.box0 [(.slice .c0 []),(.int .i64 0),(.int .i64 0)]),
 ox (.store 3 (.tmp 14) (.tmp 70)),
 ob 15 (.mv (.tmp 71))] false [4,14,15]) q41_3)
def q41_5:ACode :=
 (.seq (.region [
 ob 84 (.loadA 3 (.tmp 16)),
 ob 85 (.mv (.tmp 17)),
 ob 86 (.mv (.tmp 18)),
 ox (.store 3 (.tmp 4) (.tmp 84)),
 ob 5 (.mv (.tmp 85)),
 ob 6 (.mv (.tmp 86))] false [4,5,6]) (.ret))
def q41_6:ACode :=
 (.seq (.region [
 ob 77 (.loadA 3 (.tmp 2)),
 ob 78 (.mv (.tmp 7)),
 ob 79 (.mv (.tmp 9)),
 ob 80 (.call 83 [(.tmp 77),(.tmp 78),(.tmp 79)]),
 ob 76 (.mv (.tmp 80)),
 ob 81 (.extract (.tmp 76) 0),
 ob 82 (.extract (.tmp 76) 1),
 ob 83 (.extract (.tmp 76) 2),
 ob 16 (.box0 [(.slice .c0 []),(.int .i64 0),(.int .i64 0)]),
 ox (.store 3 (.tmp 16) (.tmp 81)),
 ob 17 (.mv (.tmp 82)),
 ob 18 (.mv (.tmp 83))] false [4,16,17,18]) q41_5)
def q41_7:ACode :=
 (.region [
 ob 89 (.bin .eql (.tmp 42) (.cst (.int .u8 5))),
 ob 87 (.mv (.tmp 89))] false [2,3,4,7,8,9,10,42,87])
def q41_8:ACode :=
 (.seq (.region [
 ob 100 (.loadA 3 (.tmp 19)),
 ob 101 (.mv (.tmp 20)),
 ob 102 (.mv (.tmp 21)),
 ox (.store 3 (.tmp 4) (.tmp 100)),
 ob 5 (.mv (.tmp 101)),
 ob 6 (.mv (.tmp 102))] false [4,5,6]) (.ret))
def q41_9:ACode :=
 (.seq (.region [
 ob 91 (.loadA 3 (.tmp 2)),
 ob 92 (.mv (.tmp 7)),
 ob 93 (.mv (.tmp 9)),
 ob 94 (.mv (.tmp 8)),
 ob 95 (.mv (.tmp 10)),
 ob 96 (.call 84 [(.tmp 91),(.tmp 92),(.tmp 93),(.tmp 94),(.tmp 95)]),
 ob 90 (.mv (.tmp 96)),
 ob 97 (.extract (.tmp 90) 0),
 ob 98 (.extract (.tmp 90) 1),
 ob 99 (.extract (.tmp 90) 2),
 ob 19 (.box0 [(.slice .c0 []),(.int .i64 0),(.int .i64 0)]),
 ox (.store 3 (.tmp 19) (.tmp 97)),
 ob 20 (.mv (.tmp 98)),
 ob 21 (.mv (.tmp 99))] false [4,19,20,21]) q41_8)
def q41_10:ACode :=
 (.seq (.region [
 ob 113 (.loadA 3 (.tmp 22)),
 ob 114 (.mv (.tmp 23)),
 ox (.store 3 (.tmp 4) (.tmp 113)),
 ob 5 (.mv (.cst (.int .i64 0))),
 ob 6 (.mv (.tmp 114))] false [4,5,6]) (.ret))
def q41_11:ACode :=
 (.seq (.region [
 ob 106 (.loadA 3 (.tmp 2)),
 ob 107 (.mv (.tmp 7)),
 ob 108 (.faddr 5 (.tmp 3)),
 ob 109 (.load1 (.tmp 108)),
 ob 110 (.call 85 [(.tmp 106),(.tmp 107),(.tmp 109)]),
 ob 105 (.mv (.tmp 110)),
 ob 111 (.extract (.tmp 105) 0),
 ob 112 (.extract (.tmp 105) 1),
 ob 22 (.box0 [(.slice .c0 []),(.int .i64 0),(.int .i64 0)]),
 ox (.store 3 (.tmp 22) (.tmp 111)),
 ob 23 (.mv (.tmp 112))] false [4,22,23]) q41_10)
def q41_12:ACode :=
 (.seq (.region [
 ob 104 (.bin .eql (.tmp 42) (.cst (.int .u8 6))),
 ob 103 (.mv (.tmp 104))] false [2,3,4,7,103]) (.cond (.tmp 103) q41_11 (.skip)))
def q41_13:ACode :=
 (.seq (.seq (.region [
 ob 88 (.bin .eql (.tmp 42) (.cst (.int .u8 4))),
 ob 87 (.mv (.tmp 88))] false [2,3,4,7,8,9,10,42,87]) (.cond (.tmp 87) (.skip) q41_7)) (.cond (.tmp 87) q41_9 q41_12))
def q41_14:ACode :=
 (.seq (.region [
 ob 75 (.bin .eql (.tmp 42) (.cst (.int .u8 3))),
 ob 74 (.mv (.tmp 75))] false [2,3,4,7,8,9,10,42,74]) (.cond (.tmp 74) q41_6 q41_13))
def q41_15:ACode :=
 (.seq (.region [
 ob 63 (.bin .eql (.tmp 42) (.cst (.int .u8 2))),
 ob 62 (.mv (.tmp 63))] false [2,3,4,7,8,9,10,42,62]) (.cond (.tmp 62) q41_4 q41_14))
def q41_16:ACode :=
 (.block 0 (.seq (.seq (.region [
 ob 44 (.bin .eql (.tmp 42) (.cst (.int .u8 0))),
 ob 43 (.mv (.tmp 44))] false [2,3,4,7,8,9,10,42,43]) (.cond (.tmp 43) (.skip) q41_0)) (.cond (.tmp 43) q41_2 q41_15)))
def q41_17:ACode :=
 (.seq (.region [
 ob 121 (.loadA 3 (.tmp 24)),
 ob 122 (.mv (.tmp 25)),
 ox (.store 3 (.tmp 4) (.tmp 121)),
 ob 5 (.mv (.cst (.int .i64 0))),
 ob 6 (.mv (.tmp 122))] false [4,5,6]) (.ret))
def q41_18:ACode :=
 (.seq (.region [
 ob 116 (.loadA 3 (.tmp 2)),
 ob 117 (.mv (.tmp 7)),
 ob 118 (.call 86 [(.tmp 116),(.tmp 117)]),
 ob 115 (.mv (.tmp 118)),
 ob 119 (.extract (.tmp 115) 0),
 ob 120 (.extract (.tmp 115) 1),
 ob 24 (.box0 [(.slice .c0 []),(.int .i64 0),(.int .i64 0)]),
 ox (.store 3 (.tmp 24) (.tmp 119)),
 ob 25 (.mv (.tmp 120))] false [4,24,25]) q41_17)
def q41_19:ACode :=
 (.seq (.seq (.region [
 ob 40 (.faddr 0 (.tmp 3)),
 ob 41 (.load1 (.tmp 40)),
 ob 42 (.bin .rem (.tmp 41) (.cst (.int .u8 8)))] false [2,3,4,7,8,9,10,42]) q41_16) q41_18)
def q41_20:ACode :=
 (.seq (.region [
 ob 37 (.faddr 4 (.tmp 3)),
 ob 38 (.load1 (.tmp 37)),
 ob 39 (.call 80 [(.tmp 38)]),
 ob 10 (.mv (.tmp 39))] false [2,3,4,7,8,9,10]) q41_19)
def q41_21:ACode :=
 (.seq (.region [
 ob 34 (.faddr 3 (.tmp 3)),
 ob 35 (.load1 (.tmp 34)),
 ob 36 (.call 80 [(.tmp 35)]),
 ob 9 (.mv (.tmp 36))] false [2,3,4,7,8,9]) q41_20)
def q41_22:ACode :=
 (.seq (.region [
 ob 30 (.loadA 3 (.tmp 2)),
 ob 31 (.faddr 2 (.tmp 3)),
 ob 32 (.load1 (.tmp 31)),
 ob 33 (.call 79 [(.tmp 30),(.tmp 32)]),
 ob 8 (.mv (.tmp 33))] false [2,3,4,7,8]) q41_21)
def q41_23:ACode :=
 (.seq (.region [
 ob 26 (.loadA 3 (.tmp 2)),
 ob 27 (.faddr 1 (.tmp 3)),
 ob 28 (.load1 (.tmp 27)),
 ob 29 (.call 79 [(.tmp 26),(.tmp 28)]),
 ob 7 (.mv (.tmp 29))] false [2,3,4,7]) q41_22)
def E41:=And.intro (exK_head q41_0.eq_1) (And.intro (exK_head q41_1.eq_1) (And.intro (exK_head q41_2.eq_1) (And.intro (exK_head q41_3.eq_1) (And.intro (exK_head q41_4.eq_1) (And.intro (exK_head q41_5.eq_1) (And.intro (exK_head q41_6.eq_1) (And.intro (exK_head q41_7.eq_1) (And.intro (exK_head q41_8.eq_1) (And.intro (exK_head q41_9.eq_1) (And.intro (exK_head q41_10.eq_1) (And.intro (exK_head q41_11.eq_1) (And.intro (exK_head q41_12.eq_1) (And.intro (exK_head q41_13.eq_1) (And.intro (exK_head q41_14.eq_1) (And.intro (exK_head q41_15.eq_1) (And.intro (exK_head q41_16.eq_1) (And.intro (exK_head q41_17.eq_1) (And.intro (exK_head q41_18.eq_1) (And.intro (exK_head q41_19.eq_1) (And.intro (exK_head q41_20.eq_1) (And.intro (exK_head q41_21.eq_1) (And.intro (exK_head q41_22.eq_1) (exK_head q41_23.eq_1)))))))))))))))))))))))
def ann41:Ann:={ n:=123,own:=[],lv:=[(0,[2,3,4]),(1,[2,3,4,7]),(2,[2,3,4,7,8]),(3,[2,3,4,7,8,9]),(4,[2,3,4,7,8,9,10]),(5,[2,3,4,7,8,9,10,42]),(6,[2,3,4,7,8,9,10,42,43]),(7,[2,3,4,7,8,9,10,42,43]),(8,[4,11,12,13]),(9,[4,5,6]),(10,[2,3,4,7,8,9,10,42,62]),(11,[4,14,15]),(12,[4,5,6]),(13,[2,3,4,7,8,9,10,42,74]),(14,[4,16,17,18]),(15,[4,5,6]),(16,[2,3,4,7,8,9,10,42,87]),(17,[2,3,4,7,8,9,10,42,87]),(18,[4,19,20,21]),(19,[4,5,6]),(20,[2,3,4,7,103]),(21,[4,22,23]),(22,[4,5,6]),(23,[4,24,25]),(24,[4,5,6])],lp:=[] }
def fn41:AFn:=AFn.mk 2 [.cellA 4 3,.tmp 5,.tmp 6]
 (.seq (.region [
 ob 2 (.box (.tmp 0)),
 ob 3 (.box (.tmp 1)),
 ob 4 (.box0 [(.slice .c0 []),(.int .i64 0),(.int .i64 0)]),
 ob 5 (.mv (.cst (.int .i64 0))),
 ob 6 (.mv (.cst (.int .i64 0)))] false [2,3,4]) q41_23)
theorem ok41:compFn Tryz.prog ann41 Tryz.f41=some fn41:=by kernel_rfl
def q79_0:ACode :=
 (.seq (.region [
 ob 18 (.faddr 0 (.tmp 2)),
 ob 19 (.load1 (.tmp 18)),
 ob 20 (.mv (.tmp 5)),
 ob 21 (.iaddr 6 (.tmp 19) (.tmp 20)),
 ob 22 (.faddr 0 (.tmp 21)),
 ob 23 (.load1 (.tmp 22)),
 ob 4 (.mv (.tmp 23))] false [4]) (.ret))
def q79_1:ACode :=
 (.seq (.region [
 ob 24 (.faddr 1 (.tmp 2)),
 ob 25 (.load1 (.tmp 24)),
 ob 4 (.mv (.tmp 25))] false [4]) (.ret))
def q79_2:ACode :=
 (.seq (.seq (.region [
 ob 13 (.mv (.tmp 5)),
 ob 14 (.faddr 0 (.tmp 2)),
 ob 15 (.load1 (.tmp 14)),
 ob 16 (.lenV (.tmp 15)),
 ob 17 (.bin .lss (.tmp 13) (.tmp 16))] false [2,5,17]) (.cond (.tmp 17) q79_0 (.skip))) q79_1)
def q79_3:ACode :=
 (.seq (.region [
 ob 6 (.mv (.tmp 1)),
 ob 7 (.conv .i64 (.tmp 6)),
 ob 8 (.faddr 0 (.tmp 2)),
 ob 9 (.load1 (.tmp 8)),
 ob 10 (.lenV (.tmp 9)),
 ob 11 (.bin .add (.tmp 10) (.cst (.int .i64 1))),
 ob 12 (.bin .rem (.tmp 7) (.tmp 11)),
 ob 5 (.mv (.tmp 12))] false [2,5]) q79_2)
def E79:=And.intro (exK_head q79_0.eq_1) (And.intro (exK_head q79_1.eq_1) (And.intro (exK_head q79_2.eq_1) (exK_head q79_3.eq_1)))
def ann79:Ann:={ n:=26,own:=[],lv:=[(0,[1,2]),(1,[2,5]),(2,[2,5,17]),(3,[4]),(4,[4])],lp:=[] }
def fn79:AFn:=AFn.mk 2 [.tmp 4]
 (.seq (.region [
 ob 2 (.box (.tmp 0)),
 ob 4 (.mv (.cst (.int .i64 0)))] false [1,2]) q79_3)
theorem ok79:compFn Tryz.prog ann79 Tryz.f79=some fn79:=by kernel_rfl
def q80_0:ACode :=
 (.seq (.region [
 ob 5 (.mv (.tmp 3)),
 ob 6 (.mv (.tmp 0)),
 ob 7 (.conv .i64 (.tmp 6)),
 ob 8 (.bin .rem (.tmp 7) (.cst (.int .i64 6))),
 ob 9 (.iaddr 1 (.tmp 5) (.tmp 8)),
 ob 10 (.load1 (.tmp 9)),
 ob 2 (.mv (.tmp 10))] false [2]) (.ret))
def q80_1:ACode :=
 (.seq (.region [
 ob 4 (.lits 1 [(.cst (.str [97])),(.cst (.str [98])),(.cst (.str [99])),(.cst (.str [100])),(.cst (.str [101])),(.cst (.str [46,46]))]),
 ob 3 (.mv (.tmp 4))] false [0,3]) q80_0)
def E80:=And.intro (exK_head q80_0.eq_1) (exK_head q80_1.eq_1)
def ann80:Ann:={ n:=11,own:=[],lv:=[(0,[0]),(1,[0,3]),(2,[2])],lp:=[] }
def fn80:AFn:=AFn.mk 1 [.tmp 2]
 (.seq (.region [
 ob 2 (.mv (.cst (.str [])))] false [0]) q80_1)
theorem ok80:compFn Tryz.prog ann80 Tryz.f80=some fn80:=by kernel_rfl
def q81_0:ACode :=
 (.seq (.region [
 ob 19 (.loadA 3 (.tmp 4)),
 ox (.store 3 (.tmp 8) (.tmp 19)),
 ob 9 (.mv (.cst (.int .i64 0))),
 ob 10 (.mv (.cst (.int .i64 1)))] false [8,9,10]) (.ret))
def q81_1:ACode :=
 (.seq (.region [
 ob 26 (.loadA 3 (.tmp 4)),
 ob 27 (.mv (.tmp 11)),
 ox (.store 3 (.tmp 8) (.tmp 26)),
 ob 9 (.mv (.cst (.int .i64 0))),
 ob 10 (.mv (.tmp 27))] false [8,9,10]) (.ret))
def q81_2:ACode :=
 (.seq (.region [
 ob 37 (.loadA 3 (.tmp 4)),
 ox (.store 3 (.tmp 8) (.tmp 37)),
 ob 9 (.mv (.cst (.int .i64 0))),
 ob 10 (.mv (.cst (.int .i64 76)))] false [8,9,10]) (.ret))
def q81_3:ACode :=
 (.region [
 ob 44 (.mv (.tmp 1)),
 ob 45 (.faddr 5 (.tmp 12)),
 ox (.store 1 (.tmp 45) (.tmp 44))] false [1,2,4,8,12])
def q81_4:ACode :=
 (.seq (.region [
 ob 50 (.loadA 3 (.tmp 4)),
 ob 51 (.loadA 6 (.tmp 12)),
 ⟨(some 52),.call 113 [(.tmp 50),(.tmp 51)],none,true,false,[]⟩,
 ob 53 (.mv (.tmp 1)),
 ob 54 (.mv (.tmp 2)),
 ob 55 (.faddr 0 (.tmp 12)),
 ob 56 (.load1 (.tmp 55)),
 ⟨(some 57),.call 112 [(.tmp 52),(.tmp 53),(.tmp 54),(.tmp 56)],none,true,false,[]⟩,
 ob 58 (.faddr 0 (.tmp 12)),
 ob 59 (.load1 (.tmp 58)),
 ⟨none,.store 3 (.tmp 8) (.tmp 57),none,true,false,[58]⟩,
 ob 9 (.mv (.tmp 59)),
 ob 10 (.mv (.cst (.int .i64 0)))] true [8,9,10]) (.ret))
def q81_5:ACode :=
 (.seq (.region [
 ob 46 (.faddr 1 (.tmp 4)),
 ob 47 (.load1 (.tmp 46)),
 ob 48 (.bin .add (.tmp 47) (.cst (.int .i64 1))),
 ob 49 (.faddr 1 (.tmp 4)),
 ox (.store 1 (.tmp 49) (.tmp 48))] false [1,2,4,8,12]) q81_4)
def q81_6:ACode :=
 (.seq (.seq (.region [
 ob 42 (.mv (.tmp 3)),
 ob 43 (.bin .eql (.tmp 42) (.cst (.int .i64 2)))] false [1,2,4,8,12,43]) (.cond (.tmp 43) q81_3 (.skip))) q81_5)
def q81_7:ACode :=
 (.seq (.region [
 ob 38 (.faddr 1 (.tmp 4)),
 ob 39 (.load1 (.tmp 38)),
 ob 40 (.mv (.tmp 3)),
 ob 41 (.build [(.int .i64 0),(.int .i64 0),(.int .i64 0),(.slice .c0 []),(.slice .c0 []),(.int .i64 0)] [(0,1,(.tmp 39)),(1,1,(.tmp 40)),(2,1,(.cst (.int .i64 1)))]),
 ob 12 (.box0 [(.int .i64 0),(.int .i64 0),(.int .i64 0),(.slice .c0 []),(.slice .c0 []),(.int .i64 0)]),
 ox (.store 6 (.tmp 12) (.tmp 41))] false [1,2,3,4,8,12]) q81_6)
def q81_8:ACode :=
 (.seq (.seq (.region [
 ob 28 (.faddr 0 (.tmp 4)),
 ob 29 (.load1 (.tmp 28)),
 ob 30 (.lenV (.tmp 29)),
 ob 31 (.bin .geq (.tmp 30) (.cst (.int .i64 200))),
 ob 32 (.mv (.tmp 31)),
 og 33 32 false (.faddr 1 (.tmp 4)),
 og 34 32 false (.load1 (.tmp 33)),
 og 35 32 false (.bin .geq (.tmp 34) (.cst (.int .i64 1099511627776))),
 ob 36 (.pick (.tmp 32) (.cst (.bool true)) (.tmp 35))] false [1,2,3,4,8,36]) (.cond (.tmp 36) q81_2 (.skip))) q81_7)
def q81_9:ACode :=
 (.seq (.seq (.region [
 ob 24 (.mv (.tmp 11)),
 ob 25 (.bin .neq (.tmp 24) (.cst (.int .i64 0)))] false [1,2,3,4,8,11,25]) (.cond (.tmp 25) q81_1 (.skip))) q81_8)
def q81_10:ACode :=
 (.seq (.region [
 ob 20 (.loadA 3 (.tmp 4)),
 ob 21 (.mv (.tmp 1)),
 ob 22 (.mv (.tmp 2)),
 ob 23 (.call 111 [(.tmp 20),(.tmp 21),(.tmp 22)]),
 ob 11 (.mv (.tmp 23))] false [1,2,3,4,8,11]) q81_9)
def q81_11:ACode :=
 (.seq (.seq (.region [
 ob 13 (.mv (.tmp 3)),
 ob 14 (.bin .neq (.tmp 13) (.cst (.int .i64 1))),
 ob 15 (.mv (.tmp 14)),
 og 16 15 true (.mv (.tmp 3)),
 og 17 15 true (.bin .neq (.tmp 16) (.cst (.int .i64 2))),
 ob 18 (.pick (.tmp 15) (.tmp 17) (.cst (.bool false)))] false [1,2,3,4,8,18]) (.cond (.tmp 18) q81_0 (.skip))) q81_10)
def E81:=And.intro (exK_head q81_0.eq_1) (And.intro (exK_head q81_1.eq_1) (And.intro (exK_head q81_2.eq_1) (And.intro (exK_head q81_3.eq_1) (And.intro (exK_head q81_4.eq_1) (And.intro (exK_head q81_5.eq_1) (And.intro (exK_head q81_6.eq_1) (And.intro (exK_head q81_7.eq_1) (And.intro (exK_head q81_8.eq_1) (And.intro (exK_head q81_9.eq_1) (And.intro (exK_head q81_10.eq_1) (exK_head q81_11.eq_1)))))))))))
def ann81:Ann:={ n:=60,own:=[],lv:=[(0,[1,2,3,4,8]),(1,[1,2,3,4,8,18]),(2,[8,9,10]),(3,[1,2,3,4,8,11]),(4,[1,2,3,4,8,11,25]),(5,[8,9,10]),(6,[1,2,3,4,8,36]),(7,[8,9,10]),(8,[1,2,3,4,8,12]),(9,[1,2,4,8,12,43]),(10,[1,2,4,8,12]),(11,[1,2,4,8,12]),(12,[8,9,10])],lp:=[] }
def fn81:AFn:=AFn.mk 4 [.cellA 8 3,.tmp 9,.tmp 10]
 (.seq (.region [
 ob 4 (.box (.tmp 0)),
 ob 8 (.box0 [(.slice .c0 []),(.int .i64 0),(.int .i64 0)]),
 ob 9 (.mv (.cst (.int .i64 0))),
 ob 10 (.mv (.cst (.int .i64 0)))] false [1,2,3,4,8]) q81_11)
theorem ok81:compFn Tryz.prog ann81 Tryz.f81=some fn81:=by kernel_rfl
def q82_0:ACode :=
 (.seq (.region [
 ob 31 (.loadA 3 (.tmp 4)),
 ox (.store 3 (.tmp 8) (.tmp 31)),
 ob 9 (.mv (.cst (.int .i64 70)))] false [8,9]) (.ret))
def q82_1:ACode :=
 (.seq (.region [
 ob 35 (.loadA 3 (.tmp 4)),
 ox (.store 3 (.tmp 8) (.tmp 35)),
 ob 9 (.mv (.cst (.int .i64 72)))] false [8,9]) (.ret))
def q82_2:ACode :=
 (.seq (.region [
 ob 42 (.loadA 3 (.tmp 4)),
 ob 43 (.mv (.tmp 12)),
 ox (.store 3 (.tmp 8) (.tmp 42)),
 ob 9 (.mv (.tmp 43))] false [8,9]) (.ret))
def q82_3:ACode :=
 (.seq (.region [
 ob 48 (.loadA 3 (.tmp 4)),
 ob 49 (.loadA 6 (.tmp 10)),
 ob 50 (.call 113 [(.tmp 48),(.tmp 49)]),
 ob 51 (.mv (.tmp 2)),
 ob 52 (.mv (.tmp 3)),
 ob 53 (.mv (.tmp 1)),
 ob 54 (.call 112 [(.tmp 50),(.tmp 51),(.tmp 52),(.tmp 53)]),
 ox (.store 3 (.tmp 8) (.tmp 54)),
 ob 9 (.mv (.cst (.int .i64 0)))] false [8,9]) (.ret))
def q82_4:ACode :=
 (.seq (.region [
 ob 44 (.faddr 2 (.tmp 10)),
 ob 45 (.load1 (.tmp 44)),
 ob 46 (.bin .add (.tmp 45) (.cst (.int .i64 1))),
 ob 47 (.faddr 2 (.tmp 10)),
 ox (.store 1 (.tmp 47) (.tmp 46))] false [1,2,3,4,8,10]) q82_3)
def q82_5:ACode :=
 (.seq (.seq (.region [
 ob 40 (.mv (.tmp 12)),
 ob 41 (.bin .neq (.tmp 40) (.cst (.int .i64 0)))] false [1,2,3,4,8,10,12,41]) (.cond (.tmp 41) q82_2 (.skip))) q82_4)
def q82_6:ACode :=
 (.seq (.region [
 ob 36 (.loadA 3 (.tmp 4)),
 ob 37 (.mv (.tmp 2)),
 ob 38 (.mv (.tmp 3)),
 ob 39 (.call 111 [(.tmp 36),(.tmp 37),(.tmp 38)]),
 ob 12 (.mv (.tmp 39))] false [1,2,3,4,8,10,12]) q82_5)
def q82_7:ACode :=
 (.seq (.seq (.region [
 ob 32 (.faddr 1 (.tmp 10)),
 ob 33 (.load1 (.tmp 32)),
 ob 34 (.bin .eql (.tmp 33) (.cst (.int .i64 2)))] false [1,2,3,4,8,10,34]) (.cond (.tmp 34) q82_1 (.skip))) q82_6)
def q82_8:ACode :=
 (.seq (.seq (.region [
 ob 19 (.mv (.tmp 11)),
 ob 20 (.not (.tmp 19)),
 ob 21 (.mv (.tmp 20)),
 og 22 21 false (.faddr 1 (.tmp 10)),
 og 23 21 false (.load1 (.tmp 22)),
 og 24 21 false (.bin .eql (.tmp 23) (.cst (.int .i64 1))),
 og 25 21 false (.mv (.tmp 24)),
 og 26 25 true (.faddr 2 (.tmp 10)),
 og 27 25 true (.load1 (.tmp 26)),
 og 28 25 true (.bin .eql (.tmp 27) (.cst (.int .i64 0))),
 og 29 21 false (.pick (.tmp 25) (.tmp 28) (.cst (.bool false))),
 ob 30 (.pick (.tmp 21) (.cst (.bool true)) (.tmp 29))] false [1,2,3,4,8,10,30]) (.cond (.tmp 30) q82_0 (.skip))) q82_7)
def q82_9:ACode :=
 (.seq (.region [
 ob 14 (.loadA 3 (.tmp 4)),
 ob 15 (.mv (.tmp 1)),
 ob 16 (.call 114 [(.tmp 14),(.tmp 15)]),
 ob 13 (.mv (.tmp 16)),
 ob 17 (.extract (.tmp 13) 0),
 ob 18 (.extract (.tmp 13) 1),
 ob 10 (.box0 [(.int .i64 0),(.int .i64 0),(.int .i64 0),(.slice .c0 []),(.slice .c0 []),(.int .i64 0)]),
 ox (.store 6 (.tmp 10) (.tmp 17)),
 ob 11 (.mv (.tmp 18))] false [1,2,3,4,8,10,11]) q82_8)
def E82:=And.intro (exK_head q82_0.eq_1) (And.intro (exK_head q82_1.eq_1) (And.intro (exK_head q82_2.eq_1) (And.intro (exK_head q82_3.eq_1) (And.intro (exK_head q82_4.eq_1) (And.intro (exK_head q82_5.eq_1) (And.intro (exK_head q82_6.eq_1) (And.intro (exK_head q82_7.eq_1) (And.intro (exK_head q82_8.eq_1) (exK_head q82_9.eq_1)))))))))
def ann82:Ann:={ n:=55,own:=[],lv:=[(0,[1,2,3,4,8]),(1,[1,2,3,4,8,10,11]),(2,[1,2,3,4,8,10,30]),(3,[8,9]),(4,[1,2,3,4,8,10,34]),(5,[8,9]),(6,[1,2,3,4,8,10,12]),(7,[1,2,3,4,8,10,12,41]),(8,[8,9]),(9,[1,2,3,4,8,10]),(10,[8,9])],lp:=[] }
def fn82:AFn:=AFn.mk 4 [.cellA 8 3,.tmp 9]
 (.seq (.region [
 ob 4 (.box (.tmp 0)),
 ob 8 (.box0 [(.slice .c0 []),(.int .i64 0),(.int .i64 0)]),
 ob 9 (.mv (.cst (.int .i64 0)))] false [1,2,3,4,8]) q82_9)
theorem ok82:compFn Tryz.prog ann82 Tryz.f82=some fn82:=by kernel_rfl
def q83_0:ACode :=
 (.seq (.region [
 ob 22 (.loadA 3 (.tmp 3)),
 ob 23 (.mv (.tmp 10)),
 ox (.store 3 (.tmp 6) (.tmp 22)),
 ob 7 (.mv (.cst (.int .i64 0))),
 ob 8 (.mv (.tmp 23))] false [6,7,8]) (.ret))
def q83_1:ACode :=
 (.seq (.region [
 ob 34 (.loadA 3 (.tmp 3)),
 ox (.store 3 (.tmp 6) (.tmp 34)),
 ob 7 (.mv (.cst (.int .i64 0))),
 ob 8 (.mv (.cst (.int .i64 74)))] false [6,7,8]) (.ret))
def q83_2:ACode :=
 (.seq (.region [
 ob 35 (.loadA 3 (.tmp 3)),
 ob 36 (.mv (.tmp 1)),
 ob 37 (.mv (.tmp 2)),
 ob 38 (.call 117 [(.tmp 35),(.tmp 36),(.tmp 37)]),
 ob 39 (.mv (.tmp 9)),
 ob 40 (.call 116 [(.tmp 38),(.tmp 39)]),
 ob 41 (.mv (.tmp 9)),
 ox (.store 3 (.tmp 6) (.tmp 40)),
 ob 7 (.mv (.tmp 41)),
 ob 8 (.mv (.cst (.int .i64 0)))] false [6,7,8]) (.ret))
def q83_3:ACode :=
 (.seq (.seq (.region [
 ob 30 (.faddr 4 (.tmp 11)),
 ob 31 (.load1 (.tmp 30)),
 ob 32 (.lenV (.tmp 31)),
 ob 33 (.bin .gtr (.tmp 32) (.cst (.int .i64 0)))] false [1,2,3,6,9,33]) (.cond (.tmp 33) q83_1 (.skip))) q83_2)
def q83_4:ACode :=
 (.seq (.region [
 ob 25 (.loadA 3 (.tmp 3)),
 ob 26 (.mv (.tmp 9)),
 ob 27 (.call 114 [(.tmp 25),(.tmp 26)]),
 ob 24 (.mv (.tmp 27)),
 ob 28 (.extract (.tmp 24) 0),
 ob 29 (.extract (.tmp 24) 1),
 ob 11 (.box0 [(.int .i64 0),(.int .i64 0),(.int .i64 0),(.slice .c0 []),(.slice .c0 []),(.int .i64 0)]),
 ox (.store 6 (.tmp 11) (.tmp 28)),
 ob 12 (.mv (.tmp 29))] false [1,2,3,6,9,11]) q83_3)
def q83_5:ACode :=
 (.seq (.seq (.region [
 ob 20 (.mv (.tmp 10)),
 ob 21 (.bin .neq (.tmp 20) (.cst (.int .i64 0)))] false [1,2,3,6,9,10,21]) (.cond (.tmp 21) q83_0 (.skip))) q83_4)
def q83_6:ACode :=
 (.seq (.region [
 ob 14 (.loadA 3 (.tmp 3)),
 ob 15 (.mv (.tmp 1)),
 ob 16 (.mv (.tmp 2)),
 ob 17 (.call 115 [(.tmp 14),(.tmp 15),(.tmp 16)]),
 ob 13 (.mv (.tmp 17)),
 ob 18 (.extract (.tmp 13) 0),
 ob 19 (.extract (.tmp 13) 1),
 ob 9 (.mv (.tmp 18)),
 ob 10 (.mv (.tmp 19))] false [1,2,3,6,9,10]) q83_5)
def E83:=And.intro (exK_head q83_0.eq_1) (And.intro (exK_head q83_1.eq_1) (And.intro (exK_head q83_2.eq_1) (And.intro (exK_head q83_3.eq_1) (And.intro (exK_head q83_4.eq_1) (And.intro (exK_head q83_5.eq_1) (exK_head q83_6.eq_1))))))
def ann83:Ann:={ n:=42,own:=[],lv:=[(0,[1,2,3,6]),(1,[1,2,3,6,9,10]),(2,[1,2,3,6,9,10,21]),(3,[6,7,8]),(4,[1,2,3,6,9,11]),(5,[1,2,3,6,9,33]),(6,[6,7,8]),(7,[6,7,8])],lp:=[] }
def fn83:AFn:=AFn.mk 3 [.cellA 6 3,.tmp 7,.tmp 8]
 (.seq (.region [
 ob 3 (.box (.tmp 0)),
 ob 6 (.box0 [(.slice .c0 []),(.int .i64 0),(.int .i64 0)]),
 ob 7 (.mv (.cst (.int .i64 0))),
 ob 8 (.mv (.cst (.int .i64 0)))] false [1,2,3,6]) q83_6)
theorem ok83:compFn Tryz.prog ann83 Tryz.f83=some fn83:=by kernel_rfl
def q84_0:ACode :=
 (.seq (.region [
 ob 31 (.loadA 3 (.tmp 5)),
 ob 32 (.mv (.tmp 14)),
 ox (.store 3 (.tmp 10) (.tmp 31)),
 ob 11 (.mv (.cst (.int .i64 0))),
 ob 12 (.mv (.tmp 32))] false [10,11,12]) (.ret))
def q84_1:ACode :=
 (.seq (.region [
 ob 41 (.loadA 3 (.tmp 5)),
 ob 42 (.mv (.tmp 14)),
 ox (.store 3 (.tmp 10) (.tmp 41)),
 ob 11 (.mv (.cst (.int .i64 0))),
 ob 12 (.mv (.tmp 42))] false [10,11,12]) (.ret))
def q84_2:ACode :=
 (.seq (.region [
 ob 46 (.loadA 3 (.tmp 5)),
 ox (.store 3 (.tmp 10) (.tmp 46)),
 ob 11 (.mv (.cst (.int .i64 0))),
 ob 12 (.mv (.cst (.int .i64 60)))] false [10,11,12]) (.ret))
def q84_3:ACode :=
 (.region [
 ob 52 (.faddr 4 (.tmp 15)),
 ob 53 (.load1 (.tmp 52)),
 ob 54 (.mv (.tmp 17)),
 ob 55 (.iaddr 3 (.tmp 53) (.tmp 54)),
 ob 56 (.faddr 1 (.tmp 55)),
 ob 57 (.load1 (.tmp 56)),
 ob 16 (.mv (.tmp 57))] false [1,2,3,4,5,10,13,15,16])
def q84_4:ACode :=
 (.seq (.region [
 ob 61 (.loadA 3 (.tmp 5)),
 ox (.store 3 (.tmp 10) (.tmp 61)),
 ob 11 (.mv (.cst (.int .i64 0))),
 ob 12 (.mv (.cst (.int .i64 0)))] false [10,11,12]) (.ret))
def q84_5:ACode :=
 (.seq (.region [
 ob 77 (.loadA 3 (.tmp 5)),
 ox (.store 3 (.tmp 10) (.tmp 77)),
 ob 11 (.mv (.cst (.int .i64 0))),
 ob 12 (.mv (.cst (.int .i64 75)))] false [10,11,12]) (.ret))
def q84_6:ACode :=
 (.seq (.region [
 ob 84 (.loadA 3 (.tmp 5)),
 ob 85 (.mv (.tmp 14)),
 ox (.store 3 (.tmp 10) (.tmp 84)),
 ob 11 (.mv (.cst (.int .i64 0))),
 ob 12 (.mv (.tmp 85))] false [10,11,12]) (.ret))
def q84_7:ACode :=
 (.seq (.region [
 ob 124 (.loadA 3 (.tmp 5)),
 ox (.store 3 (.tmp 10) (.tmp 124)),
 ob 11 (.mv (.cst (.int .i64 0))),
 ob 12 (.mv (.cst (.int .i64 76)))] false [10,11,12]) (.ret))
def q84_8:ACode :=
 (.region [
 ob 131 (.loadA 3 (.tmp 21)),
 ob 132 (.mv (.tmp 3)),
 ob 133 (.mv (.tmp 4)),
 ob 134 (.call 117 [(.tmp 131),(.tmp 132),(.tmp 133)]),
 ob 135 (.mv (.tmp 16)),
 ob 136 (.call 116 [(.tmp 134),(.tmp 135)]),
 ox (.store 3 (.tmp 21) (.tmp 136))] false [3,4,10,13,16,18,21])
def q84_9:ACode :=
 (.region [
 ob 142 (.loadA 3 (.tmp 21)),
 ob 143 (.loadA 6 (.tmp 18)),
 ob 144 (.call 113 [(.tmp 142),(.tmp 143)]),
 ox (.store 3 (.tmp 21) (.tmp 144))] false [3,4,10,13,16,21])
def q84_10:ACode :=
 (.seq (.region [
 ob 140 (.mv (.tmp 3)),
 ob 141 (.faddr 5 (.tmp 18)),
 ox (.store 1 (.tmp 141) (.tmp 140))] false [3,4,10,13,16,18,21]) q84_9)
def q84_11:ACode :=
 (.seq (.region [
 ob 145 (.loadA 3 (.tmp 21)),
 ob 146 (.mv (.tmp 3)),
 ob 147 (.mv (.tmp 4)),
 ob 148 (.mv (.tmp 13)),
 ob 149 (.call 112 [(.tmp 145),(.tmp 146),(.tmp 147),(.tmp 148)]),
 ob 150 (.mv (.tmp 16)),
 ox (.store 3 (.tmp 10) (.tmp 149)),
 ob 11 (.mv (.tmp 150)),
 ob 12 (.mv (.cst (.int .i64 0)))] false [10,11,12]) (.ret))
def q84_12:ACode :=
 (.seq (.seq (.region [
 ob 137 (.faddr 1 (.tmp 18)),
 ob 138 (.load1 (.tmp 137)),
 ob 139 (.bin .eql (.tmp 138) (.cst (.int .i64 2)))] false [3,4,10,13,16,18,21,139]) (.cond (.tmp 139) q84_10 (.skip))) q84_11)
def q84_13:ACode :=
 (.seq (.seq (.region [
 ob 129 (.mv (.tmp 16)),
 ob 130 (.bin .neq (.tmp 129) (.cst (.int .i64 0)))] false [3,4,10,13,16,18,21,130]) (.cond (.tmp 130) q84_8 (.skip))) q84_12)
def q84_14:ACode :=
 (.seq (.region [
 ob 125 (.loadA 3 (.tmp 5)),
 ob 126 (.mv (.tmp 1)),
 ob 127 (.mv (.tmp 2)),
 ob 128 (.call 117 [(.tmp 125),(.tmp 126),(.tmp 127)]),
 ob 21 (.box0 [(.slice .c0 []),(.int .i64 0),(.int .i64 0)]),
 ox (.store 3 (.tmp 21) (.tmp 128))] false [3,4,10,13,16,18,21]) q84_13)
def q84_15:ACode :=
 (.seq (.seq (.region [
 ob 89 (.mv (.tmp 16)),
 ob 90 (.bin .eql (.tmp 89) (.cst (.int .i64 0))),
 ob 91 (.mv (.tmp 90)),
 og 92 91 true (.mv (.tmp 3)),
 og 93 91 true (.mv (.tmp 1)),
 og 94 91 true (.bin .neq (.tmp 92) (.tmp 93)),
 ob 95 (.pick (.tmp 91) (.tmp 94) (.cst (.bool false))),
 ob 96 (.mv (.tmp 95)),
 og 97 96 true (.faddr 4 (.tmp 15)),
 og 98 96 true (.load1 (.tmp 97)),
 og 99 96 true (.lenV (.tmp 98)),
 og 100 96 true (.bin .geq (.tmp 99) (.cst (.int .i64 64))),
 ob 101 (.pick (.tmp 96) (.tmp 100) (.cst (.bool false))),
 ob 102 (.mv (.tmp 101)),
 og 103 102 false (.mv (.tmp 20)),
 og 104 102 false (.bin .geq (.tmp 103) (.cst (.int .i64 12))),
 ob 105 (.pick (.tmp 102) (.cst (.bool true)) (.tmp 104)),
 ob 106 (.mv (.tmp 105)),
 og 107 106 false (.faddr 1 (.tmp 18)),
 og 108 106 false (.load1 (.tmp 107)),
 og 109 106 false (.bin .eql (.tmp 108) (.cst (.int .i64 2))),
 og 110 106 false (.mv (.tmp 109)),
 og 111 110 true (.loadA 3 (.tmp 5)),
 og 112 110 true (.mv (.tmp 13)),
 og 113 110 true (.mv (.tmp 20)),
 og 114 110 true (.bin .add (.tmp 113) (.cst (.int .i64 1))),
 og 115 110 true (.call 124 [(.tmp 111),(.tmp 112),(.tmp 114)]),
 og 116 110 true (.bin .gtr (.tmp 115) (.cst (.int .i64 12))),
 og 117 106 false (.pick (.tmp 110) (.tmp 116) (.cst (.bool false))),
 ob 118 (.pick (.tmp 106) (.cst (.bool true)) (.tmp 117)),
 ob 119 (.mv (.tmp 118)),
 og 120 119 false (.faddr 2 (.tmp 5)),
 og 121 119 false (.load1 (.tmp 120)),
 og 122 119 false (.bin .geq (.tmp 121) (.cst (.int .i64 1099511627776))),
 ob 123 (.pick (.tmp 119) (.cst (.bool true)) (.tmp 122))] false [1,2,3,4,5,10,13,16,18,123]) (.cond (.tmp 123) q84_7 (.skip))) q84_14)
def q84_16:ACode :=
 (.seq (.region [
 ob 86 (.loadA 3 (.tmp 5)),
 ob 87 (.mv (.tmp 3)),
 ob 88 (.call 123 [(.tmp 86),(.tmp 87)]),
 ob 20 (.mv (.tmp 88))] false [1,2,3,4,5,10,13,15,16,18,20]) q84_15)
def q84_17:ACode :=
 (.seq (.seq (.region [
 ob 82 (.mv (.tmp 14)),
 ob 83 (.bin .neq (.tmp 82) (.cst (.int .i64 0)))] false [1,2,3,4,5,10,13,14,15,16,18,83]) (.cond (.tmp 83) q84_6 (.skip))) q84_16)
def q84_18:ACode :=
 (.seq (.region [
 ob 78 (.loadA 3 (.tmp 5)),
 ob 79 (.loadA 6 (.tmp 18)),
 ob 80 (.mv (.tmp 16)),
 ob 81 (.call 122 [(.tmp 78),(.tmp 79),(.tmp 80)]),
 ob 14 (.mv (.tmp 81))] false [1,2,3,4,5,10,13,14,15,16,18]) q84_17)
def q84_19:ACode :=
 (.seq (.seq (.region [
 ob 68 (.faddr 1 (.tmp 18)),
 ob 69 (.load1 (.tmp 68)),
 ob 70 (.bin .eql (.tmp 69) (.cst (.int .i64 2))),
 ob 71 (.mv (.tmp 70)),
 og 72 71 true (.loadA 3 (.tmp 5)),
 og 73 71 true (.mv (.tmp 3)),
 og 74 71 true (.mv (.tmp 13)),
 og 75 71 true (.call 121 [(.tmp 72),(.tmp 73),(.tmp 74)]),
 ob 76 (.pick (.tmp 71) (.tmp 75) (.cst (.bool false)))] false [1,2,3,4,5,10,13,15,16,18,76]) (.cond (.tmp 76) q84_5 (.skip))) q84_18)
def q84_20:ACode :=
 (.seq (.region [
 ob 63 (.loadA 3 (.tmp 5)),
 ob 64 (.mv (.tmp 13)),
 ob 65 (.call 114 [(.tmp 63),(.tmp 64)]),
 ob 62 (.mv (.tmp 65)),
 ob 66 (.extract (.tmp 62) 0),
 ob 67 (.extract (.tmp 62) 1),
 ob 18 (.box0 [(.int .i64 0),(.int .i64 0),(.int .i64 0),(.slice .c0 []),(.slice .c0 []),(.int .i64 0)]),
 ox (.store 6 (.tmp 18) (.tmp 66)),
 ob 19 (.mv (.tmp 67))] false [1,2,3,4,5,10,13,15,16,18]) q84_19)
def q84_21:ACode :=
 (.seq (.seq (.region [
 ob 58 (.mv (.tmp 16)),
 ob 59 (.mv (.tmp 13)),
 ob 60 (.bin .eql (.tmp 58) (.tmp 59))] false [1,2,3,4,5,10,13,15,16,60]) (.cond (.tmp 60) q84_4 (.skip))) q84_20)
def q84_22:ACode :=
 (.seq (.seq (.region [
 ob 50 (.mv (.tmp 17)),
 ob 51 (.bin .geq (.tmp 50) (.cst (.int .i64 0)))] false [1,2,3,4,5,10,13,15,16,17,51]) (.cond (.tmp 51) q84_3 (.skip))) q84_21)
def q84_23:ACode :=
 (.seq (.region [
 ob 47 (.loadA 6 (.tmp 15)),
 ob 48 (.mv (.tmp 4)),
 ob 49 (.call 120 [(.tmp 47),(.tmp 48)]),
 ob 17 (.mv (.tmp 49))] false [1,2,3,4,5,10,13,15,16,17]) q84_22)
def q84_24:ACode :=
 (.seq (.region [
 ob 16 (.mv (.cst (.int .i64 0)))] false [1,2,3,4,5,10,13,15,16]) q84_23)
def q84_25:ACode :=
 (.seq (.seq (.region [
 ob 43 (.mv (.tmp 4)),
 ob 44 (.call 119 [(.tmp 43)]),
 ob 45 (.not (.tmp 44))] false [1,2,3,4,5,10,13,15,45]) (.cond (.tmp 45) q84_2 (.skip))) q84_24)
def q84_26:ACode :=
 (.seq (.seq (.region [
 ob 39 (.mv (.tmp 14)),
 ob 40 (.bin .neq (.tmp 39) (.cst (.int .i64 0)))] false [1,2,3,4,5,10,13,14,15,40]) (.cond (.tmp 40) q84_1 (.skip))) q84_25)
def q84_27:ACode :=
 (.seq (.region [
 ob 34 (.loadA 3 (.tmp 5)),
 ob 35 (.mv (.tmp 3)),
 ob 36 (.call 118 [(.tmp 34),(.tmp 35)]),
 ob 33 (.mv (.tmp 36)),
 ob 37 (.extract (.tmp 33) 0),
 ob 38 (.extract (.tmp 33) 1),
 ob 15 (.box0 [(.int .i64 0),(.int .i64 0),(.int .i64 0),(.slice .c0 []),(.slice .c0 []),(.int .i64 0)]),
 ox (.store 6 (.tmp 15) (.tmp 37)),
 ob 14 (.mv (.tmp 38))] false [1,2,3,4,5,10,13,14,15]) q84_26)
def q84_28:ACode :=
 (.seq (.seq (.region [
 ob 29 (.mv (.tmp 14)),
 ob 30 (.bin .neq (.tmp 29) (.cst (.int .i64 0)))] false [1,2,3,4,5,10,13,14,30]) (.cond (.tmp 30) q84_0 (.skip))) q84_27)
def q84_29:ACode :=
 (.seq (.region [
 ob 23 (.loadA 3 (.tmp 5)),
 ob 24 (.mv (.tmp 1)),
 ob 25 (.mv (.tmp 2)),
 ob 26 (.call 115 [(.tmp 23),(.tmp 24),(.tmp 25)]),
 ob 22 (.mv (.tmp 26)),
 ob 27 (.extract (.tmp 22) 0),
 ob 28 (.extract (.tmp 22) 1),
 ob 13 (.mv (.tmp 27)),
 ob 14 (.mv (.tmp 28))] false [1,2,3,4,5,10,13,14]) q84_28)
def E84:=And.intro (exK_head q84_0.eq_1) (And.intro (exK_head q84_1.eq_1) (And.intro (exK_head q84_2.eq_1) (And.intro (exK_head q84_3.eq_1) (And.intro (exK_head q84_4.eq_1) (And.intro (exK_head q84_5.eq_1) (And.intro (exK_head q84_6.eq_1) (And.intro (exK_head q84_7.eq_1) (And.intro (exK_head q84_8.eq_1) (And.intro (exK_head q84_9.eq_1) (And.intro (exK_head q84_10.eq_1) (And.intro (exK_head q84_11.eq_1) (And.intro (exK_head q84_12.eq_1) (And.intro (exK_head q84_13.eq_1) (And.intro (exK_head q84_14.eq_1) (And.intro (exK_head q84_15.eq_1) (And.intro (exK_head q84_16.eq_1) (And.intro (exK_head q84_17.eq_1) (And.intro (exK_head q84_18.eq_1) (And.intro (exK_head q84_19.eq_1) (And.intro (exK_head q84_20.eq_1) (And.intro (exK_head q84_21.eq_1) (And.intro (exK_head q84_22.eq_1) (And.intro (exK_head q84_23.eq_1) (And.intro (exK_head q84_24.eq_1) (And.intro (exK_head q84_25.eq_1) (And.intro (exK_head q84_26.eq_1) (And.intro (exK_head q84_27.eq_1) (And.intro (exK_head q84_28.eq_1) (exK_head q84_29.eq_1)))))))))))))))))))))))))))))
def ann84:Ann:={ n:=151,own:=[],lv:=[(0,[1,2,3,4,5,10]),(1,[1,2,3,4,5,10,13,14]),(2,[1,2,3,4,5,10,13,14,30]),(3,[10,11,12]),(4,[1,2,3,4,5,10,13,14,15]),(5,[1,2,3,4,5,10,13,14,15,40]),(6,[10,11,12]),(7,[1,2,3,4,5,10,13,15,45]),(8,[10,11,12]),(9,[1,2,3,4,5,10,13,15,16]),(10,[1,2,3,4,5,10,13,15,16,17]),(11,[1,2,3,4,5,10,13,15,16,17,51]),(12,[1,2,3,4,5,10,13,15,16]),(13,[1,2,3,4,5,10,13,15,16,60]),(14,[10,11,12]),(15,[1,2,3,4,5,10,13,15,16,18]),(16,[1,2,3,4,5,10,13,15,16,18,76]),(17,[10,11,12]),(18,[1,2,3,4,5,10,13,14,15,16,18]),(19,[1,2,3,4,5,10,13,14,15,16,18,83]),(20,[10,11,12]),(21,[1,2,3,4,5,10,13,15,16,18,20]),(22,[1,2,3,4,5,10,13,16,18,123]),(23,[10,11,12]),(24,[3,4,10,13,16,18,21]),(25,[3,4,10,13,16,18,21,130]),(26,[3,4,10,13,16,18,21]),(27,[3,4,10,13,16,18,21,139]),(28,[3,4,10,13,16,18,21]),(29,[3,4,10,13,16,21]),(30,[10,11,12])],lp:=[] }
def fn84:AFn:=AFn.mk 5 [.cellA 10 3,.tmp 11,.tmp 12]
 (.seq (.region [
 ob 5 (.box (.tmp 0)),
 ob 10 (.box0 [(.slice .c0 []),(.int .i64 0),(.int .i64 0)]),
 ob 11 (.mv (.cst (.int .i64 0))),
 ob 12 (.mv (.cst (.int .i64 0)))] false [1,2,3,4,5,10]) q84_29)
theorem ok84:compFn Tryz.prog ann84 Tryz.f84=some fn84:=by kernel_rfl
def q85_0:ACode :=
 (.seq (.region [
 ob 18 (.loadA 3 (.tmp 3)),
 ox (.store 3 (.tmp 6) (.tmp 18)),
 ob 7 (.mv (.cst (.int .i64 70)))] false [6,7]) (.ret))
def q85_1:ACode :=
 (.seq (.region [
 ob 22 (.loadA 3 (.tmp 3)),
 ox (.store 3 (.tmp 6) (.tmp 22)),
 ob 7 (.mv (.cst (.int .i64 72)))] false [6,7]) (.ret))
def q85_2:ACode :=
 (.seq (.region [
 ob 26 (.loadA 3 (.tmp 3)),
 ox (.store 3 (.tmp 6) (.tmp 26)),
 ob 7 (.mv (.cst (.int .i64 2)))] false [6,7]) (.ret))
def q85_3:ACode :=
 (.seq (.region [
 ob 31 (.loadA 3 (.tmp 3)),
 ob 32 (.loadA 6 (.tmp 8)),
 ob 33 (.call 113 [(.tmp 31),(.tmp 32)]),
 ox (.store 3 (.tmp 6) (.tmp 33)),
 ob 7 (.mv (.cst (.int .i64 0)))] false [6,7]) (.ret))
def q85_4:ACode :=
 (.seq (.region [
 ob 27 (.litsO 1 []),
 ob 28 (.mv (.tmp 2)),
 ob 29 (.append 1 1 (.tmp 27) (.tmp 28)),
 ob 30 (.faddr 3 (.tmp 8)),
 ox (.store 1 (.tmp 30) (.tmp 29))] false [3,6,8]) q85_3)
def q85_5:ACode :=
 (.seq (.seq (.region [
 ob 23 (.mv (.tmp 2)),
 ob 24 (.lenV (.tmp 23)),
 ob 25 (.bin .gtr (.tmp 24) (.cst (.int .i64 4096)))] false [2,3,6,8,25]) (.cond (.tmp 25) q85_2 (.skip))) q85_4)
def q85_6:ACode :=
 (.seq (.seq (.region [
 ob 19 (.faddr 1 (.tmp 8)),
 ob 20 (.load1 (.tmp 19)),
 ob 21 (.bin .eql (.tmp 20) (.cst (.int .i64 2)))] false [2,3,6,8,21]) (.cond (.tmp 21) q85_1 (.skip))) q85_5)
def q85_7:ACode :=
 (.seq (.seq (.region [
 ob 16 (.mv (.tmp 9)),
 ob 17 (.not (.tmp 16))] false [2,3,6,8,17]) (.cond (.tmp 17) q85_0 (.skip))) q85_6)
def q85_8:ACode :=
 (.seq (.region [
 ob 11 (.loadA 3 (.tmp 3)),
 ob 12 (.mv (.tmp 1)),
 ob 13 (.call 114 [(.tmp 11),(.tmp 12)]),
 ob 10 (.mv (.tmp 13)),
 ob 14 (.extract (.tmp 10) 0),
 ob 15 (.extract (.tmp 10) 1),
 ob 8 (.box0 [(.int .i64 0),(.int .i64 0),(.int .i64 0),(.slice .c0 []),(.slice .c0 []),(.int .i64 0)]),
 ox (.store 6 (.tmp 8) (.tmp 14)),
 ob 9 (.mv (.tmp 15))] false [2,3,6,8,9]) q85_7)
def E85:=And.intro (exK_head q85_0.eq_1) (And.intro (exK_head q85_1.eq_1) (And.intro (exK_head q85_2.eq_1) (And.intro (exK_head q85_3.eq_1) (And.intro (exK_head q85_4.eq_1) (And.intro (exK_head q85_5.eq_1) (And.intro (exK_head q85_6.eq_1) (And.intro (exK_head q85_7.eq_1) (exK_head q85_8.eq_1))))))))
def ann85:Ann:={ n:=34,own:=[27],lv:=[(0,[1,2,3,6]),(1,[2,3,6,8,9]),(2,[2,3,6,8,17]),(3,[6,7]),(4,[2,3,6,8,21]),(5,[6,7]),(6,[2,3,6,8,25]),(7,[6,7]),(8,[3,6,8]),(9,[6,7])],lp:=[] }
def fn85:AFn:=AFn.mk 3 [.cellA 6 3,.tmp 7]
 (.seq (.region [
 ob 3 (.box (.tmp 0)),
 ob 6 (.box0 [(.slice .c0 []),(.int .i64 0),(.int .i64 0)]),
 ob 7 (.mv (.cst (.int .i64 0)))] false [1,2,3,6]) q85_8)
theorem ok85:compFn Tryz.prog ann85 Tryz.f85=some fn85:=by kernel_rfl
def q86_0:ACode :=
 (.seq (.region [
 ob 16 (.loadA 3 (.tmp 2)),
 ox (.store 3 (.tmp 4) (.tmp 16)),
 ob 5 (.mv (.cst (.int .i64 70)))] false [4,5]) (.ret))
def q86_1:ACode :=
 (.seq (.region [
 ob 20 (.loadA 3 (.tmp 2)),
 ox (.store 3 (.tmp 4) (.tmp 20)),
 ob 5 (.mv (.cst (.int .i64 72)))] false [4,5]) (.ret))
def q86_2:ACode :=
 (.seq (.region [
 ob 24 (.loadA 3 (.tmp 2)),
 ox (.store 3 (.tmp 4) (.tmp 24)),
 ob 5 (.mv (.cst (.int .i64 71)))] false [4,5]) (.ret))
def q86_3:ACode :=
 (.seq (.region [
 ob 25 (.loadA 3 (.tmp 2)),
 ob 26 (.mv (.tmp 1)),
 ob 27 (.call 125 [(.tmp 25),(.tmp 26)]),
 ox (.store 3 (.tmp 4) (.tmp 27)),
 ob 5 (.mv (.cst (.int .i64 0)))] false [4,5]) (.ret))
def q86_4:ACode :=
 (.seq (.seq (.region [
 ob 21 (.faddr 2 (.tmp 6)),
 ob 22 (.load1 (.tmp 21)),
 ob 23 (.bin .gtr (.tmp 22) (.cst (.int .i64 0)))] false [1,2,4,23]) (.cond (.tmp 23) q86_2 (.skip))) q86_3)
def q86_5:ACode :=
 (.seq (.seq (.region [
 ob 17 (.faddr 1 (.tmp 6)),
 ob 18 (.load1 (.tmp 17)),
 ob 19 (.bin .eql (.tmp 18) (.cst (.int .i64 2)))] false [1,2,4,6,19]) (.cond (.tmp 19) q86_1 (.skip))) q86_4)
def q86_6:ACode :=
 (.seq (.seq (.region [
 ob 14 (.mv (.tmp 7)),
 ob 15 (.not (.tmp 14))] false [1,2,4,6,15]) (.cond (.tmp 15) q86_0 (.skip))) q86_5)
def q86_7:ACode :=
 (.seq (.region [
 ob 9 (.loadA 3 (.tmp 2)),
 ob 10 (.mv (.tmp 1)),
 ob 11 (.call 114 [(.tmp 9),(.tmp 10)]),
 ob 8 (.mv (.tmp 11)),
 ob 12 (.extract (.tmp 8) 0),
 ob 13 (.extract (.tmp 8) 1),
 ob 6 (.box0 [(.int .i64 0),(.int .i64 0),(.int .i64 0),(.slice .c0 []),(.slice .c0 []),(.int .i64 0)]),
 ox (.store 6 (.tmp 6) (.tmp 12)),
 ob 7 (.mv (.tmp 13))] false [1,2,4,6,7]) q86_6)
def E86:=And.intro (exK_head q86_0.eq_1) (And.intro (exK_head q86_1.eq_1) (And.intro (exK_head q86_2.eq_1) (And.intro (exK_head q86_3.eq_1) (And.intro (exK_head q86_4.eq_1) (And.intro (exK_head q86_5.eq_1) (And.intro (exK_head q86_6.eq_1) (exK_head q86_7.eq_1)))))))
def ann86:Ann:={ n:=28,own:=[],lv:=[(0,[1,2,4]),(1,[1,2,4,6,7]),(2,[1,2,4,6,15]),(3,[4,5]),(4,[1,2,4,6,19]),(5,[4,5]),(6,[1,2,4,23]),(7,[4,5]),(8,[4,5])],lp:=[] }
def fn86:AFn:=AFn.mk 2 [.cellA 4 3,.tmp 5]
 (.seq (.region [
 ob 2 (.box (.tmp 0)),
 ob 4 (.box0 [(.slice .c0 []),(.int .i64 0),(.int .i64 0)]),
 ob 5 (.mv (.cst (.int .i64 0)))] false [1,2,4]) q86_7)
theorem ok86:compFn Tryz.prog ann86 Tryz.f86=some fn86:=by kernel_rfl
def q111_0:ACode :=
 (.seq (.region [
 ob 17 (.mv (.tmp 8)),
 ob 6 (.mv (.tmp 17))] false [6]) (.ret))
def q111_1:ACode :=
 (.seq (.region [
 ob 6 (.mv (.cst (.int .i64 60)))] false [6]) (.ret))
def q111_2:ACode :=
 (.seq (.region [
 ob 6 (.mv (.cst (.int .i64 71)))] false [6]) (.ret))
def q111_3:ACode :=
 (.seq (.region [
 ob 6 (.mv (.cst (.int .i64 76)))] false [6]) (.ret))
def q111_4:ACode :=
 (.seq (.region [
 ob 6 (.mv (.cst (.int .i64 0)))] false [6]) (.ret))
def q111_5:ACode :=
 (.seq (.seq (.region [
 ob 25 (.loadA 3 (.tmp 3)),
 ob 26 (.loadA 6 (.tmp 7)),
 ob 27 (.call 155 [(.tmp 25),(.tmp 26)])] false [27]) (.cond (.tmp 27) q111_3 (.skip))) q111_4)
def q111_6:ACode :=
 (.seq (.seq (.region [
 ob 21 (.loadA 6 (.tmp 7)),
 ob 22 (.mv (.tmp 2)),
 ob 23 (.call 120 [(.tmp 21),(.tmp 22)]),
 ob 24 (.bin .geq (.tmp 23) (.cst (.int .i64 0)))] false [3,7,24]) (.cond (.tmp 24) q111_2 (.skip))) q111_5)
def q111_7:ACode :=
 (.seq (.seq (.region [
 ob 18 (.mv (.tmp 2)),
 ob 19 (.call 119 [(.tmp 18)]),
 ob 20 (.not (.tmp 19))] false [2,3,7,20]) (.cond (.tmp 20) q111_1 (.skip))) q111_6)
def q111_8:ACode :=
 (.seq (.seq (.region [
 ob 15 (.mv (.tmp 8)),
 ob 16 (.bin .neq (.tmp 15) (.cst (.int .i64 0)))] false [2,3,7,8,16]) (.cond (.tmp 16) q111_0 (.skip))) q111_7)
def q111_9:ACode :=
 (.seq (.region [
 ob 10 (.loadA 3 (.tmp 3)),
 ob 11 (.mv (.tmp 1)),
 ob 12 (.call 118 [(.tmp 10),(.tmp 11)]),
 ob 9 (.mv (.tmp 12)),
 ob 13 (.extract (.tmp 9) 0),
 ob 14 (.extract (.tmp 9) 1),
 ob 7 (.box0 [(.int .i64 0),(.int .i64 0),(.int .i64 0),(.slice .c0 []),(.slice .c0 []),(.int .i64 0)]),
 ox (.store 6 (.tmp 7) (.tmp 13)),
 ob 8 (.mv (.tmp 14))] false [2,3,7,8]) q111_8)
def E111:=And.intro (exK_head q111_0.eq_1) (And.intro (exK_head q111_1.eq_1) (And.intro (exK_head q111_2.eq_1) (And.intro (exK_head q111_3.eq_1) (And.intro (exK_head q111_4.eq_1) (And.intro (exK_head q111_5.eq_1) (And.intro (exK_head q111_6.eq_1) (And.intro (exK_head q111_7.eq_1) (And.intro (exK_head q111_8.eq_1) (exK_head q111_9.eq_1)))))))))
def ann111:Ann:={ n:=28,own:=[],lv:=[(0,[1,2,3]),(1,[2,3,7,8]),(2,[2,3,7,8,16]),(3,[6]),(4,[2,3,7,20]),(5,[6]),(6,[3,7,24]),(7,[6]),(8,[27]),(9,[6]),(10,[6])],lp:=[] }
def fn111:AFn:=AFn.mk 3 [.tmp 6]
 (.seq (.region [
 ob 3 (.box (.tmp 0)),
 ob 6 (.mv (.cst (.int .i64 0)))] false [1,2,3]) q111_9)
theorem ok111:compFn Tryz.prog ann111 Tryz.f111=some fn111:=by kernel_rfl
def q112_0:ACode :=
 (.region [
 ob 13 (.mv (.cst (.bool true)))] false [2,4,8,9,11,12,13,14])
def q112_1:ACode :=
 (.seq (.region [
 ob 45 (.mv (.tmp 12)),
 ob 46 (.loadA 3 (.tmp 11)),
 ob 47 (.lits 3 [(.tmp 46)]),
 ob 48 (.append 3 32 (.tmp 45) (.tmp 47)),
 ob 12 (.mv (.tmp 48))] false [2,4,8,9,11,12,14]) q112_0)
def q112_2:ACode :=
 (.region [
 ob 49 (.mv (.tmp 12)),
 ob 50 (.faddr 4 (.tmp 9)),
 ob 51 (.load1 (.tmp 50)),
 ob 52 (.mv (.tmp 14)),
 ob 53 (.iaddr 3 (.tmp 51) (.tmp 52)),
 ob 54 (.loadA 3 (.tmp 53)),
 ob 55 (.lits 3 [(.tmp 54)]),
 ob 56 (.append 3 32 (.tmp 49) (.tmp 55)),
 ob 12 (.mv (.tmp 56))] false [2,4,8,9,11,12,13,14])
def q112_3:ACode :=
 (.region [
 ob 31 (.mv (.tmp 14)),
 ob 32 (.bin .add (.tmp 31) (.cst (.int .i64 1))),
 ob 14 (.mv (.tmp 32))] false [2,4,8,9,11,12,13,14])
def q112_4:ACode :=
 (.seq (.block 1 (.seq (.seq (.region [
 ob 33 (.mv (.tmp 13)),
 ob 34 (.not (.tmp 33)),
 ob 35 (.mv (.tmp 34)),
 og 36 35 true (.faddr 4 (.tmp 9)),
 og 37 35 true (.load1 (.tmp 36)),
 og 38 35 true (.mv (.tmp 14)),
 og 39 35 true (.iaddr 3 (.tmp 37) (.tmp 38)),
 og 40 35 true (.faddr 0 (.tmp 39)),
 og 41 35 true (.load1 (.tmp 40)),
 og 42 35 true (.mv (.tmp 2)),
 og 43 35 true (.bin .gtr (.tmp 41) (.tmp 42)),
 ob 44 (.pick (.tmp 35) (.tmp 43) (.cst (.bool false)))] false [2,4,8,9,11,12,13,14,44]) (.cond (.tmp 44) q112_1 (.skip))) q112_2)) q112_3)
def lb112_0:ACode :=
 (.seq (.seq (.region [
 ob 26 (.mv (.tmp 14)),
 ob 27 (.faddr 4 (.tmp 9)),
 ob 28 (.load1 (.tmp 27)),
 ob 29 (.lenV (.tmp 28)),
 ob 30 (.bin .lss (.tmp 26) (.tmp 29))] false [2,4,8,9,11,12,13,14,30]) (.cond (.tmp 30) (.skip) (.exit 0))) q112_4)
def q112_5:ACode :=
 (.block 0 (.loop [2,4,8,9,11,12,13,14] lb112_0))
def q112_6:ACode :=
 (.region [
 ob 59 (.mv (.tmp 12)),
 ob 60 (.loadA 3 (.tmp 11)),
 ob 61 (.lits 3 [(.tmp 60)]),
 ob 62 (.append 3 32 (.tmp 59) (.tmp 61)),
 ob 12 (.mv (.tmp 62))] false [4,8,9,12])
def q112_7:ACode :=
 (.seq (.region [
 ob 69 (.loadA 3 (.tmp 4)),
 ob 70 (.loadA 6 (.tmp 9)),
 ob 71 (.call 113 [(.tmp 69),(.tmp 70)]),
 ox (.store 3 (.tmp 8) (.tmp 71))] false [8]) (.ret))
def q112_8:ACode :=
 (.seq (.region [
 ob 65 (.faddr 2 (.tmp 4)),
 ob 66 (.load1 (.tmp 65)),
 ob 67 (.bin .add (.tmp 66) (.cst (.int .i64 1))),
 ob 68 (.faddr 2 (.tmp 4)),
 ox (.store 1 (.tmp 68) (.tmp 67))] false [4,8,9]) q112_7)
def q112_9:ACode :=
 (.seq (.region [
 ob 63 (.mv (.tmp 12)),
 ob 64 (.faddr 4 (.tmp 9)),
 ox (.store 1 (.tmp 64) (.tmp 63))] false [4,8,9]) q112_8)
def q112_10:ACode :=
 (.seq (.seq (.region [
 ob 57 (.mv (.tmp 13)),
 ob 58 (.not (.tmp 57))] false [4,8,9,11,12,58]) (.cond (.tmp 58) q112_6 (.skip))) q112_9)
def q112_11:ACode :=
 (.seq (.seq (.region [
 ob 14 (.mv (.cst (.int .i64 0)))] false [2,4,8,9,11,12,13,14]) q112_5) q112_10)
def q112_12:ACode :=
 (.seq (.region [
 ob 13 (.mv (.cst (.bool false)))] false [2,4,8,9,11,12,13]) q112_11)
def q112_13:ACode :=
 (.seq (.region [
 ob 12 (.own 3 (.cst (.slice .c0 [])))] false [2,4,8,9,11,12]) q112_12)
def q112_14:ACode :=
 (.seq (.region [
 ob 21 (.mv (.tmp 2)),
 ob 22 (.mv (.tmp 3)),
 ob 23 (.faddr 2 (.tmp 4)),
 ob 24 (.load1 (.tmp 23)),
 ob 25 (.build [(.str []),(.int .i64 0),(.int .i64 0)] [(0,1,(.tmp 21)),(1,1,(.tmp 22)),(2,1,(.tmp 24))]),
 ob 11 (.box0 [(.str []),(.int .i64 0),(.int .i64 0)]),
 ox (.store 3 (.tmp 11) (.tmp 25))] false [2,4,8,9,11]) q112_13)
def q112_15:ACode :=
 (.seq (.region [
 ob 16 (.loadA 3 (.tmp 4)),
 ob 17 (.mv (.tmp 1)),
 ob 18 (.call 114 [(.tmp 16),(.tmp 17)]),
 ob 15 (.mv (.tmp 18)),
 ob 19 (.extract (.tmp 15) 0),
 ob 20 (.extract (.tmp 15) 1),
 ob 9 (.box0 [(.int .i64 0),(.int .i64 0),(.int .i64 0),(.slice .c0 []),(.slice .c0 []),(.int .i64 0)]),
 ox (.store 6 (.tmp 9) (.tmp 19)),
 ob 10 (.mv (.tmp 20))] false [2,3,4,8,9]) q112_14)
def E112:=And.intro (exK_head q112_0.eq_1) (And.intro (exK_head q112_1.eq_1) (And.intro (exK_head q112_2.eq_1) (And.intro (exK_head q112_3.eq_1) (And.intro (exK_head q112_4.eq_1) (And.intro (exK_head lb112_0.eq_1) (And.intro (exK_head q112_5.eq_1) (And.intro (exK_head q112_6.eq_1) (And.intro (exK_head q112_7.eq_1) (And.intro (exK_head q112_8.eq_1) (And.intro (exK_head q112_9.eq_1) (And.intro (exK_head q112_10.eq_1) (And.intro (exK_head q112_11.eq_1) (And.intro (exK_head q112_12.eq_1) (And.intro (exK_head q112_13.eq_1) (And.intro (exK_head q112_14.eq_1) (exK_head q112_15.eq_1))))))))))))))))
def ann112:Ann:={ n:=72,own:=[12],lv:=[(0,[1,2,3,4,8]),(1,[2,3,4,8,9]),(2,[2,4,8,9,11]),(3,[2,4,8,9,11,12]),(4,[2,4,8,9,11,12,13]),(5,[2,4,8,9,11,12,13,14]),(6,[2,4,8,9,11,12,13,14,30]),(7,[2,4,8,9,11,12,13,14]),(8,[2,4,8,9,11,12,13,14,44]),(9,[2,4,8,9,11,12,14]),(10,[2,4,8,9,11,12,13,14]),(11,[2,4,8,9,11,12,13,14]),(12,[4,8,9,11,12,58]),(13,[4,8,9,12]),(14,[4,8,9]),(15,[4,8,9]),(16,[8])],lp:=[(6,[2,4,8,9,11,12,13,14])] }
def fn112:AFn:=AFn.mk 4 [.cellA 8 3]
 (.seq (.region [
 ob 4 (.box (.tmp 0)),
 ob 8 (.box0 [(.slice .c0 []),(.int .i64 0),(.int .i64 0)])] false [1,2,3,4,8]) q112_15)
theorem ok112:compFn Tryz.prog ann112 Tryz.f112=some fn112:=by kernel_rfl
def q113_0:ACode :=
 (.region [
 ob 6 (.mv (.cst (.bool true)))] false [2,3,4,5,6,7])
def q113_1:ACode :=
 (.seq (.region [
 ob 28 (.mv (.tmp 5)),
 ob 29 (.loadA 6 (.tmp 3)),
 ob 30 (.lits 6 [(.tmp 29)]),
 ob 31 (.append 6 80 (.tmp 28) (.tmp 30)),
 ob 5 (.mv (.tmp 31))] false [2,3,4,5,7]) q113_0)
def q113_2:ACode :=
 (.region [
 ob 41 (.mv (.tmp 5)),
 ob 42 (.faddr 0 (.tmp 2)),
 ob 43 (.load1 (.tmp 42)),
 ob 44 (.mv (.tmp 7)),
 ob 45 (.iaddr 6 (.tmp 43) (.tmp 44)),
 ob 46 (.loadA 6 (.tmp 45)),
 ob 47 (.lits 6 [(.tmp 46)]),
 ob 48 (.append 6 80 (.tmp 41) (.tmp 47)),
 ob 5 (.mv (.tmp 48))] false [2,3,4,5,6,7])
def q113_3:ACode :=
 (.seq (.region [
 ob 32 (.faddr 0 (.tmp 2)),
 ob 33 (.load1 (.tmp 32)),
 ob 34 (.mv (.tmp 7)),
 ob 35 (.iaddr 6 (.tmp 33) (.tmp 34)),
 ob 36 (.faddr 0 (.tmp 35)),
 ob 37 (.load1 (.tmp 36)),
 ob 38 (.faddr 0 (.tmp 3)),
 ob 39 (.load1 (.tmp 38)),
 ob 40 (.bin .neq (.tmp 37) (.tmp 39))] true [2,3,4,5,6,7,40]) (.cond (.tmp 40) q113_2 (.skip)))
def q113_4:ACode :=
 (.region [
 ob 13 (.mv (.tmp 7)),
 ob 14 (.bin .add (.tmp 13) (.cst (.int .i64 1))),
 ob 7 (.mv (.tmp 14))] false [2,3,4,5,6,7])
def q113_5:ACode :=
 (.seq (.block 1 (.seq (.seq (.region [
 ob 15 (.mv (.tmp 6)),
 ob 16 (.not (.tmp 15)),
 ob 17 (.mv (.tmp 16)),
 og 18 17 true (.faddr 0 (.tmp 2)),
 og 19 17 true (.load1 (.tmp 18)),
 og 20 17 true (.mv (.tmp 7)),
 og 21 17 true (.iaddr 6 (.tmp 19) (.tmp 20)),
 og 22 17 true (.faddr 0 (.tmp 21)),
 og 23 17 true (.load1 (.tmp 22)),
 og 24 17 true (.faddr 0 (.tmp 3)),
 og 25 17 true (.load1 (.tmp 24)),
 og 26 17 true (.bin .geq (.tmp 23) (.tmp 25)),
 ob 27 (.pick (.tmp 17) (.tmp 26) (.cst (.bool false)))] true [2,3,4,5,6,7,27]) (.cond (.tmp 27) q113_1 (.skip))) q113_3)) q113_4)
def lb113_0:ACode :=
 (.seq (.seq (.region [
 ob 8 (.mv (.tmp 7)),
 ob 9 (.faddr 0 (.tmp 2)),
 ob 10 (.load1 (.tmp 9)),
 ob 11 (.lenV (.tmp 10)),
 ob 12 (.bin .lss (.tmp 8) (.tmp 11))] false [2,3,4,5,6,7,12]) (.cond (.tmp 12) (.skip) (.exit 0))) q113_5)
def q113_6:ACode :=
 (.block 0 (.loop [2,3,4,5,6,7] lb113_0))
def q113_7:ACode :=
 (.region [
 ob 51 (.mv (.tmp 5)),
 ob 52 (.loadA 6 (.tmp 3)),
 ob 53 (.lits 6 [(.tmp 52)]),
 ob 54 (.append 6 80 (.tmp 51) (.tmp 53)),
 ob 5 (.mv (.tmp 54))] false [2,4,5])
def q113_8:ACode :=
 (.seq (.region [
 ob 57 (.loadA 3 (.tmp 2)),
 ox (.store 3 (.tmp 4) (.tmp 57))] false [4]) (.ret))
def q113_9:ACode :=
 (.seq (.region [
 ob 55 (.mv (.tmp 5)),
 ob 56 (.faddr 0 (.tmp 2)),
 ox (.store 1 (.tmp 56) (.tmp 55))] false [2,4]) q113_8)
def q113_10:ACode :=
 (.seq (.seq (.region [
 ob 49 (.mv (.tmp 6)),
 ob 50 (.not (.tmp 49))] false [2,3,4,5,50]) (.cond (.tmp 50) q113_7 (.skip))) q113_9)
def q113_11:ACode :=
 (.seq (.seq (.region [
 ob 7 (.mv (.cst (.int .i64 0)))] false [2,3,4,5,6,7]) q113_6) q113_10)
def q113_12:ACode :=
 (.seq (.region [
 ob 6 (.mv (.cst (.bool false)))] false [2,3,4,5,6]) q113_11)
def q113_13:ACode :=
 (.seq (.region [
 ob 5 (.own 6 (.cst (.slice .c0 [])))] false [2,3,4,5]) q113_12)
def E113:=And.intro (exK_head q113_0.eq_1) (And.intro (exK_head q113_1.eq_1) (And.intro (exK_head q113_2.eq_1) (And.intro (exK_head q113_3.eq_1) (And.intro (exK_head q113_4.eq_1) (And.intro (exK_head q113_5.eq_1) (And.intro (exK_head lb113_0.eq_1) (And.intro (exK_head q113_6.eq_1) (And.intro (exK_head q113_7.eq_1) (And.intro (exK_head q113_8.eq_1) (And.intro (exK_head q113_9.eq_1) (And.intro (exK_head q113_10.eq_1) (And.intro (exK_head q113_11.eq_1) (And.intro (exK_head q113_12.eq_1) (exK_head q113_13.eq_1))))))))))))))
def ann113:Ann:={ n:=58,own:=[5],lv:=[(0,[2,3,4]),(1,[2,3,4,5]),(2,[2,3,4,5,6]),(3,[2,3,4,5,6,7]),(4,[2,3,4,5,6,7,12]),(5,[2,3,4,5,6,7]),(6,[2,3,4,5,6,7,27]),(7,[2,3,4,5,7]),(8,[2,3,4,5,6,7]),(9,[2,3,4,5,6,7,40]),(10,[2,3,4,5,6,7]),(11,[2,3,4,5,50]),(12,[2,4,5]),(13,[2,4]),(14,[4])],lp:=[(4,[2,3,4,5,6,7])] }
def fn113:AFn:=AFn.mk 2 [.cellA 4 3]
 (.seq (.region [
 ob 2 (.box (.tmp 0)),
 ob 3 (.box (.tmp 1)),
 ob 4 (.box0 [(.slice .c0 []),(.int .i64 0),(.int .i64 0)])] false [2,3,4]) q113_13)
theorem ok113:compFn Tryz.prog ann113 Tryz.f113=some fn113:=by kernel_rfl
def q114_0:ACode :=
 (.seq (.region [
 ob 12 (.build [(.int .i64 0),(.int .i64 0),(.int .i64 0),(.slice .c0 []),(.slice .c0 []),(.int .i64 0)] []),
 ox (.store 6 (.tmp 4) (.tmp 12)),
 ob 5 (.mv (.cst (.bool false)))] false [4,5]) (.ret))
def q114_1:ACode :=
 (.seq (.region [
 ob 13 (.faddr 0 (.tmp 2)),
 ob 14 (.load1 (.tmp 13)),
 ob 15 (.mv (.tmp 6)),
 ob 16 (.iaddr 6 (.tmp 14) (.tmp 15)),
 ob 17 (.loadA 6 (.tmp 16)),
 ox (.store 6 (.tmp 4) (.tmp 17)),
 ob 5 (.mv (.cst (.bool true)))] false [4,5]) (.ret))
def q114_2:ACode :=
 (.seq (.seq (.region [
 ob 10 (.mv (.tmp 6)),
 ob 11 (.bin .lss (.tmp 10) (.cst (.int .i64 0)))] false [2,4,6,11]) (.cond (.tmp 11) q114_0 (.skip))) q114_1)
def q114_3:ACode :=
 (.seq (.region [
 ob 7 (.loadA 3 (.tmp 2)),
 ob 8 (.mv (.tmp 1)),
 ob 9 (.call 156 [(.tmp 7),(.tmp 8)]),
 ob 6 (.mv (.tmp 9))] false [2,4,6]) q114_2)
def E114:=And.intro (exK_head q114_0.eq_1) (And.intro (exK_head q114_1.eq_1) (And.intro (exK_head q114_2.eq_1) (exK_head q114_3.eq_1)))
def ann114:Ann:={ n:=18,own:=[],lv:=[(0,[1,2,4]),(1,[2,4,6]),(2,[2,4,6,11]),(3,[4,5]),(4,[4,5])],lp:=[] }
def fn114:AFn:=AFn.mk 2 [.cellA 4 6,.tmp 5]
 (.seq (.region [
 ob 2 (.box (.tmp 0)),
 ob 4 (.box0 [(.int .i64 0),(.int .i64 0),(.int .i64 0),(.slice .c0 []),(.slice .c0 []),(.int .i64 0)]),
 ob 5 (.mv (.cst (.bool false)))] false [1,2,4]) q114_3)
theorem ok114:compFn Tryz.prog ann114 Tryz.f114=some fn114:=by kernel_rfl
def q115_0:ACode :=
 (.seq (.region [
 ob 19 (.mv (.tmp 9)),
 ob 6 (.mv (.cst (.int .i64 0))),
 ob 7 (.mv (.tmp 19))] false [6,7]) (.ret))
def q115_1:ACode :=
 (.seq (.region [
 ob 6 (.mv (.cst (.int .i64 0))),
 ob 7 (.mv (.cst (.int .i64 60)))] false [6,7]) (.ret))
def q115_2:ACode :=
 (.seq (.region [
 ob 6 (.mv (.cst (.int .i64 0))),
 ob 7 (.mv (.cst (.int .i64 70)))] false [6,7]) (.ret))
def q115_3:ACode :=
 (.seq (.region [
 ob 28 (.faddr 4 (.tmp 8)),
 ob 29 (.load1 (.tmp 28)),
 ob 30 (.mv (.tmp 10)),
 ob 31 (.iaddr 3 (.tmp 29) (.tmp 30)),
 ob 32 (.faddr 1 (.tmp 31)),
 ob 33 (.load1 (.tmp 32)),
 ob 6 (.mv (.tmp 33)),
 ob 7 (.mv (.cst (.int .i64 0)))] false [6,7]) (.ret))
def q115_4:ACode :=
 (.seq (.seq (.region [
 ob 26 (.mv (.tmp 10)),
 ob 27 (.bin .lss (.tmp 26) (.cst (.int .i64 0)))] false [8,10,27]) (.cond (.tmp 27) q115_2 (.skip))) q115_3)
def q115_5:ACode :=
 (.seq (.region [
 ob 23 (.loadA 6 (.tmp 8)),
 ob 24 (.mv (.tmp 2)),
 ob 25 (.call 120 [(.tmp 23),(.tmp 24)]),
 ob 10 (.mv (.tmp 25))] false [8,10]) q115_4)
def q115_6:ACode :=
 (.seq (.seq (.region [
 ob 20 (.mv (.tmp 2)),
 ob 21 (.call 119 [(.tmp 20)]),
 ob 22 (.not (.tmp 21))] false [2,8,22]) (.cond (.tmp 22) q115_1 (.skip))) q115_5)
def q115_7:ACode :=
 (.seq (.seq (.region [
 ob 17 (.mv (.tmp 9)),
 ob 18 (.bin .neq (.tmp 17) (.cst (.int .i64 0)))] false [2,8,9,18]) (.cond (.tmp 18) q115_0 (.skip))) q115_6)
def q115_8:ACode :=
 (.seq (.region [
 ob 12 (.loadA 3 (.tmp 3)),
 ob 13 (.mv (.tmp 1)),
 ob 14 (.call 118 [(.tmp 12),(.tmp 13)]),
 ob 11 (.mv (.tmp 14)),
 ob 15 (.extract (.tmp 11) 0),
 ob 16 (.extract (.tmp 11) 1),
 ob 8 (.box0 [(.int .i64 0),(.int .i64 0),(.int .i64 0),(.slice .c0 []),(.slice .c0 []),(.int .i64 0)]),
 ox (.store 6 (.tmp 8) (.tmp 15)),
 ob 9 (.mv (.tmp 16))] false [2,8,9]) q115_7)
def E115:=And.intro (exK_head q115_0.eq_1) (And.intro (exK_head q115_1.eq_1) (And.intro (exK_head q115_2.eq_1) (And.intro (exK_head q115_3.eq_1) (And.intro (exK_head q115_4.eq_1) (And.intro (exK_head q115_5.eq_1) (And.intro (exK_head q115_6.eq_1) (And.intro (exK_head q115_7.eq_1) (exK_head q115_8.eq_1))))))))
def ann115:Ann:={ n:=34,own:=[],lv:=[(0,[1,2,3]),(1,[2,8,9]),(2,[2,8,9,18]),(3,[6,7]),(4,[2,8,22]),(5,[6,7]),(6,[8,10]),(7,[8,10,27]),(8,[6,7]),(9,[6,7])],lp:=[] }
def fn115:AFn:=AFn.mk 3 [.tmp 6,.tmp 7]
 (.seq (.region [
 ob 3 (.box (.tmp 0)),
 ob 6 (.mv (.cst (.int .i64 0))),
 ob 7 (.mv (.cst (.int .i64 0)))] false [1,2,3]) q115_8)
theorem ok115:compFn Tryz.prog ann115 Tryz.f115=some fn115:=by kernel_rfl
def q116_0:ACode :=
 (.seq (.region [
 ob 16 (.loadA 3 (.tmp 2)),
 ob 17 (.mv (.tmp 1)),
 ob 18 (.call 125 [(.tmp 16),(.tmp 17)]),
 ox (.store 3 (.tmp 4) (.tmp 18))] false [4]) (.ret))
def q116_1:ACode :=
 (.seq (.region [
 ob 23 (.loadA 3 (.tmp 2)),
 ob 24 (.loadA 6 (.tmp 5)),
 ob 25 (.call 113 [(.tmp 23),(.tmp 24)]),
 ox (.store 3 (.tmp 4) (.tmp 25))] false [4]) (.ret))
def q116_2:ACode :=
 (.seq (.region [
 ob 19 (.faddr 2 (.tmp 5)),
 ob 20 (.load1 (.tmp 19)),
 ob 21 (.bin .sub (.tmp 20) (.cst (.int .i64 1))),
 ob 22 (.faddr 2 (.tmp 5)),
 ox (.store 1 (.tmp 22) (.tmp 21))] false [2,4,5]) q116_1)
def q116_3:ACode :=
 (.seq (.seq (.region [
 ob 13 (.faddr 1 (.tmp 5)),
 ob 14 (.load1 (.tmp 13)),
 ob 15 (.bin .eql (.tmp 14) (.cst (.int .i64 2)))] false [1,2,4,5,15]) (.cond (.tmp 15) q116_0 (.skip))) q116_2)
def q116_4:ACode :=
 (.seq (.region [
 ob 8 (.loadA 3 (.tmp 2)),
 ob 9 (.mv (.tmp 1)),
 ob 10 (.call 114 [(.tmp 8),(.tmp 9)]),
 ob 7 (.mv (.tmp 10)),
 ob 11 (.extract (.tmp 7) 0),
 ob 12 (.extract (.tmp 7) 1),
 ob 5 (.box0 [(.int .i64 0),(.int .i64 0),(.int .i64 0),(.slice .c0 []),(.slice .c0 []),(.int .i64 0)]),
 ox (.store 6 (.tmp 5) (.tmp 11)),
 ob 6 (.mv (.tmp 12))] false [1,2,4,5]) q116_3)
def E116:=And.intro (exK_head q116_0.eq_1) (And.intro (exK_head q116_1.eq_1) (And.intro (exK_head q116_2.eq_1) (And.intro (exK_head q116_3.eq_1) (exK_head q116_4.eq_1))))
def ann116:Ann:={ n:=26,own:=[],lv:=[(0,[1,2,4]),(1,[1,2,4,5]),(2,[1,2,4,5,15]),(3,[4]),(4,[2,4,5]),(5,[4])],lp:=[] }
def fn116:AFn:=AFn.mk 2 [.cellA 4 3]
 (.seq (.region [
 ob 2 (.box (.tmp 0)),
 ob 4 (.box0 [(.slice .c0 []),(.int .i64 0),(.int .i64 0)])] false [1,2,4]) q116_4)
theorem ok116:compFn Tryz.prog ann116 Tryz.f116=some fn116:=by kernel_rfl
def q117_0:ACode :=
 (.region [
 ob 32 (.mv (.tmp 9)),
 ob 33 (.faddr 4 (.tmp 7)),
 ob 34 (.load1 (.tmp 33)),
 ob 35 (.mv (.tmp 10)),
 ob 36 (.iaddr 3 (.tmp 34) (.tmp 35)),
 ob 37 (.loadA 3 (.tmp 36)),
 ob 38 (.lits 3 [(.tmp 37)]),
 ob 39 (.append 3 32 (.tmp 32) (.tmp 38)),
 ob 9 (.mv (.tmp 39))] false [2,3,6,7,9,10])
def q117_1:ACode :=
 (.region [
 ob 22 (.mv (.tmp 10)),
 ob 23 (.bin .add (.tmp 22) (.cst (.int .i64 1))),
 ob 10 (.mv (.tmp 23))] false [2,3,6,7,9,10])
def q117_2:ACode :=
 (.seq (.block 1 (.seq (.region [
 ob 24 (.faddr 4 (.tmp 7)),
 ob 25 (.load1 (.tmp 24)),
 ob 26 (.mv (.tmp 10)),
 ob 27 (.iaddr 3 (.tmp 25) (.tmp 26)),
 ob 28 (.faddr 0 (.tmp 27)),
 ob 29 (.load1 (.tmp 28)),
 ob 30 (.mv (.tmp 2)),
 ob 31 (.bin .neq (.tmp 29) (.tmp 30))] false [2,3,6,7,9,10,31]) (.cond (.tmp 31) q117_0 (.skip)))) q117_1)
def lb117_0:ACode :=
 (.seq (.seq (.region [
 ob 17 (.mv (.tmp 10)),
 ob 18 (.faddr 4 (.tmp 7)),
 ob 19 (.load1 (.tmp 18)),
 ob 20 (.lenV (.tmp 19)),
 ob 21 (.bin .lss (.tmp 17) (.tmp 20))] false [2,3,6,7,9,10,21]) (.cond (.tmp 21) (.skip) (.exit 0))) q117_2)
def q117_3:ACode :=
 (.block 0 (.loop [2,3,6,7,9,10] lb117_0))
def q117_4:ACode :=
 (.seq (.region [
 ob 42 (.loadA 3 (.tmp 3)),
 ob 43 (.loadA 6 (.tmp 7)),
 ob 44 (.call 113 [(.tmp 42),(.tmp 43)]),
 ox (.store 3 (.tmp 6) (.tmp 44))] false [6]) (.ret))
def q117_5:ACode :=
 (.seq (.region [
 ob 40 (.mv (.tmp 9)),
 ob 41 (.faddr 4 (.tmp 7)),
 ox (.store 1 (.tmp 41) (.tmp 40))] false [3,6,7]) q117_4)
def q117_6:ACode :=
 (.seq (.seq (.region [
 ob 10 (.mv (.cst (.int .i64 0)))] false [2,3,6,7,9,10]) q117_3) q117_5)
def q117_7:ACode :=
 (.seq (.region [
 ob 9 (.own 3 (.cst (.slice .c0 [])))] false [2,3,6,7,9]) q117_6)
def q117_8:ACode :=
 (.seq (.region [
 ob 12 (.loadA 3 (.tmp 3)),
 ob 13 (.mv (.tmp 1)),
 ob 14 (.call 114 [(.tmp 12),(.tmp 13)]),
 ob 11 (.mv (.tmp 14)),
 ob 15 (.extract (.tmp 11) 0),
 ob 16 (.extract (.tmp 11) 1),
 ob 7 (.box0 [(.int .i64 0),(.int .i64 0),(.int .i64 0),(.slice .c0 []),(.slice .c0 []),(.int .i64 0)]),
 ox (.store 6 (.tmp 7) (.tmp 15)),
 ob 8 (.mv (.tmp 16))] false [2,3,6,7]) q117_7)
def E117:=And.intro (exK_head q117_0.eq_1) (And.intro (exK_head q117_1.eq_1) (And.intro (exK_head q117_2.eq_1) (And.intro (exK_head lb117_0.eq_1) (And.intro (exK_head q117_3.eq_1) (And.intro (exK_head q117_4.eq_1) (And.intro (exK_head q117_5.eq_1) (And.intro (exK_head q117_6.eq_1) (And.intro (exK_head q117_7.eq_1) (exK_head q117_8.eq_1)))))))))
def ann117:Ann:={ n:=45,own:=[9],lv:=[(0,[1,2,3,6]),(1,[2,3,6,7]),(2,[2,3,6,7,9]),(3,[2,3,6,7,9,10]),(4,[2,3,6,7,9,10,21]),(5,[2,3,6,7,9,10]),(6,[2,3,6,7,9,10,31]),(7,[2,3,6,7,9,10]),(8,[3,6,7]),(9,[6])],lp:=[(4,[2,3,6,7,9,10])] }
def fn117:AFn:=AFn.mk 3 [.cellA 6 3]
 (.seq (.region [
 ob 3 (.box (.tmp 0)),
 ob 6 (.box0 [(.slice .c0 []),(.int .i64 0),(.int .i64 0)])] false [1,2,3,6]) q117_8)
theorem ok117:compFn Tryz.prog ann117 Tryz.f117=some fn117:=by kernel_rfl
def q118_0:ACode :=
 (.seq (.region [
 ob 16 (.build [(.int .i64 0),(.int .i64 0),(.int .i64 0),(.slice .c0 []),(.slice .c0 []),(.int .i64 0)] []),
 ox (.store 6 (.tmp 4) (.tmp 16)),
 ob 5 (.mv (.cst (.int .i64 70)))] false [4,5]) (.ret))
def q118_1:ACode :=
 (.seq (.region [
 ob 20 (.build [(.int .i64 0),(.int .i64 0),(.int .i64 0),(.slice .c0 []),(.slice .c0 []),(.int .i64 0)] []),
 ox (.store 6 (.tmp 4) (.tmp 20)),
 ob 5 (.mv (.cst (.int .i64 73)))] false [4,5]) (.ret))
def q118_2:ACode :=
 (.seq (.region [
 ob 21 (.loadA 6 (.tmp 6)),
 ox (.store 6 (.tmp 4) (.tmp 21)),
 ob 5 (.mv (.cst (.int .i64 0)))] false [4,5]) (.ret))
def q118_3:ACode :=
 (.seq (.seq (.region [
 ob 17 (.faddr 1 (.tmp 6)),
 ob 18 (.load1 (.tmp 17)),
 ob 19 (.bin .neq (.tmp 18) (.cst (.int .i64 2)))] false [4,6,19]) (.cond (.tmp 19) q118_1 (.skip))) q118_2)
def q118_4:ACode :=
 (.seq (.seq (.region [
 ob 14 (.mv (.tmp 7)),
 ob 15 (.not (.tmp 14))] false [4,6,15]) (.cond (.tmp 15) q118_0 (.skip))) q118_3)
def q118_5:ACode :=
 (.seq (.region [
 ob 9 (.loadA 3 (.tmp 2)),
 ob 10 (.mv (.tmp 1)),
 ob 11 (.call 114 [(.tmp 9),(.tmp 10)]),
 ob 8 (.mv (.tmp 11)),
 ob 12 (.extract (.tmp 8) 0),
 ob 13 (.extract (.tmp 8) 1),
 ob 6 (.box0 [(.int .i64 0),(.int .i64 0),(.int .i64 0),(.slice .c0 []),(.slice .c0 []),(.int .i64 0)]),
 ox (.store 6 (.tmp 6) (.tmp 12)),
 ob 7 (.mv (.tmp 13))] false [4,6,7]) q118_4)
def E118:=And.intro (exK_head q118_0.eq_1) (And.intro (exK_head q118_1.eq_1) (And.intro (exK_head q118_2.eq_1) (And.intro (exK_head q118_3.eq_1) (And.intro (exK_head q118_4.eq_1) (exK_head q118_5.eq_1)))))
def ann118:Ann:={ n:=22,own:=[],lv:=[(0,[1,2,4]),(1,[4,6,7]),(2,[4,6,15]),(3,[4,5]),(4,[4,6,19]),(5,[4,5]),(6,[4,5])],lp:=[] }
def fn118:AFn:=AFn.mk 2 [.cellA 4 6,.tmp 5]
 (.seq (.region [
 ob 2 (.box (.tmp 0)),
 ob 4 (.box0 [(.int .i64 0),(.int .i64 0),(.int .i64 0),(.slice .c0 []),(.slice .c0 []),(.int .i64 0)]),
 ob 5 (.mv (.cst (.int .i64 0)))] false [1,2,4]) q118_5)
theorem ok118:compFn Tryz.prog ann118 Tryz.f118=some fn118:=by kernel_rfl
def q119_0:ACode :=
 (.seq (.region [
 ob 2 (.mv (.cst (.bool false)))] false [2]) (.ret))
def q119_1:ACode :=
 (.seq (.region [
 ob 2 (.mv (.cst (.bool false)))] false [2]) (.ret))
def q119_2:ACode :=
 (.region [
 ob 24 (.mv (.tmp 3)),
 ob 25 (.bin .add (.tmp 24) (.cst (.int .i64 1))),
 ob 3 (.mv (.tmp 25))] false [0,3])
def q119_3:ACode :=
 (.seq (.block 1 (.seq (.region [
 ob 26 (.mv (.tmp 0)),
 ob 27 (.mv (.tmp 3)),
 ob 28 (.indexS (.tmp 26) (.tmp 27)),
 ob 29 (.bin .lss (.tmp 28) (.cst (.int .u8 32))),
 ob 30 (.mv (.tmp 29)),
 og 31 30 false (.mv (.tmp 0)),
 og 32 30 false (.mv (.tmp 3)),
 og 33 30 false (.indexS (.tmp 31) (.tmp 32)),
 og 34 30 false (.bin .eql (.tmp 33) (.cst (.int .u8 47))),
 ob 35 (.pick (.tmp 30) (.cst (.bool true)) (.tmp 34))] false [0,3,35]) (.cond (.tmp 35) q119_1 (.skip)))) q119_2)
def lb119_0:ACode :=
 (.seq (.seq (.region [
 ob 20 (.mv (.tmp 3)),
 ob 21 (.mv (.tmp 0)),
 ob 22 (.lenS (.tmp 21)),
 ob 23 (.bin .lss (.tmp 20) (.tmp 22))] false [0,3,23]) (.cond (.tmp 23) (.skip) (.exit 0))) q119_3)
def q119_4:ACode :=
 (.seq (.region [
 ob 2 (.mv (.cst (.bool true)))] false [2]) (.ret))
def q119_5:ACode :=
 (.seq (.seq (.region [
 ob 3 (.mv (.cst (.int .i64 0)))] false [0,3]) (.block 0 (.loop [0,3] lb119_0))) q119_4)
def q119_6:ACode :=
 (.seq (.seq (.region [
 ob 4 (.mv (.tmp 0)),
 ob 5 (.lenS (.tmp 4)),
 ob 6 (.bin .lss (.tmp 5) (.cst (.int .i64 1))),
 ob 7 (.mv (.tmp 6)),
 og 8 7 false (.mv (.tmp 0)),
 og 9 7 false (.lenS (.tmp 8)),
 og 10 7 false (.bin .gtr (.tmp 9) (.cst (.int .i64 32))),
 ob 11 (.pick (.tmp 7) (.cst (.bool true)) (.tmp 10)),
 ob 12 (.mv (.tmp 11)),
 og 13 12 false (.mv (.tmp 0)),
 og 14 12 false (.bin .eql (.tmp 13) (.cst (.str [46]))),
 ob 15 (.pick (.tmp 12) (.cst (.bool true)) (.tmp 14)),
 ob 16 (.mv (.tmp 15)),
 og 17 16 false (.mv (.tmp 0)),
 og 18 16 false (.bin .eql (.tmp 17) (.cst (.str [46,46]))),
 ob 19 (.pick (.tmp 16) (.cst (.bool true)) (.tmp 18))] false [0,19]) (.cond (.tmp 19) q119_0 (.skip))) q119_5)
def E119:=And.intro (exK_head q119_0.eq_1) (And.intro (exK_head q119_1.eq_1) (And.intro (exK_head q119_2.eq_1) (And.intro (exK_head q119_3.eq_1) (And.intro (exK_head lb119_0.eq_1) (And.intro (exK_head q119_4.eq_1) (And.intro (exK_head q119_5.eq_1) (exK_head q119_6.eq_1)))))))
def ann119:Ann:={ n:=36,own:=[],lv:=[(0,[0]),(1,[0,19]),(2,[2]),(3,[0,3]),(4,[0,3,23]),(5,[0,3]),(6,[0,3,35]),(7,[2]),(8,[2])],lp:=[(4,[0,3])] }
def fn119:AFn:=AFn.mk 1 [.tmp 2]
 (.seq (.region [
 ob 2 (.mv (.cst (.bool false)))] false [0]) q119_6)
theorem ok119:compFn Tryz.prog ann119 Tryz.f119=some fn119:=by kernel_rfl
def q120_0:ACode :=
 (.seq (.region [
 ob 21 (.mv (.tmp 5)),
 ob 4 (.mv (.tmp 21))] false [4]) (.ret))
def q120_1:ACode :=
 (.region [
 ob 11 (.mv (.tmp 5)),
 ob 12 (.bin .add (.tmp 11) (.cst (.int .i64 1))),
 ob 5 (.mv (.tmp 12))] false [1,2,5])
def q120_2:ACode :=
 (.seq (.block 1 (.seq (.region [
 ob 13 (.faddr 4 (.tmp 2)),
 ob 14 (.load1 (.tmp 13)),
 ob 15 (.mv (.tmp 5)),
 ob 16 (.iaddr 3 (.tmp 14) (.tmp 15)),
 ob 17 (.faddr 0 (.tmp 16)),
 ob 18 (.load1 (.tmp 17)),
 ob 19 (.mv (.tmp 1)),
 ob 20 (.bin .eql (.tmp 18) (.tmp 19))] false [1,2,5,20]) (.cond (.tmp 20) q120_0 (.skip)))) q120_1)
def lb120_0:ACode :=
 (.seq (.seq (.region [
 ob 6 (.mv (.tmp 5)),
 ob 7 (.faddr 4 (.tmp 2)),
 ob 8 (.load1 (.tmp 7)),
 ob 9 (.lenV (.tmp 8)),
 ob 10 (.bin .lss (.tmp 6) (.tmp 9))] false [1,2,5,10]) (.cond (.tmp 10) (.skip) (.exit 0))) q120_2)
def q120_3:ACode :=
 (.seq (.region [
 ob 4 (.mv (.cst (.int .i64 (-1))))] false [4]) (.ret))
def q120_4:ACode :=
 (.seq (.seq (.region [
 ob 5 (.mv (.cst (.int .i64 0)))] false [1,2,5]) (.block 0 (.loop [1,2,5] lb120_0))) q120_3)
def E120:=And.intro (exK_head q120_0.eq_1) (And.intro (exK_head q120_1.eq_1) (And.intro (exK_head q120_2.eq_1) (And.intro (exK_head lb120_0.eq_1) (And.intro (exK_head q120_3.eq_1) (exK_head q120_4.eq_1)))))
def ann120:Ann:={ n:=22,own:=[],lv:=[(0,[1,2]),(1,[1,2,5]),(2,[1,2,5,10]),(3,[1,2,5]),(4,[1,2,5,20]),(5,[4]),(6,[4])],lp:=[(2,[1,2,5])] }
def fn120:AFn:=AFn.mk 2 [.tmp 4]
 (.seq (.region [
 ob 2 (.box (.tmp 0)),
 ob 4 (.mv (.cst (.int .i64 0)))] false [1,2]) q120_4)
theorem ok120:compFn Tryz.prog ann120 Tryz.f120=some fn120:=by kernel_rfl
def q121_0:ACode :=
 (.seq (.region [
 ob 6 (.mv (.cst (.bool true)))] false [6]) (.ret))
def q121_1:ACode :=
 (.seq (.region [
 ob 6 (.mv (.cst (.bool false)))] false [6]) (.ret))
def q121_2:ACode :=
 (.region [
 ob 28 (.faddr 5 (.tmp 8)),
 ob 29 (.load1 (.tmp 28)),
 ob 1 (.mv (.tmp 29))] false [1,2,3,7])
def q121_3:ACode :=
 (.seq (.region [
 ob 23 (.loadA 3 (.tmp 3)),
 ob 24 (.mv (.tmp 1)),
 ob 25 (.call 114 [(.tmp 23),(.tmp 24)]),
 ob 22 (.mv (.tmp 25)),
 ob 26 (.extract (.tmp 22) 0),
 ob 27 (.extract (.tmp 22) 1),
 ob 8 (.box0 [(.int .i64 0),(.int .i64 0),(.int .i64 0),(.slice .c0 []),(.slice .c0 []),(.int .i64 0)]),
 ox (.store 6 (.tmp 8) (.tmp 26)),
 ob 9 (.mv (.tmp 27))] false [2,3,7,8]) q121_2)
def q121_4:ACode :=
 (.seq (.seq (.region [
 ob 20 (.mv (.tmp 1)),
 ob 21 (.bin .eql (.tmp 20) (.cst (.int .i64 1)))] false [1,2,3,7,21]) (.cond (.tmp 21) q121_1 (.skip))) q121_3)
def q121_5:ACode :=
 (.region [
 ob 15 (.mv (.tmp 7)),
 ob 16 (.bin .add (.tmp 15) (.cst (.int .i64 1))),
 ob 7 (.mv (.tmp 16))] false [1,2,3,7])
def q121_6:ACode :=
 (.seq (.block 1 (.seq (.seq (.region [
 ob 17 (.mv (.tmp 1)),
 ob 18 (.mv (.tmp 2)),
 ob 19 (.bin .eql (.tmp 17) (.tmp 18))] false [1,2,3,7,19]) (.cond (.tmp 19) q121_0 (.skip))) q121_4)) q121_5)
def lb121_0:ACode :=
 (.seq (.seq (.region [
 ob 10 (.mv (.tmp 7)),
 ob 11 (.faddr 0 (.tmp 3)),
 ob 12 (.load1 (.tmp 11)),
 ob 13 (.lenV (.tmp 12)),
 ob 14 (.bin .leq (.tmp 10) (.tmp 13))] false [1,2,3,7,14]) (.cond (.tmp 14) (.skip) (.exit 0))) q121_6)
def q121_7:ACode :=
 (.seq (.region [
 ob 6 (.mv (.cst (.bool false)))] false [6]) (.ret))
def q121_8:ACode :=
 (.seq (.seq (.region [
 ob 7 (.mv (.cst (.int .i64 0)))] false [1,2,3,7]) (.block 0 (.loop [1,2,3,7] lb121_0))) q121_7)
def E121:=And.intro (exK_head q121_0.eq_1) (And.intro (exK_head q121_1.eq_1) (And.intro (exK_head q121_2.eq_1) (And.intro (exK_head q121_3.eq_1) (And.intro (exK_head q121_4.eq_1) (And.intro (exK_head q121_5.eq_1) (And.intro (exK_head q121_6.eq_1) (And.intro (exK_head lb121_0.eq_1) (And.intro (exK_head q121_7.eq_1) (exK_head q121_8.eq_1)))))))))
def ann121:Ann:={ n:=30,own:=[],lv:=[(0,[1,2,3]),(1,[1,2,3,7]),(2,[1,2,3,7,14]),(3,[1,2,3,7]),(4,[1,2,3,7,19]),(5,[6]),(6,[1,2,3,7,21]),(7,[6]),(8,[2,3,7,8]),(9,[1,2,3,7]),(10,[6])],lp:=[(2,[1,2,3,7])] }
def fn121:AFn:=AFn.mk 3 [.tmp 6]
 (.seq (.region [
 ob 3 (.box (.tmp 0)),
 ob 6 (.mv (.cst (.bool false)))] false [1,2,3]) q121_8)
theorem ok121:compFn Tryz.prog ann121 Tryz.f121=some fn121:=by kernel_rfl
def q122_0:ACode :=
 (.seq (.region [
 ob 6 (.mv (.cst (.int .i64 0)))] false [6]) (.ret))
def q122_1:ACode :=
 (.seq (.region [
 ob 6 (.mv (.cst (.int .i64 73)))] false [6]) (.ret))
def q122_2:ACode :=
 (.seq (.region [
 ob 6 (.mv (.cst (.int .i64 72)))] false [6]) (.ret))
def q122_3:ACode :=
 (.seq (.region [
 ob 6 (.mv (.cst (.int .i64 74)))] false [6]) (.ret))
def q122_4:ACode :=
 (.seq (.region [
 ob 6 (.mv (.cst (.int .i64 0)))] false [6]) (.ret))
def q122_5:ACode :=
 (.seq (.seq (.region [
 ob 33 (.faddr 4 (.tmp 7)),
 ob 34 (.load1 (.tmp 33)),
 ob 35 (.lenV (.tmp 34)),
 ob 36 (.bin .gtr (.tmp 35) (.cst (.int .i64 0)))] false [36]) (.cond (.tmp 36) q122_3 (.skip))) q122_4)
def q122_6:ACode :=
 (.seq (.seq (.region [
 ob 25 (.faddr 1 (.tmp 4)),
 ob 26 (.load1 (.tmp 25)),
 ob 27 (.bin .neq (.tmp 26) (.cst (.int .i64 2))),
 ob 28 (.mv (.tmp 27)),
 og 29 28 true (.faddr 1 (.tmp 7)),
 og 30 28 true (.load1 (.tmp 29)),
 og 31 28 true (.bin .eql (.tmp 30) (.cst (.int .i64 2))),
 ob 32 (.pick (.tmp 28) (.tmp 31) (.cst (.bool false)))] false [7,32]) (.cond (.tmp 32) q122_2 (.skip))) q122_5)
def q122_7:ACode :=
 (.seq (.seq (.region [
 ob 17 (.faddr 1 (.tmp 4)),
 ob 18 (.load1 (.tmp 17)),
 ob 19 (.bin .eql (.tmp 18) (.cst (.int .i64 2))),
 ob 20 (.mv (.tmp 19)),
 og 21 20 true (.faddr 1 (.tmp 7)),
 og 22 20 true (.load1 (.tmp 21)),
 og 23 20 true (.bin .neq (.tmp 22) (.cst (.int .i64 2))),
 ob 24 (.pick (.tmp 20) (.tmp 23) (.cst (.bool false)))] false [4,7,24]) (.cond (.tmp 24) q122_1 (.skip))) q122_6)
def q122_8:ACode :=
 (.seq (.seq (.region [
 ob 15 (.mv (.tmp 8)),
 ob 16 (.not (.tmp 15))] false [4,7,16]) (.cond (.tmp 16) q122_0 (.skip))) q122_7)
def q122_9:ACode :=
 (.seq (.region [
 ob 10 (.loadA 3 (.tmp 3)),
 ob 11 (.mv (.tmp 2)),
 ob 12 (.call 114 [(.tmp 10),(.tmp 11)]),
 ob 9 (.mv (.tmp 12)),
 ob 13 (.extract (.tmp 9) 0),
 ob 14 (.extract (.tmp 9) 1),
 ob 7 (.box0 [(.int .i64 0),(.int .i64 0),(.int .i64 0),(.slice .c0 []),(.slice .c0 []),(.int .i64 0)]),
 ox (.store 6 (.tmp 7) (.tmp 13)),
 ob 8 (.mv (.tmp 14))] false [4,7,8]) q122_8)
def E122:=And.intro (exK_head q122_0.eq_1) (And.intro (exK_head q122_1.eq_1) (And.intro (exK_head q122_2.eq_1) (And.intro (exK_head q122_3.eq_1) (And.intro (exK_head q122_4.eq_1) (And.intro (exK_head q122_5.eq_1) (And.intro (exK_head q122_6.eq_1) (And.intro (exK_head q122_7.eq_1) (And.intro (exK_head q122_8.eq_1) (exK_head q122_9.eq_1)))))))))
def ann122:Ann:={ n:=37,own:=[],lv:=[(0,[2,3,4]),(1,[4,7,8]),(2,[4,7,16]),(3,[6]),(4,[4,7,24]),(5,[6]),(6,[7,32]),(7,[6]),(8,[36]),(9,[6]),(10,[6])],lp:=[] }
def fn122:AFn:=AFn.mk 3 [.tmp 6]
 (.seq (.region [
 ob 3 (.box (.tmp 0)),
 ob 4 (.box (.tmp 1)),
 ob 6 (.mv (.cst (.int .i64 0)))] false [2,3,4]) q122_9)
theorem ok122:compFn Tryz.prog ann122 Tryz.f122=some fn122:=by kernel_rfl
def q123_0:ACode :=
 (.region [
 ob 22 (.mv (.tmp 5)),
 ob 23 (.bin .add (.tmp 22) (.cst (.int .i64 1))),
 ob 5 (.mv (.tmp 23))] false [1,2,5])
def q123_1:ACode :=
 (.seq (.region [
 ob 20 (.faddr 5 (.tmp 6)),
 ob 21 (.load1 (.tmp 20)),
 ob 1 (.mv (.tmp 21))] false [1,2,5]) q123_0)
def q123_2:ACode :=
 (.block 1 (.seq (.region [
 ob 15 (.loadA 3 (.tmp 2)),
 ob 16 (.mv (.tmp 1)),
 ob 17 (.call 114 [(.tmp 15),(.tmp 16)]),
 ob 14 (.mv (.tmp 17)),
 ob 18 (.extract (.tmp 14) 0),
 ob 19 (.extract (.tmp 14) 1),
 ob 6 (.box0 [(.int .i64 0),(.int .i64 0),(.int .i64 0),(.slice .c0 []),(.slice .c0 []),(.int .i64 0)]),
 ox (.store 6 (.tmp 6) (.tmp 18)),
 ob 7 (.mv (.tmp 19))] false [2,5,6]) q123_1))
def lb123_0:ACode :=
 (.seq (.seq (.region [
 ob 8 (.mv (.tmp 1)),
 ob 9 (.bin .neq (.tmp 8) (.cst (.int .i64 1))),
 ob 10 (.mv (.tmp 9)),
 og 11 10 true (.mv (.tmp 5)),
 og 12 10 true (.bin .leq (.tmp 11) (.cst (.int .i64 200))),
 ob 13 (.pick (.tmp 10) (.tmp 12) (.cst (.bool false)))] false [1,2,5,13]) (.cond (.tmp 13) (.skip) (.exit 0))) q123_2)
def q123_3:ACode :=
 (.seq (.region [
 ob 24 (.mv (.tmp 5)),
 ob 4 (.mv (.tmp 24))] false [4]) (.ret))
def q123_4:ACode :=
 (.seq (.block 0 (.loop [1,2,5] lb123_0)) q123_3)
def q123_5:ACode :=
 (.seq (.region [
 ob 5 (.mv (.cst (.int .i64 0)))] false [1,2,5]) q123_4)
def E123:=And.intro (exK_head q123_0.eq_1) (And.intro (exK_head q123_1.eq_1) (And.intro (exK_head q123_2.eq_1) (And.intro (exK_head lb123_0.eq_1) (And.intro (exK_head q123_3.eq_1) (And.intro (exK_head q123_4.eq_1) (exK_head q123_5.eq_1))))))
def ann123:Ann:={ n:=25,own:=[],lv:=[(0,[1,2]),(1,[1,2,5]),(2,[1,2,5,13]),(3,[2,5,6]),(4,[1,2,5]),(5,[1,2,5]),(6,[4])],lp:=[(2,[1,2,5])] }
def fn123:AFn:=AFn.mk 2 [.tmp 4]
 (.seq (.region [
 ob 2 (.box (.tmp 0)),
 ob 4 (.mv (.cst (.int .i64 0)))] false [1,2]) q123_5)
theorem ok123:compFn Tryz.prog ann123 Tryz.f123=some fn123:=by kernel_rfl
def q124_0:ACode :=
 (.region [
 ob 49 (.mv (.tmp 11)),
 ob 50 (.bin .add (.tmp 49) (.cst (.int .i64 1))),
 ob 11 (.mv (.tmp 50))] false [1,2,3,7,8,9,11])
def q124_1:ACode :=
 (.region [
 ob 51 (.mv (.tmp 7)),
 ob 52 (.mv (.tmp 11)),
 ob 53 (.minmax true (.tmp 51) (.tmp 52)),
 ob 7 (.mv (.tmp 53))] false [1,2,3,7,8,9])
def q124_2:ACode :=
 (.seq (.seq (.region [
 ob 45 (.faddr 4 (.tmp 10)),
 ob 46 (.load1 (.tmp 45)),
 ob 47 (.lenV (.tmp 46)),
 ob 48 (.bin .gtr (.tmp 47) (.cst (.int .i64 0)))] false [1,2,3,7,8,9,11,48]) (.cond (.tmp 48) q124_0 (.skip))) q124_1)
def q124_3:ACode :=
 (.seq (.region [
 ob 37 (.mv (.tmp 2)),
 ob 38 (.loadA 3 (.tmp 3)),
 ob 39 (.faddr 0 (.tmp 10)),
 ob 40 (.load1 (.tmp 39)),
 ob 41 (.call 123 [(.tmp 38),(.tmp 40)]),
 ob 42 (.bin .add (.tmp 37) (.tmp 41)),
 ob 43 (.mv (.tmp 8)),
 ob 44 (.bin .sub (.tmp 42) (.tmp 43)),
 ob 11 (.mv (.tmp 44))] false [1,2,3,7,8,9,10,11]) q124_2)
def q124_4:ACode :=
 (.seq (.region [
 ob 27 (.faddr 1 (.tmp 10)),
 ob 28 (.load1 (.tmp 27)),
 ob 29 (.bin .eql (.tmp 28) (.cst (.int .i64 2))),
 ob 30 (.mv (.tmp 29)),
 og 31 30 true (.loadA 3 (.tmp 3)),
 og 32 30 true (.faddr 0 (.tmp 10)),
 og 33 30 true (.load1 (.tmp 32)),
 og 34 30 true (.mv (.tmp 1)),
 og 35 30 true (.call 121 [(.tmp 31),(.tmp 33),(.tmp 34)]),
 ob 36 (.pick (.tmp 30) (.tmp 35) (.cst (.bool false)))] false [1,2,3,7,8,9,10,36]) (.cond (.tmp 36) q124_3 (.skip)))
def q124_5:ACode :=
 (.region [
 ob 20 (.mv (.tmp 9)),
 ob 21 (.bin .add (.tmp 20) (.cst (.int .i64 1))),
 ob 9 (.mv (.tmp 21))] false [1,2,3,7,8,9])
def q124_6:ACode :=
 (.seq (.block 1 (.seq (.region [
 ob 22 (.faddr 0 (.tmp 3)),
 ob 23 (.load1 (.tmp 22)),
 ob 24 (.mv (.tmp 9)),
 ob 25 (.iaddr 6 (.tmp 23) (.tmp 24)),
 ob 26 (.loadA 6 (.tmp 25)),
 ob 10 (.box0 [(.int .i64 0),(.int .i64 0),(.int .i64 0),(.slice .c0 []),(.slice .c0 []),(.int .i64 0)]),
 ox (.store 6 (.tmp 10) (.tmp 26))] false [1,2,3,7,8,9,10]) q124_4)) q124_5)
def lb124_0:ACode :=
 (.seq (.seq (.region [
 ob 15 (.mv (.tmp 9)),
 ob 16 (.faddr 0 (.tmp 3)),
 ob 17 (.load1 (.tmp 16)),
 ob 18 (.lenV (.tmp 17)),
 ob 19 (.bin .lss (.tmp 15) (.tmp 18))] false [1,2,3,7,8,9,19]) (.cond (.tmp 19) (.skip) (.exit 0))) q124_6)
def q124_7:ACode :=
 (.block 0 (.loop [1,2,3,7,8,9] lb124_0))
def q124_8:ACode :=
 (.seq (.region [
 ob 54 (.mv (.tmp 7)),
 ob 6 (.mv (.tmp 54))] false [6]) (.ret))
def q124_9:ACode :=
 (.seq (.seq (.region [
 ob 9 (.mv (.cst (.int .i64 0)))] false [1,2,3,7,8,9]) q124_7) q124_8)
def q124_10:ACode :=
 (.seq (.region [
 ob 12 (.loadA 3 (.tmp 3)),
 ob 13 (.mv (.tmp 1)),
 ob 14 (.call 123 [(.tmp 12),(.tmp 13)]),
 ob 8 (.mv (.tmp 14))] false [1,2,3,7,8]) q124_9)
def q124_11:ACode :=
 (.seq (.region [
 ob 7 (.mv (.cst (.int .i64 0)))] false [1,2,3,7]) q124_10)
def E124:=And.intro (exK_head q124_0.eq_1) (And.intro (exK_head q124_1.eq_1) (And.intro (exK_head q124_2.eq_1) (And.intro (exK_head q124_3.eq_1) (And.intro (exK_head q124_4.eq_1) (And.intro (exK_head q124_5.eq_1) (And.intro (exK_head q124_6.eq_1) (And.intro (exK_head lb124_0.eq_1) (And.intro (exK_head q124_7.eq_1) (And.intro (exK_head q124_8.eq_1) (And.intro (exK_head q124_9.eq_1) (And.intro (exK_head q124_10.eq_1) (exK_head q124_11.eq_1))))))))))))
def ann124:Ann:={ n:=55,own:=[],lv:=[(0,[1,2,3]),(1,[1,2,3,7]),(2,[1,2,3,7,8]),(3,[1,2,3,7,8,9]),(4,[1,2,3,7,8,9,19]),(5,[1,2,3,7,8,9]),(6,[1,2,3,7,8,9,10]),(7,[1,2,3,7,8,9,10,36]),(8,[1,2,3,7,8,9,10,11]),(9,[1,2,3,7,8,9,11,48]),(10,[1,2,3,7,8,9,11]),(11,[1,2,3,7,8,9]),(12,[6])],lp:=[(4,[1,2,3,7,8,9])] }
def fn124:AFn:=AFn.mk 3 [.tmp 6]
 (.seq (.region [
 ob 3 (.box (.tmp 0)),
 ob 6 (.mv (.cst (.int .i64 0)))] false [1,2,3]) q124_11)
theorem ok124:compFn Tryz.prog ann124 Tryz.f124=some fn124:=by kernel_rfl
def q125_0:ACode :=
 (.region [
 ob 22 (.mv (.tmp 5)),
 ob 23 (.faddr 0 (.tmp 2)),
 ob 24 (.load1 (.tmp 23)),
 ob 25 (.mv (.tmp 6)),
 ob 26 (.iaddr 6 (.tmp 24) (.tmp 25)),
 ob 27 (.loadA 6 (.tmp 26)),
 ob 28 (.lits 6 [(.tmp 27)]),
 ob 29 (.append 6 80 (.tmp 22) (.tmp 28)),
 ob 5 (.mv (.tmp 29))] false [1,2,4,5,6])
def q125_1:ACode :=
 (.region [
 ob 12 (.mv (.tmp 6)),
 ob 13 (.bin .add (.tmp 12) (.cst (.int .i64 1))),
 ob 6 (.mv (.tmp 13))] false [1,2,4,5,6])
def q125_2:ACode :=
 (.seq (.block 1 (.seq (.region [
 ob 14 (.faddr 0 (.tmp 2)),
 ob 15 (.load1 (.tmp 14)),
 ob 16 (.mv (.tmp 6)),
 ob 17 (.iaddr 6 (.tmp 15) (.tmp 16)),
 ob 18 (.faddr 0 (.tmp 17)),
 ob 19 (.load1 (.tmp 18)),
 ob 20 (.mv (.tmp 1)),
 ob 21 (.bin .neq (.tmp 19) (.tmp 20))] false [1,2,4,5,6,21]) (.cond (.tmp 21) q125_0 (.skip)))) q125_1)
def lb125_0:ACode :=
 (.seq (.seq (.region [
 ob 7 (.mv (.tmp 6)),
 ob 8 (.faddr 0 (.tmp 2)),
 ob 9 (.load1 (.tmp 8)),
 ob 10 (.lenV (.tmp 9)),
 ob 11 (.bin .lss (.tmp 7) (.tmp 10))] false [1,2,4,5,6,11]) (.cond (.tmp 11) (.skip) (.exit 0))) q125_2)
def q125_3:ACode :=
 (.block 0 (.loop [1,2,4,5,6] lb125_0))
def q125_4:ACode :=
 (.seq (.region [
 ob 32 (.loadA 3 (.tmp 2)),
 ox (.store 3 (.tmp 4) (.tmp 32))] false [4]) (.ret))
def q125_5:ACode :=
 (.seq (.region [
 ob 30 (.mv (.tmp 5)),
 ob 31 (.faddr 0 (.tmp 2)),
 ox (.store 1 (.tmp 31) (.tmp 30))] false [2,4]) q125_4)
def q125_6:ACode :=
 (.seq (.seq (.region [
 ob 6 (.mv (.cst (.int .i64 0)))] false [1,2,4,5,6]) q125_3) q125_5)
def q125_7:ACode :=
 (.seq (.region [
 ob 5 (.own 6 (.cst (.slice .c0 [])))] false [1,2,4,5]) q125_6)
def E125:=And.intro (exK_head q125_0.eq_1) (And.intro (exK_head q125_1.eq_1) (And.intro (exK_head q125_2.eq_1) (And.intro (exK_head lb125_0.eq_1) (And.intro (exK_head q125_3.eq_1) (And.intro (exK_head q125_4.eq_1) (And.intro (exK_head q125_5.eq_1) (And.intro (exK_head q125_6.eq_1) (exK_head q125_7.eq_1))))))))
def ann125:Ann:={ n:=33,own:=[5],lv:=[(0,[1,2,4]),(1,[1,2,4,5]),(2,[1,2,4,5,6]),(3,[1,2,4,5,6,11]),(4,[1,2,4,5,6]),(5,[1,2,4,5,6,21]),(6,[1,2,4,5,6]),(7,[2,4]),(8,[4])],lp:=[(3,[1,2,4,5,6])] }
def fn125:AFn:=AFn.mk 2 [.cellA 4 3]
 (.seq (.region [
 ob 2 (.box (.tmp 0)),
 ob 4 (.box0 [(.slice .c0 []),(.int .i64 0),(.int .i64 0)])] false [1,2,4]) q125_7)
theorem ok125:compFn Tryz.prog ann125 Tryz.f125=some fn125:=by kernel_rfl
def q155_0:ACode :=
 (.seq (.region [
 ob 5 (.faddr 4 (.tmp 3)),
 ob 6 (.load1 (.tmp 5)),
 ob 7 (.lenV (.tmp 6)),
 ob 8 (.bin .geq (.tmp 7) (.cst (.int .i64 64))),
 ob 9 (.mv (.tmp 8)),
 og 10 9 false (.loadA 3 (.tmp 2)),
 og 11 9 false (.faddr 0 (.tmp 3)),
 og 12 9 false (.load1 (.tmp 11)),
 og 13 9 false (.call 123 [(.tmp 10),(.tmp 12)]),
 og 14 9 false (.bin .geq (.tmp 13) (.cst (.int .i64 12))),
 ob 15 (.pick (.tmp 9) (.cst (.bool true)) (.tmp 14)),
 ob 16 (.mv (.tmp 15)),
 og 17 16 false (.faddr 2 (.tmp 2)),
 og 18 16 false (.load1 (.tmp 17)),
 og 19 16 false (.bin .geq (.tmp 18) (.cst (.int .i64 1099511627776))),
 ob 20 (.pick (.tmp 16) (.cst (.bool true)) (.tmp 19)),
 ob 4 (.mv (.tmp 20))] false [4]) (.ret))
def E155:=exK_head q155_0.eq_1
def ann155:Ann:={ n:=21,own:=[],lv:=[(0,[2,3]),(1,[4])],lp:=[] }
def fn155:AFn:=AFn.mk 2 [.tmp 4]
 (.seq (.region [
 ob 2 (.box (.tmp 0)),
 ob 3 (.box (.tmp 1)),
 ob 4 (.mv (.cst (.bool false)))] false [2,3]) q155_0)
theorem ok155:compFn Tryz.prog ann155 Tryz.f155=some fn155:=by kernel_rfl
def q156_0:ACode :=
 (.seq (.region [
 ob 21 (.mv (.tmp 5)),
 ob 4 (.mv (.tmp 21))] false [4]) (.ret))
def q156_1:ACode :=
 (.region [
 ob 11 (.mv (.tmp 5)),
 ob 12 (.bin .add (.tmp 11) (.cst (.int .i64 1))),
 ob 5 (.mv (.tmp 12))] false [1,2,5])
def q156_2:ACode :=
 (.seq (.block 1 (.seq (.region [
 ob 13 (.faddr 0 (.tmp 2)),
 ob 14 (.load1 (.tmp 13)),
 ob 15 (.mv (.tmp 5)),
 ob 16 (.iaddr 6 (.tmp 14) (.tmp 15)),
 ob 17 (.faddr 0 (.tmp 16)),
 ob 18 (.load1 (.tmp 17)),
 ob 19 (.mv (.tmp 1)),
 ob 20 (.bin .eql (.tmp 18) (.tmp 19))] false [1,2,5,20]) (.cond (.tmp 20) q156_0 (.skip)))) q156_1)
def lb156_0:ACode :=
 (.seq (.seq (.region [
 ob 6 (.mv (.tmp 5)),
 ob 7 (.faddr 0 (.tmp 2)),
 ob 8 (.load1 (.tmp 7)),
 ob 9 (.lenV (.tmp 8)),
 ob 10 (.bin .lss (.tmp 6) (.tmp 9))] false [1,2,5,10]) (.cond (.tmp 10) (.skip) (.exit 0))) q156_2)
def q156_3:ACode :=
 (.seq (.region [
 ob 4 (.mv (.cst (.int .i64 (-1))))] false [4]) (.ret))
def q156_4:ACode :=
 (.seq (.seq (.region [
 ob 5 (.mv (.cst (.int .i64 0)))] false [1,2,5]) (.block 0 (.loop [1,2,5] lb156_0))) q156_3)
def E156:=And.intro (exK_head q156_0.eq_1) (And.intro (exK_head q156_1.eq_1) (And.intro (exK_head q156_2.eq_1) (And.intro (exK_head lb156_0.eq_1) (And.intro (exK_head q156_3.eq_1) (exK_head q156_4.eq_1)))))
def ann156:Ann:={ n:=22,own:=[],lv:=[(0,[1,2]),(1,[1,2,5]),(2,[1,2,5,10]),(3,[1,2,5]),(4,[1,2,5,20]),(5,[4]),(6,[4])],lp:=[(2,[1,2,5])] }
def fn156:AFn:=AFn.mk 2 [.tmp 4]
 (.seq (.region [
 ob 2 (.box (.tmp 0)),
 ob 4 (.mv (.cst (.int .i64 0)))] false [1,2]) q156_4)
theorem ok156:compFn Tryz.prog ann156 Tryz.f156=some fn156:=by kernel_rfl
end Go.Proofs.YtannopdcbocngaaGreatDoor
namespace Go.Proofs.YtannopdcbocngaaGreatDoor
open Go Go.Abs
noncomputable def tabX (c:Nat→Option AFn):Tab:=⟨fun f=>match c f with
 |some fn=>some fn
 |none=>code f,primS⟩
structure ExtOk (c:Nat→Option AFn):Prop where
 ok:∀f fn,c f=some fn→∃A func,Tryz.prog.funcs[f]?=some func∧compFn Tryz.prog A func=some fn
 new:∀f fn,c f=some fn→code f=none∧primS f=none
theorem tabX_ok {c:Nat→Option AFn} (h:ExtOk c):TabOk Tryz.prog (tabX c):=by
 refine ⟨fun f fn hf=>?_,tabS_ok.2⟩
 simp only [tabX] at hf
 split at hf
 ·rename_i fn' hc
  injection hf with hf; subst hf
  exact h.ok f _ hc
 ·exact code_ok f fn hf
theorem tabX_leN {c:Nat→Option AFn} (hc:ExtOk c):∀n,CallLe (acallN tabS n) (acallN (tabX c) n)
 |0,f,a,M,x,h=>by
  rw [acallN] at h ⊢
  exact h
 |n+1,f,a,M,x,h=>by
  have hp:(tabX c).prim f=tabS.prim f:=rfl
  rw [acallN] at h ⊢
  rw [hp]
  split at h
  ·rename_i g hg; exact h
  ·rename_i hg
   cases hcf:c f with
   |some fn =>
    obtain ⟨h1,_⟩:=hc.new f fn hcf
    have h2:tabS.code f=none:=h1
    rw [h2] at h
    cases h
   |none =>
    have hcc:(tabX c).code f=tabS.code f:=by simp only [tabX,hcf,tabS]
    rw [hcc]
    split at h
    ·cases h
    ·rename_i fn hfn
     split at h
     ·rename_i hl
      simp only [if_pos hl]
      obtain ⟨o,ho,h⟩:=obind_inv h
      rw [aexec_mono (tabX_leN hc n) _ ho,obind_some]
      exact h
     ·cases h
theorem tabX_leS {c:Nat→Option AFn} (hc:ExtOk c) {f:Nat} {a:List AVal} {M:AMem} {x:AVal×AMem} (h:acall tabS f a M=some x):acall (tabX c) f a M=some x:=by
 obtain ⟨n,hn⟩:=lim_ex h
 exact lim_some (fun n x h=>acallN_up (tabX c) n f a M x h) (tabX_leN hc n f a M x hn)
theorem kX {c:Nat→Option AFn} (hc:ExtOk c) {f:Nat} {vs:List AVal} {M:AMem} {x:AVal×AMem} (h:callOp (acall tab) f vs M=some x):callOp (acall (tabX c)) f vs M=some x:=by
 obtain ⟨a,B,y,h1,h2⟩:=callOp_inv h
 exact h2 _ (tabX_leS hc (tab_leS h1))
theorem kXS {c:Nat→Option AFn} (hc:ExtOk c) {f:Nat} {vs:List AVal} {M:AMem} {x:AVal×AMem} (h:callOp (acall tabS) f vs M=some x):callOp (acall (tabX c)) f vs M=some x:=by
 obtain ⟨a,B,y,h1,h2⟩:=callOp_inv h
 exact h2 _ (tabX_leS hc h1)
def cT:Nat→Option AFn
 |11=>some fn11
 |14=>some fn14
 |40=>some fn40
 |41=>some fn41
 |79=>some fn79
 |80=>some fn80
 |81=>some fn81
 |82=>some fn82
 |83=>some fn83
 |84=>some fn84
 |85=>some fn85
 |86=>some fn86
 |111=>some fn111
 |112=>some fn112
 |113=>some fn113
 |114=>some fn114
 |115=>some fn115
 |116=>some fn116
 |117=>some fn117
 |118=>some fn118
 |119=>some fn119
 |120=>some fn120
 |121=>some fn121
 |122=>some fn122
 |123=>some fn123
 |124=>some fn124
 |125=>some fn125
 |155=>some fn155
 |156=>some fn156
 |_=>none
theorem xT:ExtOk cT:=by
 refine ⟨fun f fn h=>?_,fun f fn h=>?_⟩
 ·unfold cT at h
  split at h
  ·injection h with h; subst h; exact ⟨_,_,Tryz.func11,ok11⟩
  ·injection h with h; subst h; exact ⟨_,_,Tryz.func14,ok14⟩
  ·injection h with h; subst h; exact ⟨_,_,Tryz.func40,ok40⟩
  ·injection h with h; subst h; exact ⟨_,_,Tryz.func41,ok41⟩
  ·injection h with h; subst h; exact ⟨_,_,Tryz.func79,ok79⟩
  ·injection h with h; subst h; exact ⟨_,_,Tryz.func80,ok80⟩
  ·injection h with h; subst h; exact ⟨_,_,Tryz.func81,ok81⟩
  ·injection h with h; subst h; exact ⟨_,_,Tryz.func82,ok82⟩
  ·injection h with h; subst h; exact ⟨_,_,Tryz.func83,ok83⟩
  ·injection h with h; subst h; exact ⟨_,_,Tryz.func84,ok84⟩
  ·injection h with h; subst h; exact ⟨_,_,Tryz.func85,ok85⟩
  ·injection h with h; subst h; exact ⟨_,_,Tryz.func86,ok86⟩
  ·injection h with h; subst h; exact ⟨_,_,Tryz.func111,ok111⟩
  ·injection h with h; subst h; exact ⟨_,_,Tryz.func112,ok112⟩
  ·injection h with h; subst h; exact ⟨_,_,Tryz.func113,ok113⟩
  ·injection h with h; subst h; exact ⟨_,_,Tryz.func114,ok114⟩
  ·injection h with h; subst h; exact ⟨_,_,Tryz.func115,ok115⟩
  ·injection h with h; subst h; exact ⟨_,_,Tryz.func116,ok116⟩
  ·injection h with h; subst h; exact ⟨_,_,Tryz.func117,ok117⟩
  ·injection h with h; subst h; exact ⟨_,_,Tryz.func118,ok118⟩
  ·injection h with h; subst h; exact ⟨_,_,Tryz.func119,ok119⟩
  ·injection h with h; subst h; exact ⟨_,_,Tryz.func120,ok120⟩
  ·injection h with h; subst h; exact ⟨_,_,Tryz.func121,ok121⟩
  ·injection h with h; subst h; exact ⟨_,_,Tryz.func122,ok122⟩
  ·injection h with h; subst h; exact ⟨_,_,Tryz.func123,ok123⟩
  ·injection h with h; subst h; exact ⟨_,_,Tryz.func124,ok124⟩
  ·injection h with h; subst h; exact ⟨_,_,Tryz.func125,ok125⟩
  ·injection h with h; subst h; exact ⟨_,_,Tryz.func155,ok155⟩
  ·injection h with h; subst h; exact ⟨_,_,Tryz.func156,ok156⟩
  ·cases h
 ·unfold cT at h
  split at h
  ·exact ⟨rfl,rfl⟩
  ·exact ⟨rfl,rfl⟩
  ·exact ⟨rfl,rfl⟩
  ·exact ⟨rfl,rfl⟩
  ·exact ⟨rfl,rfl⟩
  ·exact ⟨rfl,rfl⟩
  ·exact ⟨rfl,rfl⟩
  ·exact ⟨rfl,rfl⟩
  ·exact ⟨rfl,rfl⟩
  ·exact ⟨rfl,rfl⟩
  ·exact ⟨rfl,rfl⟩
  ·exact ⟨rfl,rfl⟩
  ·exact ⟨rfl,rfl⟩
  ·exact ⟨rfl,rfl⟩
  ·exact ⟨rfl,rfl⟩
  ·exact ⟨rfl,rfl⟩
  ·exact ⟨rfl,rfl⟩
  ·exact ⟨rfl,rfl⟩
  ·exact ⟨rfl,rfl⟩
  ·exact ⟨rfl,rfl⟩
  ·exact ⟨rfl,rfl⟩
  ·exact ⟨rfl,rfl⟩
  ·exact ⟨rfl,rfl⟩
  ·exact ⟨rfl,rfl⟩
  ·exact ⟨rfl,rfl⟩
  ·exact ⟨rfl,rfl⟩
  ·exact ⟨rfl,rfl⟩
  ·exact ⟨rfl,rfl⟩
  ·exact ⟨rfl,rfl⟩
  ·cases h
noncomputable abbrev tabT:Tab:=tabX cT
theorem kT {f:Nat} {vs:List AVal} {M:AMem} {x:AVal×AMem} (h:callOp (acall tabS) f vs M=some x):callOp (acall tabT) f vs M=some x:=kXS xT h
theorem kT0 {f:Nat} {vs:List AVal} {M:AMem} {x:AVal×AMem} (h:callOp (acall tab) f vs M=some x):callOp (acall tabT) f vs M=some x:=kX xT h
end Go.Proofs.YtannopdcbocngaaGreatDoor
namespace Go.Proofs.YtannopdcbocngaaGreatDoor
open Go Go.Abs
structure Ent where
 name:Bytes
 ino:Int
 cookie:Int
 deriving DecidableEq,Inhabited
structure Node where
 ino:Int
 kind:Int
 links:Int
 data:Bytes
 ents:List Ent
 up:Int
 deriving DecidableEq,Inhabited
structure Tree where
 nodes:List Node
 next:Int
 cookie:Int
 deriving DecidableEq,Inhabited
def Node.zero:Node:=⟨0,0,0,[],[],0⟩
def eEntC (e:Ent):List AVal:=[.str e.name,.int .i64 e.ino,.int .i64 e.cookie]
def eEnt (e:Ent):AVal := .agg (eEntC e)
abbrev eEnts (l:List Ent):AVal := .slice .sh (l.map eEnt)
abbrev eData (d:Bytes):AVal := .slice .sh (d.map u8V)
def eNodeC (n:Node):List AVal:=[.int .i64 n.ino,.int .i64 n.kind,.int .i64 n.links,eData n.data,eEnts n.ents,.int .i64 n.up]
def eNode (n:Node):AVal := .agg (eNodeC n)
abbrev eNodes (l:List Node):AVal := .slice .sh (l.map eNode)
def eTreeC (t:Tree):List AVal:=[eNodes t.nodes,.int .i64 t.next,.int .i64 t.cookie]
def eTree (t:Tree):AVal := .agg (eTreeC t)
structure Small (t:Tree):Prop where
 nodes:t.nodes.length≤100000
 ents:∀n,n∈t.nodes→n.ents.length≤100000
 data:∀n,n∈t.nodes→n.data.length≤100000
theorem cells_eNode (n:Node):(eNode n).cells=eNodeC n:=rfl
theorem cells_eEnt (e:Ent):(eEnt e).cells=eEntC e:=rfl
theorem len_eNodeC (n:Node):(eNodeC n).length=6:=rfl
theorem len_eEntC (e:Ent):(eEntC e).length=3:=rfl
theorem wid_nodes (l:List Node):wid (l.map eNode) 6=True:=by
 simp only [eq_iff_iff,iff_true]
 intro x hx
 obtain ⟨n,_,rfl⟩:=List.mem_map.1 hx
 rfl
theorem wid_ents (l:List Ent):wid (l.map eEnt) 3=True:=by
 simp only [eq_iff_iff,iff_true]
 intro x hx
 obtain ⟨n,_,rfl⟩:=List.mem_map.1 hx
 rfl
theorem wid_bytes (l:Bytes):wid (l.map u8V) 1=True:=by
 simp only [eq_iff_iff,iff_true]
 intro x hx
 obtain ⟨n,_,rfl⟩:=List.mem_map.1 hx
 rfl
theorem map_ent (l:List Ent) (s:Bytes) (a b:Int):l.map eEnt++[.agg [.str s,.int .i64 a,.int .i64 b]]=(l++[Ent.mk s a b]).map eEnt:=by simp [eEnt,eEntC]
structure Step where
 kind:Nat
 a:Nat
 b:Nat
 n:Nat
 m:Nat
 data:Bytes
def eStepC (s:Step):List AVal:=[.int .u8 s.kind,.int .u8 s.a,.int .u8 s.b,.int .u8 s.n,.int .u8 s.m,eData s.data]
def eStep (s:Step):AVal := .agg (eStepC s)
theorem cells_eStep (n:Step):(eStep n).cells=eStepC n:=rfl
theorem len_eStepC (n:Step):(eStepC n).length=6:=rfl
theorem wid_steps (l:List Step):wid (l.map eStep) 6=True:=by
 simp only [eq_iff_iff,iff_true]
 intro x hx
 obtain ⟨n,_,rfl⟩:=List.mem_map.1 hx
 rfl
set_option linter.defProp false in
def EVN:=And.intro @cells_eNode (And.intro @cells_eEnt (And.intro @len_eNodeC (And.intro @len_eEntC (And.intro @wid_nodes (And.intro @wid_ents (And.intro @wid_bytes (And.intro @cells_eStep (And.intro @len_eStepC @wid_steps))))))))
set_option linter.defProp false in
def BBT:=And.intro @Bool.and_true (And.intro @Bool.true_and (And.intro @Bool.and_false (And.intro @Bool.false_and (And.intro @Bool.or_true (And.intro @Bool.true_or (And.intro @Bool.or_false (And.intro @Bool.false_or (And.intro @Bool.not_true (And.intro @Bool.not_false (And.intro @Bool.and_self (And.intro @Bool.or_self (And.intro @Bool.false_eq_true (@beq_self_eq_true.{0})))))))))))))
end Go.Proofs.YtannopdcbocngaaGreatDoor
namespace Go.Proofs.YtannopdcbocngaaGreatDoor
open Go Go.Abs
attribute [local irreducible] exK opsK opK gK forkK kr acall callOp owhen obind
theorem at_mid {α:Type} {l:List α} {pre r:List α} {n:α} (h:l=pre++n::r):l[pre.length]?=some n:=by rw [h]; simp
theorem lt_mid {α:Type} {l:List α} {pre r:List α} {n:α} (h:l=pre++n::r):((pre.length:Int)<(l.length:Int))=True:=by rw [h]; simp; omega
theorem lt_end {α:Type} {l:List α} {pre:List α} (h:l=pre++[]):((pre.length:Int)<(l.length:Int))=False:=by rw [h]; simp
theorem step_len {α:Type} {pre:List α} {n:α}:((pre.length:Int)+1)=((pre++[n]).length:Int):=by simp
def placeGo (ino:Int):List Node→Nat→Int
 | [],_ => -1
 |n::r,i=>if n.ino=ino then i else placeGo ino r (i+1)
theorem loop156 {t:Tree} {ino:Int} (ht:t.nodes.length≤100000) {k:List K} {R:Int→Option (AVal×AMem)}
  (hx:∀e,kr (acall tabT) [.tmp 4] 0 k ⟨.exit 0,e,[.cells (eTreeC t)]⟩=R (-1)) (hr:∀(i:Nat),kr (acall tabT) [.tmp 4] 0 k ⟨.ret,[(4,.int .i64 i)],[.cells (eTreeC t)]⟩=R i) :
  ∀(l pre:List Node),t.nodes=pre++l→exK (acall tabT) [.tmp 4] 0 k (.loop [1,2,5] lb156_0) [(1,.int .i64 ino),(2,.ptr 0 0),(5,.int .i64 pre.length)] [.cells (eTreeC t)]=R (placeGo ino l pre.length):=by
 intro l
 induction l with
 |nil =>
  intro pre h
  rw [exK_loop]
  simp only [E156,eTreeC,eNodes,lt_end h,EVN,EVT,EVD,↓reduceIte,Nat.reduceEqDiff,reduceCtorEq,Nat.reduceAdd,Nat.reduceLeDiff,ne_eq,Nat.reduceLT,Int.reduceLT,Int.reduceLE,Int.reduceNeg]
  exact hx _
 |cons n r ih =>
  intro pre h
  rw [exK_loop]
  have hlen:pre.length+1≤100000:=by rw [h] at ht; simp at ht; omega
  have hw:IntKind.i64.wrap ((pre.length:Int)+1)=((pre++[n]).length:Int):=by rw [wrapS (by omega) (by omega)]; exact step_len
  simp only [E156,eTreeC,eNodes,lt_mid h,at_mid h,eNodeC,EVN,EVT,EVD,↓reduceIte,Nat.reduceEqDiff,reduceCtorEq,Nat.reduceAdd,Nat.reduceLeDiff,ne_eq,Nat.reduceLT,Int.reduceLT,Int.reduceLE,Int.reduceNeg]
  refine fork_split (fun hb=>?_) (fun hb=>?_)
  ·have hb:n.ino=ino:=by simpa using hb
   simp only [E156,EVN,EVT,EVD,↓reduceIte,Nat.reduceEqDiff,reduceCtorEq,Nat.reduceAdd,Nat.reduceLeDiff,ne_eq,Nat.reduceLT,Int.reduceLT,Int.reduceLE,Int.reduceNeg]
   rw [placeGo,if_pos hb]
   exact hr _
  ·have hb:¬n.ino=ino:=by simpa using hb
   simp only [E156,hw,EVN,EVT,EVD,↓reduceIte,Nat.reduceEqDiff,reduceCtorEq,Nat.reduceAdd,Nat.reduceLeDiff,ne_eq,Nat.reduceLT,Int.reduceLT,Int.reduceLE,Int.reduceNeg]
   rw [placeGo,if_neg hb]
   have:=ih (pre++[n]) (by rw [h]; simp)
   simp only [List.length_append,List.length_cons,List.length_nil] at this ⊢
   exact this
theorem c156 (t:Tree) (ino:Int) (ht:t.nodes.length≤100000):acall tabT 156 [eTree t,.int .i64 ino] []=some (.int .i64 (placeGo ino t.nodes 0),[]):=by
 refine acall_ex rfl rfl rfl ?_
 simp only [fn156,E156,eTree,EVN,EVT,EVD,↓reduceIte,Nat.reduceEqDiff,reduceCtorEq,Nat.reduceAdd,Nat.reduceLeDiff,ne_eq,Nat.reduceLT,Int.reduceLT,Int.reduceLE,Int.reduceNeg]
 exact loop156 (R:=fun z=>some (.int .i64 z,[])) ht (fun e=>by simp only [E156,EVN,EVT,EVD,↓reduceIte,Nat.reduceEqDiff,reduceCtorEq,Nat.reduceAdd,Nat.reduceLeDiff,ne_eq,Nat.reduceLT,Int.reduceLT,Int.reduceLE,Int.reduceNeg]) (fun i=>by simp only [E156,EVN,EVT,EVD,↓reduceIte,Nat.reduceEqDiff,reduceCtorEq,Nat.reduceAdd,Nat.reduceLeDiff,ne_eq,Nat.reduceLT,Int.reduceLT,Int.reduceLE,Int.reduceNeg]) t.nodes [] rfl
theorem k156 (nodes:List Node) (next cookie ino:Int) (h:nodes.length≤100000) (M:AMem):callOp (acall tabT) 156 [.agg [eNodes nodes,.int .i64 next,.int .i64 cookie],.int .i64 ino] M=some (.int .i64 (placeGo ino nodes 0),M) :=
 callOp0 (c156 ⟨nodes,next,cookie⟩ ino h) rfl rfl rfl rfl rfl M
def find (nodes:List Node) (ino:Int):Option Node:=nodes.find? fun n=>n.ino==ino
theorem placeGo_spec (ino:Int):∀(l:List Node) (i:Nat),(find l ino=none∧placeGo ino l i = -1)∨∃m n,l[m]?=some n∧find l ino=some n∧placeGo ino l i=((i+m:Nat):Int)
 | [],_ => .inl ⟨rfl,rfl⟩
 |n::r,i=>by
  unfold find placeGo
  by_cases h:n.ino=ino
  ·exact .inr ⟨0,n,rfl,by simp [h],by simp [h]⟩
  ·rcases placeGo_spec ino r (i+1) with ⟨h1,h2⟩|⟨m,n',h1,h2,h3⟩
   ·exact .inl ⟨by simp [h]; simpa [find] using h1,by simp [h,h2]⟩
   ·exact .inr ⟨m+1,n',by simpa using h1,by simp [h]; simpa [find] using h2,by simp [h,h3]; omega⟩
theorem c114 (t:Tree) (ino:Int) (ht:t.nodes.length≤100000):acall tabT 114 [eTree t,.int .i64 ino] []=some (.tuple [eNode ((find t.nodes ino).getD Node.zero),.bool (find t.nodes ino).isSome],[]):=by
 refine acall_ex rfl rfl rfl ?_
 simp only [fn114,E114,eTree,eTreeC,k156,ht,EVN,EVT,EVD,↓reduceIte,Nat.reduceEqDiff,reduceCtorEq,Nat.reduceAdd,Nat.reduceLeDiff,ne_eq,Nat.reduceLT,Int.reduceLT,Int.reduceLE,Int.reduceNeg]
 rcases placeGo_spec ino t.nodes 0 with ⟨h1,h2⟩|⟨m,n,h1,h2,h3⟩
 ·rw [h2]
  simp only [E114,h1,EVN,EVT,EVD,↓reduceIte,Nat.reduceEqDiff,reduceCtorEq,Nat.reduceAdd,Nat.reduceLeDiff,ne_eq,Nat.reduceLT,Int.reduceLT,Int.reduceLE,Int.reduceNeg]
  rfl
 ·rw [h3]
  simp only [E114,h1,h2,eNodes,eNodeC,EVN,EVT,EVD,↓reduceIte,Nat.reduceEqDiff,reduceCtorEq,Nat.reduceAdd,Nat.reduceLeDiff,ne_eq,Nat.reduceLT,Int.reduceLT,Int.reduceLE,Int.reduceNeg]
  rfl
theorem k114 (nodes:List Node) (next cookie ino:Int) (h:nodes.length≤100000) (M:AMem):callOp (acall tabT) 114 [.agg [eNodes nodes,.int .i64 next,.int .i64 cookie],.int .i64 ino] M=some (.tuple [eNode ((find nodes ino).getD Node.zero),.bool (find nodes ino).isSome],M) :=
 callOp0 (c114 ⟨nodes,next,cookie⟩ ino h) rfl rfl rfl rfl rfl M
def dirN (nodes:List Node) (ino:Int):Node×Int:=match find nodes ino with
 |none=>(Node.zero,70)
 |some n=>if n.kind=2 then (n,0) else (Node.zero,73)
theorem c118 (t:Tree) (ino:Int) (ht:t.nodes.length≤100000):acall tabT 118 [eTree t,.int .i64 ino] []=some (.tuple [eNode (dirN t.nodes ino).1,.int .i64 (dirN t.nodes ino).2],[]):=by
 refine acall_ex rfl rfl rfl ?_
 simp only [fn118,E118,eTree,eTreeC,k114,ht,eNode,eNodeC,EVN,EVT,EVD,↓reduceIte,Nat.reduceEqDiff,reduceCtorEq,Nat.reduceAdd,Nat.reduceLeDiff,ne_eq,Nat.reduceLT,Int.reduceLT,Int.reduceLE,Int.reduceNeg]
 unfold dirN
 cases hf:find t.nodes ino with
 |none=>simp only [E118,Option.isSome,EVN,EVT,EVD,↓reduceIte,Nat.reduceEqDiff,reduceCtorEq,Nat.reduceAdd,Nat.reduceLeDiff,ne_eq,Nat.reduceLT,Int.reduceLT,Int.reduceLE,Int.reduceNeg]; first|done|rfl
 |some n =>
  simp only [E118,Option.isSome,Option.getD_some,EVN,EVT,EVD,↓reduceIte,Nat.reduceEqDiff,reduceCtorEq,Nat.reduceAdd,Nat.reduceLeDiff,ne_eq,Nat.reduceLT,Int.reduceLT,Int.reduceLE,Int.reduceNeg]
  repeat' (first|(refine fork_split (fun hb=>?_) (fun hb=>?_)<;>simp only [hb,EVN,E118,EVT,EVD,↓reduceIte,Nat.reduceEqDiff,reduceCtorEq,Nat.reduceAdd,Nat.reduceLeDiff,ne_eq,Nat.reduceLT,Int.reduceLT,Int.reduceLE,Int.reduceNeg])|(refine guard_split (fun hb=>?_) (fun hb=>?_)<;>simp only [hb,EVN,E118,EVT,EVD,↓reduceIte,Nat.reduceEqDiff,reduceCtorEq,Nat.reduceAdd,Nat.reduceLeDiff,ne_eq,Nat.reduceLT,Int.reduceLT,Int.reduceLE,Int.reduceNeg])|(refine opK_pick (fun hb=>?_) (fun hb=>?_)<;>simp only [hb,EVN,E118,EVT,EVD,↓reduceIte,Nat.reduceEqDiff,reduceCtorEq,Nat.reduceAdd,Nat.reduceLeDiff,ne_eq,Nat.reduceLT,Int.reduceLT,Int.reduceLE,Int.reduceNeg]))
  all_goals simp_all [Node.zero]
theorem k118 (nodes:List Node) (next cookie ino:Int) (h:nodes.length≤100000) (M:AMem):callOp (acall tabT) 118 [.agg [eNodes nodes,.int .i64 next,.int .i64 cookie],.int .i64 ino] M=some (.tuple [eNode (dirN nodes ino).1,.int .i64 (dirN nodes ino).2],M) :=
 callOp0 (c118 ⟨nodes,next,cookie⟩ ino h) rfl rfl rfl rfl rfl M
end Go.Proofs.YtannopdcbocngaaGreatDoor
namespace Go.Proofs.YtannopdcbocngaaGreatDoor
open Go Go.Abs
attribute [local irreducible] exK opsK opK gK forkK kr acall callOp owhen obind
def namedGo (s:Bytes):List Ent→Nat→Int
 | [],_ => -1
 |n::r,i=>if n.name=s then i else namedGo s r (i+1)
def findE (l:List Ent) (s:Bytes):Option Ent:=l.find? fun e=>e.name==s
theorem namedGo_spec (s:Bytes):∀(l:List Ent) (i:Nat),(findE l s=none∧namedGo s l i = -1)∨∃m n,l[m]?=some n∧findE l s=some n∧namedGo s l i=((i+m:Nat):Int)
 | [],_ => .inl ⟨rfl,rfl⟩
 |n::r,i=>by
  unfold findE namedGo
  by_cases h:n.name=s
  ·exact .inr ⟨0,n,rfl,by simp [h],by simp [h]⟩
  ·rcases namedGo_spec s r (i+1) with ⟨h1,h2⟩|⟨m,n',h1,h2,h3⟩
   ·exact .inl ⟨by simp [h]; simpa [findE] using h1,by simp [h,h2]⟩
   ·exact .inr ⟨m+1,n',by simpa using h1,by simp [h]; simpa [findE] using h2,by simp [h,h3]; omega⟩
theorem loop120 {t:Node} {s:Bytes} (ht:t.ents.length≤100000) {k:List K} {R:Int→Option (AVal×AMem)}
  (hx:∀e,kr (acall tabT) [.tmp 4] 0 k ⟨.exit 0,e,[.cells (eNodeC t)]⟩=R (-1)) (hr:∀(i:Nat),kr (acall tabT) [.tmp 4] 0 k ⟨.ret,[(4,.int .i64 i)],[.cells (eNodeC t)]⟩=R i) :
  ∀(l pre:List Ent),t.ents=pre++l→exK (acall tabT) [.tmp 4] 0 k (.loop [1,2,5] lb120_0) [(1,.str s),(2,.ptr 0 0),(5,.int .i64 pre.length)] [.cells (eNodeC t)]=R (namedGo s l pre.length):=by
 intro l
 induction l with
 |nil =>
  intro pre h
  rw [exK_loop]
  simp only [E120,eNodeC,eEnts,lt_end h,EVN,EVT,EVD,↓reduceIte,Nat.reduceEqDiff,reduceCtorEq,Nat.reduceAdd,Nat.reduceLeDiff,ne_eq,Nat.reduceLT,Int.reduceLT,Int.reduceLE,Int.reduceNeg]
  exact hx _
 |cons n r ih =>
  intro pre h
  rw [exK_loop]
  have hlen:pre.length+1≤100000:=by rw [h] at ht; simp at ht; omega
  have hw:IntKind.i64.wrap ((pre.length:Int)+1)=((pre++[n]).length:Int):=by rw [wrapS (by omega) (by omega)]; exact step_len
  simp only [E120,eNodeC,eEnts,lt_mid h,at_mid h,eEntC,EVN,EVT,EVD,↓reduceIte,Nat.reduceEqDiff,reduceCtorEq,Nat.reduceAdd,Nat.reduceLeDiff,ne_eq,Nat.reduceLT,Int.reduceLT,Int.reduceLE,Int.reduceNeg]
  refine fork_split (fun hb=>?_) (fun hb=>?_)
  ·have hb:n.name=s:=by simpa using hb
   simp only [E120,EVN,EVT,EVD,↓reduceIte,Nat.reduceEqDiff,reduceCtorEq,Nat.reduceAdd,Nat.reduceLeDiff,ne_eq,Nat.reduceLT,Int.reduceLT,Int.reduceLE,Int.reduceNeg]
   rw [namedGo,if_pos hb]
   exact hr _
  ·have hb:¬n.name=s:=by simpa using hb
   simp only [E120,hw,EVN,EVT,EVD,↓reduceIte,Nat.reduceEqDiff,reduceCtorEq,Nat.reduceAdd,Nat.reduceLeDiff,ne_eq,Nat.reduceLT,Int.reduceLT,Int.reduceLE,Int.reduceNeg]
   rw [namedGo,if_neg hb]
   have:=ih (pre++[n]) (by rw [h]; simp)
   simp only [List.length_append,List.length_cons,List.length_nil] at this ⊢
   exact this
theorem c120 (t:Node) (s:Bytes) (ht:t.ents.length≤100000):acall tabT 120 [eNode t,.str s] []=some (.int .i64 (namedGo s t.ents 0),[]):=by
 refine acall_ex rfl rfl rfl ?_
 simp only [fn120,E120,eNode,EVN,EVT,EVD,↓reduceIte,Nat.reduceEqDiff,reduceCtorEq,Nat.reduceAdd,Nat.reduceLeDiff,ne_eq,Nat.reduceLT,Int.reduceLT,Int.reduceLE,Int.reduceNeg]
 exact loop120 (R:=fun z=>some (.int .i64 z,[])) ht (fun e=>by simp only [E120,EVN,EVT,EVD,↓reduceIte,Nat.reduceEqDiff,reduceCtorEq,Nat.reduceAdd,Nat.reduceLeDiff,ne_eq,Nat.reduceLT,Int.reduceLT,Int.reduceLE,Int.reduceNeg]) (fun i=>by simp only [E120,EVN,EVT,EVD,↓reduceIte,Nat.reduceEqDiff,reduceCtorEq,Nat.reduceAdd,Nat.reduceLeDiff,ne_eq,Nat.reduceLT,Int.reduceLT,Int.reduceLE,Int.reduceNeg]) t.ents [] rfl
theorem k120 (a b c:Int) (d:Bytes) (e:List Ent) (u:Int) (s:Bytes) (h:e.length≤100000) (M:AMem):callOp (acall tabT) 120 [.agg [.int .i64 a,.int .i64 b,.int .i64 c,eData d,eEnts e,.int .i64 u],.str s] M=some (.int .i64 (namedGo s e 0),M) :=
 callOp0 (c120 ⟨a,b,c,d,e,u⟩ s h) rfl rfl rfl rfl rfl M
def okByte (b:UInt8):Bool := !(decide ((b.toNat:Int)<32)||((b.toNat:Int)==47))
def nameOk (s:Bytes):Bool := !(decide ((s.length:Int)<1)||(decide ((s.length:Int)>32)||(s==[46]||s==[46,46])))&&s.all okByte
theorem loop119 {s:Bytes} (hs:s.length≤100000) {k:List K} {R:Bool→Option (AVal×AMem)}
  (hx:∀e,kr (acall tabT) [.tmp 2] 0 k ⟨.exit 0,e,[]⟩=R true) (hr:kr (acall tabT) [.tmp 2] 0 k ⟨.ret,[(2,.bool false)],[]⟩=R false) :
  ∀(l pre:Bytes),s=pre++l→exK (acall tabT) [.tmp 2] 0 k (.loop [0,3] lb119_0) [(0,.str s),(3,.int .i64 pre.length)] []=R (l.all okByte):=by
 intro l
 induction l with
 |nil =>
  intro pre h
  rw [exK_loop]
  simp only [E119,lt_end h,EVN,EVT,EVD,↓reduceIte,Nat.reduceEqDiff,reduceCtorEq,Nat.reduceAdd,Nat.reduceLeDiff,ne_eq,Nat.reduceLT,Int.reduceLT,Int.reduceLE,Int.reduceNeg]
  exact hx _
 |cons n r ih =>
  intro pre h
  rw [exK_loop]
  have hlen:pre.length+1≤100000:=by rw [h] at hs; simp at hs; omega
  have hw:IntKind.i64.wrap ((pre.length:Int)+1)=((pre++[n]).length:Int):=by rw [wrapS (by omega) (by omega)]; exact step_len
  have hi:=ih (pre++[n]) (by rw [h]; simp)
  simp only [List.length_append,List.length_cons,List.length_nil] at hi
  simp only [E119,lt_mid h,at_mid h,EVN,EVT,EVD,↓reduceIte,Nat.reduceEqDiff,reduceCtorEq,Nat.reduceAdd,Nat.reduceLeDiff,ne_eq,Nat.reduceLT,Int.reduceLT,Int.reduceLE,Int.reduceNeg]
  repeat' (first|(refine fork_split (fun hb=>?_) (fun hb=>?_)<;>simp only [hb,EVN,E119,at_mid h,hw,EVT,EVD,↓reduceIte,Nat.reduceEqDiff,reduceCtorEq,Nat.reduceAdd,Nat.reduceLeDiff,ne_eq,Nat.reduceLT,Int.reduceLT,Int.reduceLE,Int.reduceNeg])|(refine guard_split (fun hb=>?_) (fun hb=>?_)<;>simp only [hb,EVN,E119,at_mid h,hw,EVT,EVD,↓reduceIte,Nat.reduceEqDiff,reduceCtorEq,Nat.reduceAdd,Nat.reduceLeDiff,ne_eq,Nat.reduceLT,Int.reduceLT,Int.reduceLE,Int.reduceNeg])|(refine opK_pick (fun hb=>?_) (fun hb=>?_)<;>simp only [hb,EVN,E119,at_mid h,hw,EVT,EVD,↓reduceIte,Nat.reduceEqDiff,reduceCtorEq,Nat.reduceAdd,Nat.reduceLeDiff,ne_eq,Nat.reduceLT,Int.reduceLT,Int.reduceLE,Int.reduceNeg]))
  all_goals try simp only [E119,List.length_append,List.length_cons,List.length_nil,EVN,EVT,EVD,↓reduceIte,Nat.reduceEqDiff,reduceCtorEq,Nat.reduceAdd,Nat.reduceLeDiff,ne_eq,Nat.reduceLT,Int.reduceLT,Int.reduceLE,Int.reduceNeg]
  all_goals first
   |(refine hr.trans ?_; congr 1; symm; simp_all [okByte]; done)
   |(refine hi.trans ?_; congr 1; symm; simp_all [okByte]; done)
theorem c119 (s:Bytes) (hs:s.length≤100000):acall tabT 119 [.str s] []=some (.bool (nameOk s),[]):=by
 refine acall_ex rfl rfl rfl ?_
 simp only [fn119,E119,EVN,EVT,EVD,↓reduceIte,Nat.reduceEqDiff,reduceCtorEq,Nat.reduceAdd,Nat.reduceLeDiff,ne_eq,Nat.reduceLT,Int.reduceLT,Int.reduceLE,Int.reduceNeg]
 have hl:=fun k hx hr=>loop119 (k:=k) (R:=fun b=>some (AVal.bool b,[])) hs hx hr s [] rfl
 repeat' (first|(refine fork_split (fun hb=>?_) (fun hb=>?_)<;>simp only [hb,EVN,E119,EVT,EVD,↓reduceIte,Nat.reduceEqDiff,reduceCtorEq,Nat.reduceAdd,Nat.reduceLeDiff,ne_eq,Nat.reduceLT,Int.reduceLT,Int.reduceLE,Int.reduceNeg])|(refine guard_split (fun hb=>?_) (fun hb=>?_)<;>simp only [hb,EVN,E119,EVT,EVD,↓reduceIte,Nat.reduceEqDiff,reduceCtorEq,Nat.reduceAdd,Nat.reduceLeDiff,ne_eq,Nat.reduceLT,Int.reduceLT,Int.reduceLE,Int.reduceNeg])|(refine opK_pick (fun hb=>?_) (fun hb=>?_)<;>simp only [hb,EVN,E119,EVT,EVD,↓reduceIte,Nat.reduceEqDiff,reduceCtorEq,Nat.reduceAdd,Nat.reduceLeDiff,ne_eq,Nat.reduceLT,Int.reduceLT,Int.reduceLE,Int.reduceNeg]))
 all_goals first
  |(simp_all [nameOk]; done)
  |(refine (hl _ (fun e=>by simp only [E119,EVN,EVT,EVD,↓reduceIte,Nat.reduceEqDiff,reduceCtorEq,Nat.reduceAdd,Nat.reduceLeDiff,ne_eq,Nat.reduceLT,Int.reduceLT,Int.reduceLE,Int.reduceNeg]) (by simp only [E119,EVN,EVT,EVD,↓reduceIte,Nat.reduceEqDiff,reduceCtorEq,Nat.reduceAdd,Nat.reduceLeDiff,ne_eq,Nat.reduceLT,Int.reduceLT,Int.reduceLE,Int.reduceNeg])).trans ?_; simp_all [nameOk]; done)
theorem k119 (s:Bytes) (hs:s.length≤100000) (M:AMem):callOp (acall tabT) 119 [.str s] M=some (.bool (nameOk s),M):=callOp0 (c119 s hs) rfl rfl rfl rfl rfl M
def lookN (nodes:List Node) (ino:Int) (s:Bytes):Int×Int :=
 if (dirN nodes ino).2≠0 then (0,(dirN nodes ino).2) else if nameOk s=false then (0,60) else match findE (dirN nodes ino).1.ents s with
  |none=>(0,70)
  |some e=>(e.ino,0)
theorem find_mem {nodes:List Node} {ino:Int} {n:Node} (h:find nodes ino=some n):n∈nodes∧n.ino=ino:=by
 unfold find at h
 exact ⟨List.mem_of_find?_eq_some h,by simpa using List.find?_some h⟩
theorem dirN_ents {t:Tree} (hs:Small t) (ino:Int):(dirN t.nodes ino).1.ents.length≤100000:=by
 unfold dirN
 split
 ·simp [Node.zero]
 ·rename_i n hn
  split
  ·exact hs.ents n (find_mem hn).1
  ·simp [Node.zero]
theorem c115 (t:Tree) (ino:Int) (s:Bytes) (ht:Small t) (hs:s.length≤100000):acall tabT 115 [eTree t,.int .i64 ino,.str s] []=some (.tuple [.int .i64 (lookN t.nodes ino s).1,.int .i64 (lookN t.nodes ino s).2],[]):=by
 refine acall_ex rfl rfl rfl ?_
 have hd:=dirN_ents ht ino
 simp only [fn115,E115,eTree,eTreeC,k118,ht.nodes,eNode,eNodeC,EVN,EVT,EVD,↓reduceIte,Nat.reduceEqDiff,reduceCtorEq,Nat.reduceAdd,Nat.reduceLeDiff,ne_eq,Nat.reduceLT,Int.reduceLT,Int.reduceLE,Int.reduceNeg]
 unfold lookN
 refine fork_split (fun hb=>?_) (fun hb=>?_)
 ·simp only [E115,EVN,EVT,EVD,↓reduceIte,Nat.reduceEqDiff,reduceCtorEq,Nat.reduceAdd,Nat.reduceLeDiff,ne_eq,Nat.reduceLT,Int.reduceLT,Int.reduceLE,Int.reduceNeg]
  simp_all
 ·simp only [E115,k119,hs,EVN,EVT,EVD,↓reduceIte,Nat.reduceEqDiff,reduceCtorEq,Nat.reduceAdd,Nat.reduceLeDiff,ne_eq,Nat.reduceLT,Int.reduceLT,Int.reduceLE,Int.reduceNeg]
  refine fork_split (fun hb'=>?_) (fun hb'=>?_)
  ·simp only [E115,EVN,EVT,EVD,↓reduceIte,Nat.reduceEqDiff,reduceCtorEq,Nat.reduceAdd,Nat.reduceLeDiff,ne_eq,Nat.reduceLT,Int.reduceLT,Int.reduceLE,Int.reduceNeg]
   simp_all
  ·simp only [E115,k120,hd,EVN,EVT,EVD,↓reduceIte,Nat.reduceEqDiff,reduceCtorEq,Nat.reduceAdd,Nat.reduceLeDiff,ne_eq,Nat.reduceLT,Int.reduceLT,Int.reduceLE,Int.reduceNeg]
   rcases namedGo_spec s (dirN t.nodes ino).1.ents 0 with ⟨h1,h2⟩|⟨m,n,h1,h2,h3⟩
   ·rw [h2]
    simp only [E115,EVN,EVT,EVD,↓reduceIte,Nat.reduceEqDiff,reduceCtorEq,Nat.reduceAdd,Nat.reduceLeDiff,ne_eq,Nat.reduceLT,Int.reduceLT,Int.reduceLE,Int.reduceNeg]
    simp_all
   ·rw [h3]
    simp only [E115,h1,eEnts,eEntC,EVN,EVT,EVD,↓reduceIte,Nat.reduceEqDiff,reduceCtorEq,Nat.reduceAdd,Nat.reduceLeDiff,ne_eq,Nat.reduceLT,Int.reduceLT,Int.reduceLE,Int.reduceNeg]
    simp_all
theorem k115 (nodes:List Node) (next cookie ino:Int) (s:Bytes) (ht:Small ⟨nodes,next,cookie⟩) (hs:s.length≤100000) (M:AMem):callOp (acall tabT) 115 [.agg [eNodes nodes,.int .i64 next,.int .i64 cookie],.int .i64 ino,.str s] M =
  some (.tuple [.int .i64 (lookN nodes ino s).1,.int .i64 (lookN nodes ino s).2],M):=callOp0 (c115 ⟨nodes,next,cookie⟩ ino s ht hs) rfl rfl rfl rfl rfl M
end Go.Proofs.YtannopdcbocngaaGreatDoor
namespace Go.Proofs.YtannopdcbocngaaGreatDoor
open Go Go.Abs
attribute [local irreducible] exK opsK opK gK forkK kr acall callOp owhen obind
def zT:List AVal:=[.slice .c0 [],.int .i64 0,.int .i64 0]
def withL (n:Node):List Node→List Node→Bool→List Node×Bool
 | [],out,done=>(out,done)
 |m::r,out,done =>
  withL n r ((if (!done&&decide (m.ino≥n.ino))=true then out++[n] else out)++(if m.ino=n.ino then [] else [m])) (done||decide (m.ino≥n.ino))
def withN (nodes:List Node) (n:Node):List Node:=(withL n nodes [] false).1++(if (withL n nodes [] false).2=true then [] else [n])
theorem loop113 {t:Tree} {n:Node} (ht:t.nodes.length≤100000) {k:List K} {R:List Node→Bool→Option (AVal×AMem)}
  (hx:∀out done v e,out.length≤300000→kr (acall tabT) [.cellA 4 3] 0 k ⟨.exit 0,[(2,.ptr 0 0),(3,.ptr 1 0),(4,.ptr 2 0),(5,.slice (.own 3) (out.map eNode)),(6,.bool done),(7,v),(12,e)],[.cells (eTreeC t),.cells (eNodeC n),.cells zT,.tick 6 out.length]⟩=R out done) :
  ∀(l pre out:List Node) (done:Bool),t.nodes=pre++l→out.length+2*l.length≤300000→exK (acall tabT) [.cellA 4 3] 0 k (.loop [2,3,4,5,6,7] lb113_0) [(2,.ptr 0 0),(3,.ptr 1 0),(4,.ptr 2 0),(5,.slice (.own 3) (out.map eNode)),(6,.bool done),(7,.int .i64 pre.length)] [.cells (eTreeC t),.cells (eNodeC n),.cells zT,.tick 6 out.length]=R (withL n l out done).1 (withL n l out done).2:=by
 intro l
 induction l with
 |nil =>
  intro pre out done h ho
  rw [exK_loop]
  simp only [E113,eTreeC,eNodes,lt_end h,EVN,EVT,EVD,↓reduceIte,Nat.reduceEqDiff,reduceCtorEq,Nat.reduceAdd,Nat.reduceLeDiff,ne_eq,Nat.reduceLT,Int.reduceLT,Int.reduceLE,Int.reduceNeg]
  exact hx _ _ _ _ (by simp at ho; omega)
 |cons m r ih =>
  intro pre out done h ho
  rw [exK_loop]
  have hlen:pre.length+1≤100000:=by rw [h] at ht; simp at ht; omega
  have hw:IntKind.i64.wrap ((pre.length:Int)+1)=((pre++[m]).length:Int):=by rw [wrapS (by omega) (by omega)]; exact step_len
  have hi:=fun out done ho=>ih (pre++[m]) out done (by rw [h]; simp) ho
  simp only [List.length_cons] at ho
  have r1:roomOk (out.length+1) 80=True:=room_ok (by omega) (by omega)
  have r2:roomOk (out.length+1+1) 80=True:=room_ok (by omega) (by omega)
  rw [withL]
  simp only [E113,eTreeC,eNodes,lt_mid h,at_mid h,eNodeC,EVN,EVT,EVD,↓reduceIte,Nat.reduceEqDiff,reduceCtorEq,Nat.reduceAdd,Nat.reduceLeDiff,ne_eq,Nat.reduceLT,Int.reduceLT,Int.reduceLE,Int.reduceNeg]
  repeat' (first|(refine fork_split (fun hb=>?_) (fun hb=>?_)<;>simp only [hb,EVN,E113,at_mid h,hw,r1,r2,eNodeC,EVT,EVD,↓reduceIte,Nat.reduceEqDiff,reduceCtorEq,Nat.reduceAdd,Nat.reduceLeDiff,ne_eq,Nat.reduceLT,Int.reduceLT,Int.reduceLE,Int.reduceNeg])|(refine guard_split (fun hb=>?_) (fun hb=>?_)<;>simp only [hb,EVN,E113,at_mid h,hw,r1,r2,eNodeC,EVT,EVD,↓reduceIte,Nat.reduceEqDiff,reduceCtorEq,Nat.reduceAdd,Nat.reduceLeDiff,ne_eq,Nat.reduceLT,Int.reduceLT,Int.reduceLE,Int.reduceNeg])|(refine opK_pick (fun hb=>?_) (fun hb=>?_)<;>simp only [hb,EVN,E113,at_mid h,hw,r1,r2,eNodeC,EVT,EVD,↓reduceIte,Nat.reduceEqDiff,reduceCtorEq,Nat.reduceAdd,Nat.reduceLeDiff,ne_eq,Nat.reduceLT,Int.reduceLT,Int.reduceLE,Int.reduceNeg]))
  all_goals try simp only [E113,at_mid h,hw,r1,r2,eNodeC,EVN,EVT,EVD,↓reduceIte,Nat.reduceEqDiff,reduceCtorEq,Nat.reduceAdd,Nat.reduceLeDiff,ne_eq,Nat.reduceLT,Int.reduceLT,Int.reduceLE,Int.reduceNeg]
  all_goals first
   |(refine Eq.trans ?_ ((hi (out++[n]++[m]) true (by simp; omega)).trans ?_)
     ·simp only [List.map_append,List.map_cons,List.map_nil,List.length_append,List.length_cons,List.length_nil]; rfl
     ·clear hi ih hx hw h; simp_all; done)
   |(refine Eq.trans ?_ ((hi (out++[n]) true (by simp; omega)).trans ?_)
     ·simp only [List.map_append,List.map_cons,List.map_nil,List.length_append,List.length_cons,List.length_nil]; rfl
     ·clear hi ih hx hw h; simp_all; done)
   |(refine Eq.trans ?_ ((hi (out++[m]) done (by simp; omega)).trans ?_)
     ·simp only [List.map_append,List.map_cons,List.map_nil,List.length_append,List.length_cons,List.length_nil]; rfl
     ·clear hi ih hx hw h; simp_all; done)
   |(refine Eq.trans ?_ ((hi out done (by omega)).trans ?_)
     ·simp only [List.map_append,List.map_cons,List.map_nil,List.length_append,List.length_cons,List.length_nil]; rfl
     ·clear hi ih hx hw h; simp_all; done)
theorem c113 (t:Tree) (n:Node) (ht:t.nodes.length≤100000):acall tabT 113 [eTree t,eNode n] []=some (eTree ⟨withN t.nodes n,t.next,t.cookie⟩,[]):=by
 refine acall_ex rfl rfl rfl ?_
 simp only [fn113,E113,eTree,eNode,EVN,EVT,EVD,↓reduceIte,Nat.reduceEqDiff,reduceCtorEq,Nat.reduceAdd,Nat.reduceLeDiff,ne_eq,Nat.reduceLT,Int.reduceLT,Int.reduceLE,Int.reduceNeg]
 refine loop113 (R:=fun out done=>some (eTree ⟨out++(if done=true then [] else [n]),t.next,t.cookie⟩,[])) ht (fun out done v e ho=>?_) t.nodes [] [] false rfl (by simp; omega)
 have r1:roomOk (out.length+1) 80=True:=room_ok (by omega) (by omega)
 cases done
 ·simp only [E113,r1,eTree,eTreeC,zT,eNodeC,EVN,EVT,EVD,↓reduceIte,Nat.reduceEqDiff,reduceCtorEq,Nat.reduceAdd,Nat.reduceLeDiff,ne_eq,Nat.reduceLT,Int.reduceLT,Int.reduceLE,Int.reduceNeg]
  simp [eNodes,eNode,eNodeC]
 ·simp only [E113,r1,eTree,eTreeC,zT,eNodeC,EVN,EVT,EVD,↓reduceIte,Nat.reduceEqDiff,reduceCtorEq,Nat.reduceAdd,Nat.reduceLeDiff,ne_eq,Nat.reduceLT,Int.reduceLT,Int.reduceLE,Int.reduceNeg]
  try simp [eNodes]
theorem k113 (nodes:List Node) (next cookie a b c:Int) (d:Bytes) (e:List Ent) (u:Int) (h:nodes.length≤100000) (M:AMem):callOp (acall tabT) 113 [.agg [eNodes nodes,.int .i64 next,.int .i64 cookie],.agg [.int .i64 a,.int .i64 b,.int .i64 c,eData d,eEnts e,.int .i64 u]] M =
  some (.agg [eNodes (withN nodes ⟨a,b,c,d,e,u⟩),.int .i64 next,.int .i64 cookie],M):=callOp0 (c113 ⟨nodes,next,cookie⟩ ⟨a,b,c,d,e,u⟩ h) rfl rfl rfl rfl rfl M
def withoutN (nodes:List Node) (ino:Int):List Node:=nodes.filter fun n=>n.ino != ino
theorem loop125 {t:Tree} {ino:Int} (ht:t.nodes.length≤100000) {k:List K} {R:List Node→Option (AVal×AMem)}
  (hx:∀out v e,out.length≤300000→kr (acall tabT) [.cellA 4 3] 0 k ⟨.exit 0,[(1,.int .i64 ino),(2,.ptr 0 0),(4,.ptr 1 0),(5,.slice (.own 2) (out.map eNode)),(6,v),(11,e)],[.cells (eTreeC t),.cells zT,.tick 6 out.length]⟩=R out) :
  ∀(l pre out:List Node),t.nodes=pre++l→out.length+l.length≤150000→exK (acall tabT) [.cellA 4 3] 0 k (.loop [1,2,4,5,6] lb125_0) [(1,.int .i64 ino),(2,.ptr 0 0),(4,.ptr 1 0),(5,.slice (.own 2) (out.map eNode)),(6,.int .i64 pre.length)] [.cells (eTreeC t),.cells zT,.tick 6 out.length]=R (out++withoutN l ino):=by
 intro l
 induction l with
 |nil =>
  intro pre out h ho
  rw [exK_loop]
  simp only [E125,eTreeC,eNodes,lt_end h,EVN,EVT,EVD,↓reduceIte,Nat.reduceEqDiff,reduceCtorEq,Nat.reduceAdd,Nat.reduceLeDiff,ne_eq,Nat.reduceLT,Int.reduceLT,Int.reduceLE,Int.reduceNeg]
  refine (hx _ _ _ (by simp at ho; omega)).trans (by simp [withoutN])
 |cons m r ih =>
  intro pre out h ho
  rw [exK_loop]
  have hlen:pre.length+1≤100000:=by rw [h] at ht; simp at ht; omega
  have hw:IntKind.i64.wrap ((pre.length:Int)+1)=((pre++[m]).length:Int):=by rw [wrapS (by omega) (by omega)]; exact step_len
  have hi:=fun out ho=>ih (pre++[m]) out (by rw [h]; simp) ho
  simp only [List.length_cons] at ho
  have r1:roomOk (out.length+1) 80=True:=room_ok (by omega) (by omega)
  simp only [E125,eTreeC,eNodes,lt_mid h,at_mid h,eNodeC,EVN,EVT,EVD,↓reduceIte,Nat.reduceEqDiff,reduceCtorEq,Nat.reduceAdd,Nat.reduceLeDiff,ne_eq,Nat.reduceLT,Int.reduceLT,Int.reduceLE,Int.reduceNeg]
  repeat' (first|(refine fork_split (fun hb=>?_) (fun hb=>?_)<;>simp only [hb,EVN,E125,at_mid h,hw,r1,eNodeC,EVT,EVD,↓reduceIte,Nat.reduceEqDiff,reduceCtorEq,Nat.reduceAdd,Nat.reduceLeDiff,ne_eq,Nat.reduceLT,Int.reduceLT,Int.reduceLE,Int.reduceNeg])|(refine guard_split (fun hb=>?_) (fun hb=>?_)<;>simp only [hb,EVN,E125,at_mid h,hw,r1,eNodeC,EVT,EVD,↓reduceIte,Nat.reduceEqDiff,reduceCtorEq,Nat.reduceAdd,Nat.reduceLeDiff,ne_eq,Nat.reduceLT,Int.reduceLT,Int.reduceLE,Int.reduceNeg])|(refine opK_pick (fun hb=>?_) (fun hb=>?_)<;>simp only [hb,EVN,E125,at_mid h,hw,r1,eNodeC,EVT,EVD,↓reduceIte,Nat.reduceEqDiff,reduceCtorEq,Nat.reduceAdd,Nat.reduceLeDiff,ne_eq,Nat.reduceLT,Int.reduceLT,Int.reduceLE,Int.reduceNeg]))
  all_goals first
   |(refine Eq.trans ?_ ((hi (out++[m]) (by simp; omega)).trans ?_)
     ·simp only [List.map_append,List.map_cons,List.map_nil,List.length_append,List.length_cons,List.length_nil]; rfl
     ·clear hi ih hx hw h; simp_all[withoutN]; done)
   |(refine Eq.trans ?_ ((hi out (by omega)).trans ?_)
     ·simp only [List.map_append,List.map_cons,List.map_nil,List.length_append,List.length_cons,List.length_nil]; rfl
     ·clear hi ih hx hw h; simp_all[withoutN]; done)
theorem c125 (t:Tree) (ino:Int) (ht:t.nodes.length≤100000):acall tabT 125 [eTree t,.int .i64 ino] []=some (eTree ⟨withoutN t.nodes ino,t.next,t.cookie⟩,[]):=by
 refine acall_ex rfl rfl rfl ?_
 simp only [fn125,E125,eTree,EVN,EVT,EVD,↓reduceIte,Nat.reduceEqDiff,reduceCtorEq,Nat.reduceAdd,Nat.reduceLeDiff,ne_eq,Nat.reduceLT,Int.reduceLT,Int.reduceLE,Int.reduceNeg]
 refine (loop125 (R:=fun out=>some (eTree ⟨out,t.next,t.cookie⟩,[])) ht (fun out v e ho=>?_) t.nodes [] [] rfl (by simp; omega)).trans (by simp [eTree])
 simp only [E125,eTree,eTreeC,zT,EVN,EVT,EVD,↓reduceIte,Nat.reduceEqDiff,reduceCtorEq,Nat.reduceAdd,Nat.reduceLeDiff,ne_eq,Nat.reduceLT,Int.reduceLT,Int.reduceLE,Int.reduceNeg]
 try simp [eNodes]
theorem k125 (nodes:List Node) (next cookie ino:Int) (h:nodes.length≤100000) (M:AMem):callOp (acall tabT) 125 [.agg [eNodes nodes,.int .i64 next,.int .i64 cookie],.int .i64 ino] M =
  some (.agg [eNodes (withoutN nodes ino),.int .i64 next,.int .i64 cookie],M):=callOp0 (c125 ⟨nodes,next,cookie⟩ ino h) rfl rfl rfl rfl rfl M
def dropE (l:List Ent) (s:Bytes):List Ent:=l.filter fun e=>e.name != s
theorem loop117 {T:List AVal} {n:Node} {s:Bytes} (hn:n.ents.length≤100000) {k:List K} {R:List Ent→Option (AVal×AMem)}
  (hx:∀out v e,out.length≤300000→kr (acall tabT) [.cellA 6 3] 0 k ⟨.exit 0,[(2,.str s),(3,.ptr 0 0),(6,.ptr 1 0),(7,.ptr 2 0),(9,.slice (.own 3) (out.map eEnt)),(10,v),(21,e)],[.cells T,.cells zT,.cells (eNodeC n),.tick 3 out.length]⟩=R out)
  (hT:∀B M,T.map (AVal.back1 B M)=T) :
  ∀(l pre out:List Ent),n.ents=pre++l→out.length+l.length≤150000→exK (acall tabT) [.cellA 6 3] 0 k (.loop [2,3,6,7,9,10] lb117_0) [(2,.str s),(3,.ptr 0 0),(6,.ptr 1 0),(7,.ptr 2 0),(9,.slice (.own 3) (out.map eEnt)),(10,.int .i64 pre.length)] [.cells T,.cells zT,.cells (eNodeC n),.tick 3 out.length]=R (out++dropE l s):=by
 intro l
 induction l with
 |nil =>
  intro pre out h ho
  rw [exK_loop]
  simp only [E117,eNodeC,eEnts,lt_end h,EVN,EVT,EVD,↓reduceIte,Nat.reduceEqDiff,reduceCtorEq,Nat.reduceAdd,Nat.reduceLeDiff,ne_eq,Nat.reduceLT,Int.reduceLT,Int.reduceLE,Int.reduceNeg]
  refine (hx _ _ _ (by simp at ho; omega)).trans (by simp [dropE])
 |cons m r ih =>
  intro pre out h ho
  rw [exK_loop]
  have hlen:pre.length+1≤100000:=by rw [h] at hn; simp at hn; omega
  have hw:IntKind.i64.wrap ((pre.length:Int)+1)=((pre++[m]).length:Int):=by rw [wrapS (by omega) (by omega)]; exact step_len
  have hi:=fun out ho=>ih (pre++[m]) out (by rw [h]; simp) ho
  simp only [List.length_cons] at ho
  have r1:roomOk (out.length+1) 32=True:=room_ok (by omega) (by omega)
  simp only [E117,eNodeC,eEnts,lt_mid h,at_mid h,eEntC,hT,zT,EVN,EVT,EVD,↓reduceIte,Nat.reduceEqDiff,reduceCtorEq,Nat.reduceAdd,Nat.reduceLeDiff,ne_eq,Nat.reduceLT,Int.reduceLT,Int.reduceLE,Int.reduceNeg]
  repeat' (first|(refine fork_split (fun hb=>?_) (fun hb=>?_)<;>simp only [hb,EVN,E117,at_mid h,hw,r1,eEntC,hT,zT,EVT,EVD,↓reduceIte,Nat.reduceEqDiff,reduceCtorEq,Nat.reduceAdd,Nat.reduceLeDiff,ne_eq,Nat.reduceLT,Int.reduceLT,Int.reduceLE,Int.reduceNeg])|(refine guard_split (fun hb=>?_) (fun hb=>?_)<;>simp only [hb,EVN,E117,at_mid h,hw,r1,eEntC,hT,zT,EVT,EVD,↓reduceIte,Nat.reduceEqDiff,reduceCtorEq,Nat.reduceAdd,Nat.reduceLeDiff,ne_eq,Nat.reduceLT,Int.reduceLT,Int.reduceLE,Int.reduceNeg])|(refine opK_pick (fun hb=>?_) (fun hb=>?_)<;>simp only [hb,EVN,E117,at_mid h,hw,r1,eEntC,hT,zT,EVT,EVD,↓reduceIte,Nat.reduceEqDiff,reduceCtorEq,Nat.reduceAdd,Nat.reduceLeDiff,ne_eq,Nat.reduceLT,Int.reduceLT,Int.reduceLE,Int.reduceNeg]))
  all_goals first
   |(refine Eq.trans ?_ ((hi (out++[m]) (by simp; omega)).trans ?_)
     ·simp only [List.map_append,List.map_cons,List.map_nil,List.length_append,List.length_cons,List.length_nil]; rfl
     ·clear hi ih hx hw h hT; simp_all[dropE]; done)
   |(refine Eq.trans ?_ ((hi out (by omega)).trans ?_)
     ·simp only [List.map_append,List.map_cons,List.map_nil,List.length_append,List.length_cons,List.length_nil]; rfl
     ·clear hi ih hx hw h hT; simp_all[dropE]; done)
def leftN (nodes:List Node) (ino:Int) (s:Bytes):List Node:=withN nodes { (find nodes ino).getD Node.zero with ents:=dropE ((find nodes ino).getD Node.zero).ents s }
theorem find_ents {t:Tree} (hs:Small t) (ino:Int):((find t.nodes ino).getD Node.zero).ents.length≤100000:=by
 cases h:find t.nodes ino with
 |none=>simp [Node.zero]
 |some n=>exact hs.ents n (find_mem h).1
theorem c117 (t:Tree) (ino:Int) (s:Bytes) (ht:Small t):acall tabT 117 [eTree t,.int .i64 ino,.str s] []=some (eTree ⟨leftN t.nodes ino s,t.next,t.cookie⟩,[]):=by
 refine acall_ex rfl rfl rfl ?_
 have hd:=find_ents ht ino
 unfold leftN
 simp only [fn117,E117,eTree,eTreeC,k114,ht.nodes,eNode,EVN,EVT,EVD,↓reduceIte,Nat.reduceEqDiff,reduceCtorEq,Nat.reduceAdd,Nat.reduceLeDiff,ne_eq,Nat.reduceLT,Int.reduceLT,Int.reduceLE,Int.reduceNeg]
 generalize (find t.nodes ino).getD Node.zero=n at hd ⊢
 simp only [E117,eNodeC,EVN,EVT,EVD,↓reduceIte,Nat.reduceEqDiff,reduceCtorEq,Nat.reduceAdd,Nat.reduceLeDiff,ne_eq,Nat.reduceLT,Int.reduceLT,Int.reduceLE,Int.reduceNeg]
 refine (loop117 (R:=fun out=>some (eTree ⟨withN t.nodes { n with ents:=out },t.next,t.cookie⟩,[])) hd (fun out v e ho=>?_) (fun B M=>by simp only [E117,EVN,EVT,EVD,↓reduceIte,Nat.reduceEqDiff,reduceCtorEq,Nat.reduceAdd,Nat.reduceLeDiff,ne_eq,Nat.reduceLT,Int.reduceLT,Int.reduceLE,Int.reduceNeg]) n.ents [] [] rfl (by simp; omega)).trans (by simp [eTree,eTreeC])
 simp only [E117,zT,eNodeC,k113,ht.nodes,EVN,EVT,EVD,↓reduceIte,Nat.reduceEqDiff,reduceCtorEq,Nat.reduceAdd,Nat.reduceLeDiff,ne_eq,Nat.reduceLT,Int.reduceLT,Int.reduceLE,Int.reduceNeg]
 simp [eTree,eTreeC]
end Go.Proofs.YtannopdcbocngaaGreatDoor
