import Derived.Laws.RangeString
import Derived.RangeFuncBox
import Derived.RangeFuncFrom
import Derived.RangeFuncLeaves
import Derived.Shelf.Abstract
import Derived.WalkKit
import Derived.OwnWalkIn
import Derived.TacticsInMore
import Derived.LoopNIn
import Derived.LoopIn
import Derived.Maps.AppendAt
import Derived.RangeFuncNested
import Derived.Test.YtannopdcbocngaaGreatDoorLwD
set_option linter.unusedSimpArgs false
set_option linter.unusedVariables false
set_option linter.unusedSectionVars false
namespace Go.Proofs.YtannopdcbocngaaGreatDoor
open Go Go.Abs
attribute [local irreducible] exK opsK opK gK forkK kr acall callOp owhen obind
theorem k117 (nodes:List Node) (next cookie ino:Int) (s:Bytes) (ht:Small ⟨nodes,next,cookie⟩) (M:AMem):callOp (acall tabT) 117 [.agg [eNodes nodes,.int .i64 next,.int .i64 cookie],.int .i64 ino,.str s] M =
  some (.agg [eNodes (leftN nodes ino s),.int .i64 next,.int .i64 cookie],M):=callOp0 (c117 ⟨nodes,next,cookie⟩ ino s ht) rfl rfl rfl rfl rfl M
abbrev w64 (n:Int):Int:=IntKind.i64.wrap n
def gtB (a b:Bytes):Bool := !(strLt a b||a==b)
def insL (e:Ent):List Ent→List Ent→Bool→List Ent×Bool
 | [],out,done=>(out,done)
 |m::r,out,done=>insL e r ((if (!done&&gtB m.name e.name)=true then out++[e] else out)++[m]) (done||gtB m.name e.name)
def insE (l:List Ent) (e:Ent):List Ent:=(insL e l [] false).1++(if (insL e l [] false).2=true then [] else [e])
theorem loop112 {T:List AVal} {n:Node} {e:Ent} (hn:n.ents.length≤100000) {k:List K} {R:List Ent→Bool→Option (AVal×AMem)}
  (hx:∀out done v q,out.length≤300000→kr (acall tabT) [.cellA 8 3] 0 k ⟨.exit 0,[(2,.str e.name),(4,.ptr 0 0),(8,.ptr 1 0),(9,.ptr 2 0),(11,.ptr 3 0),(12,.slice (.own 4) (out.map eEnt)),(13,.bool done),(14,v),(30,q)],[.cells T,.cells zT,.cells (eNodeC n),.cells (eEntC e),.tick 3 out.length]⟩=R out done)
  (hT:∀B M,T.map (AVal.back1 B M)=T) :
  ∀(l pre out:List Ent) (done:Bool),n.ents=pre++l→out.length+2*l.length≤300000→exK (acall tabT) [.cellA 8 3] 0 k (.loop [2,4,8,9,11,12,13,14] lb112_0) [(2,.str e.name),(4,.ptr 0 0),(8,.ptr 1 0),(9,.ptr 2 0),(11,.ptr 3 0),(12,.slice (.own 4) (out.map eEnt)),(13,.bool done),(14,.int .i64 pre.length)] [.cells T,.cells zT,.cells (eNodeC n),.cells (eEntC e),.tick 3 out.length]=R (insL e l out done).1 (insL e l out done).2:=by
 intro l
 induction l with
 |nil =>
  intro pre out done h ho
  rw [exK_loop]
  simp only [E112,eNodeC,eEnts,lt_end h,EVN,EVT,EVD,↓reduceIte,Nat.reduceEqDiff,reduceCtorEq,Nat.reduceAdd,Nat.reduceLeDiff,ne_eq,Nat.reduceLT,Int.reduceLT,Int.reduceLE,Int.reduceNeg]
  exact hx _ _ _ _ (by simp at ho; omega)
 |cons m r ih =>
  intro pre out done h ho
  rw [exK_loop]
  have hlen:pre.length+1≤100000:=by rw [h] at hn; simp at hn; omega
  have hw:IntKind.i64.wrap ((pre.length:Int)+1)=((pre++[m]).length:Int):=by rw [wrapS (by omega) (by omega)]; exact step_len
  have hi:=fun out done ho=>ih (pre++[m]) out done (by rw [h]; simp) ho
  simp only [List.length_cons] at ho
  have r1:roomOk (out.length+1) 32=True:=room_ok (by omega) (by omega)
  have r2:roomOk (out.length+1+1) 32=True:=room_ok (by omega) (by omega)
  have hg:(!(strLt m.name e.name||m.name==e.name))=gtB m.name e.name:=rfl
  rw [insL]
  simp only [E112,hg,eNodeC,eEnts,lt_mid h,at_mid h,eEntC,hT,zT,EVN,EVT,EVD,↓reduceIte,Nat.reduceEqDiff,reduceCtorEq,Nat.reduceAdd,Nat.reduceLeDiff,ne_eq,Nat.reduceLT,Int.reduceLT,Int.reduceLE,Int.reduceNeg]
  repeat' (first|(refine fork_split (fun hb=>?_) (fun hb=>?_)<;>simp only [hb,EVN,E112,at_mid h,hw,r1,r2,eEntC,hT,zT,hg,EVT,EVD,↓reduceIte,Nat.reduceEqDiff,reduceCtorEq,Nat.reduceAdd,Nat.reduceLeDiff,ne_eq,Nat.reduceLT,Int.reduceLT,Int.reduceLE,Int.reduceNeg])|(refine guard_split (fun hb=>?_) (fun hb=>?_)<;>simp only [hb,EVN,E112,at_mid h,hw,r1,r2,eEntC,hT,zT,hg,EVT,EVD,↓reduceIte,Nat.reduceEqDiff,reduceCtorEq,Nat.reduceAdd,Nat.reduceLeDiff,ne_eq,Nat.reduceLT,Int.reduceLT,Int.reduceLE,Int.reduceNeg])|(refine opK_pick (fun hb=>?_) (fun hb=>?_)<;>simp only [hb,EVN,E112,at_mid h,hw,r1,r2,eEntC,hT,zT,hg,EVT,EVD,↓reduceIte,Nat.reduceEqDiff,reduceCtorEq,Nat.reduceAdd,Nat.reduceLeDiff,ne_eq,Nat.reduceLT,Int.reduceLT,Int.reduceLE,Int.reduceNeg]))
  all_goals try simp only [E112,at_mid h,hw,r1,r2,eEntC,hT,zT,hg,EVN,EVT,EVD,↓reduceIte,Nat.reduceEqDiff,reduceCtorEq,Nat.reduceAdd,Nat.reduceLeDiff,ne_eq,Nat.reduceLT,Int.reduceLT,Int.reduceLE,Int.reduceNeg]
  all_goals first
   |(refine Eq.trans ?_ ((hi (out++[e]++[m]) true (by simp; omega)).trans ?_)
     ·simp only [List.map_append,List.map_cons,List.map_nil,List.length_append,List.length_cons,List.length_nil]; rfl
     ·clear hi ih hx hw h hT hg; simp_all; done)
   |(refine Eq.trans ?_ ((hi (out++[m]) done (by simp; omega)).trans ?_)
     ·simp only [List.map_append,List.map_cons,List.map_nil,List.length_append,List.length_cons,List.length_nil]; rfl
     ·clear hi ih hx hw h hT hg; simp_all; done)
def enteredN (t:Tree) (ino:Int) (s:Bytes) (of:Int):Tree :=
 ⟨withN t.nodes { (find t.nodes ino).getD Node.zero with ents:=insE ((find t.nodes ino).getD Node.zero).ents ⟨s,of,t.cookie⟩ },t.next,w64 (t.cookie+1)⟩
theorem c112 (t:Tree) (ino:Int) (s:Bytes) (of:Int) (ht:Small t):acall tabT 112 [eTree t,.int .i64 ino,.str s,.int .i64 of] []=some (eTree (enteredN t ino s of),[]):=by
 refine acall_ex rfl rfl rfl ?_
 have hd:=find_ents ht ino
 unfold enteredN
 simp only [fn112,E112,eTree,eTreeC,k114,ht.nodes,eNode,EVN,EVT,EVD,↓reduceIte,Nat.reduceEqDiff,reduceCtorEq,Nat.reduceAdd,Nat.reduceLeDiff,ne_eq,Nat.reduceLT,Int.reduceLT,Int.reduceLE,Int.reduceNeg]
 generalize (find t.nodes ino).getD Node.zero=n at hd ⊢
 simp only [E112,eNodeC,EVN,EVT,EVD,↓reduceIte,Nat.reduceEqDiff,reduceCtorEq,Nat.reduceAdd,Nat.reduceLeDiff,ne_eq,Nat.reduceLT,Int.reduceLT,Int.reduceLE,Int.reduceNeg]
 refine (loop112 (e:=⟨s,of,t.cookie⟩) (R:=fun out done=>some (eTree ⟨withN t.nodes { n with ents:=out++(if done=true then [] else [⟨s,of,t.cookie⟩]) },t.next,w64 (t.cookie+1)⟩,[])) hd (fun out done v e ho=>?_) (fun B M=>by simp only [E112,EVN,EVT,EVD,↓reduceIte,Nat.reduceEqDiff,reduceCtorEq,Nat.reduceAdd,Nat.reduceLeDiff,ne_eq,Nat.reduceLT,Int.reduceLT,Int.reduceLE,Int.reduceNeg]) n.ents [] [] false rfl (by simp; omega)).trans (by simp [eTree,eTreeC,insE])
 have r1:roomOk (out.length+1) 32=True:=room_ok (by omega) (by omega)
 cases done
 ·simp only [E112,zT,eNodeC,eEntC,r1,map_ent,k113,ht.nodes,EVN,EVT,EVD,↓reduceIte,Nat.reduceEqDiff,reduceCtorEq,Nat.reduceAdd,Nat.reduceLeDiff,ne_eq,Nat.reduceLT,Int.reduceLT,Int.reduceLE,Int.reduceNeg]
  simp [eTree,eTreeC]
 ·simp only [E112,zT,eNodeC,eEntC,r1,k113,ht.nodes,EVN,EVT,EVD,↓reduceIte,Nat.reduceEqDiff,reduceCtorEq,Nat.reduceAdd,Nat.reduceLeDiff,ne_eq,Nat.reduceLT,Int.reduceLT,Int.reduceLE,Int.reduceNeg]
  simp [eTree,eTreeC]
theorem k112 (nodes:List Node) (next cookie ino:Int) (s:Bytes) (of:Int) (ht:Small ⟨nodes,next,cookie⟩) (M:AMem):callOp (acall tabT) 112 [.agg [eNodes nodes,.int .i64 next,.int .i64 cookie],.int .i64 ino,.str s,.int .i64 of] M =
  some (eTree (enteredN ⟨nodes,next,cookie⟩ ino s of),M):=callOp0 (c112 ⟨nodes,next,cookie⟩ ino s of ht) rfl rfl rfl rfl rfl M
def upOf (nodes:List Node) (ino:Int):Int:=((find nodes ino).getD Node.zero).up
def depthGo (nodes:List Node):Nat→Int→Nat→Nat
 |0,_,d=>d
 |m+1,ino,d=>if ino=1 then d else depthGo nodes m (upOf nodes ino) (d+1)
def depthN (nodes:List Node) (ino:Int):Nat:=depthGo nodes 201 ino 0
theorem loop123 {t:Tree} (ht:t.nodes.length≤100000) {k:List K} {R:Nat→Option (AVal×AMem)}
  (hx:∀(d:Nat) v q,kr (acall tabT) [.tmp 4] 0 k ⟨.exit 0,[(1,v),(2,.ptr 0 0),(5,.int .i64 d),(13,q)],[.cells (eTreeC t)]⟩=R d) :
  ∀(m:Nat) (ino:Int) (d:Nat),d+m=201→exK (acall tabT) [.tmp 4] 0 k (.loop [1,2,5] lb123_0) [(1,.int .i64 ino),(2,.ptr 0 0),(5,.int .i64 d)] [.cells (eTreeC t)]=R (depthGo t.nodes m ino d):=by
 intro m
 induction m with
 |zero =>
  intro ino d hd
  rw [exK_loop]
  have hd':((d:Int)≤200)=False:=by simp; omega
  simp only [E123,EVN,EVT,EVD,↓reduceIte,Nat.reduceEqDiff,reduceCtorEq,Nat.reduceAdd,Nat.reduceLeDiff,ne_eq,Nat.reduceLT,Int.reduceLT,Int.reduceLE,Int.reduceNeg]
  repeat' (first|(refine fork_split (fun hb=>?_) (fun hb=>?_)<;>simp only [hb,EVN,E123,hd',EVT,EVD,↓reduceIte,Nat.reduceEqDiff,reduceCtorEq,Nat.reduceAdd,Nat.reduceLeDiff,ne_eq,Nat.reduceLT,Int.reduceLT,Int.reduceLE,Int.reduceNeg])|(refine guard_split (fun hb=>?_) (fun hb=>?_)<;>simp only [hb,EVN,E123,hd',EVT,EVD,↓reduceIte,Nat.reduceEqDiff,reduceCtorEq,Nat.reduceAdd,Nat.reduceLeDiff,ne_eq,Nat.reduceLT,Int.reduceLT,Int.reduceLE,Int.reduceNeg])|(refine opK_pick (fun hb=>?_) (fun hb=>?_)<;>simp only [hb,EVN,E123,hd',EVT,EVD,↓reduceIte,Nat.reduceEqDiff,reduceCtorEq,Nat.reduceAdd,Nat.reduceLeDiff,ne_eq,Nat.reduceLT,Int.reduceLT,Int.reduceLE,Int.reduceNeg]))
  all_goals exact hx _ _ _
 |succ m ih =>
  intro ino d hd
  rw [exK_loop]
  have hd':((d:Int)≤200)=True:=by simp; omega
  have hw:IntKind.i64.wrap ((d:Int)+1)=((d+1:Nat):Int):=by rw [wrapS (by omega) (by omega)]; rfl
  have hi:=fun ino=>ih ino (d+1) (by omega)
  rw [depthGo]
  simp only [E123,EVN,EVT,EVD,↓reduceIte,Nat.reduceEqDiff,reduceCtorEq,Nat.reduceAdd,Nat.reduceLeDiff,ne_eq,Nat.reduceLT,Int.reduceLT,Int.reduceLE,Int.reduceNeg]
  refine guard_split (fun hb=>?_) (fun hb=>?_)
  ·simp only [E123,hb,hd',hw,eTreeC,k114,ht,eNode,eNodeC,EVN,EVT,EVD,↓reduceIte,Nat.reduceEqDiff,reduceCtorEq,Nat.reduceAdd,Nat.reduceLeDiff,ne_eq,Nat.reduceLT,Int.reduceLT,Int.reduceLE,Int.reduceNeg]
   have h1:¬ino=1:=by simpa using hb
   rw [if_neg h1]
   exact hi _
  ·simp only [E123,hb,hd',hw,eTreeC,k114,ht,eNode,eNodeC,EVN,EVT,EVD,↓reduceIte,Nat.reduceEqDiff,reduceCtorEq,Nat.reduceAdd,Nat.reduceLeDiff,ne_eq,Nat.reduceLT,Int.reduceLT,Int.reduceLE,Int.reduceNeg]
   have h1:ino=1:=by simpa using hb
   rw [if_pos h1]
   exact hx _ _ _
theorem c123 (t:Tree) (ino:Int) (ht:t.nodes.length≤100000):acall tabT 123 [eTree t,.int .i64 ino] []=some (.int .i64 (depthN t.nodes ino),[]):=by
 refine acall_ex rfl rfl rfl ?_
 simp only [fn123,E123,eTree,EVN,EVT,EVD,↓reduceIte,Nat.reduceEqDiff,reduceCtorEq,Nat.reduceAdd,Nat.reduceLeDiff,ne_eq,Nat.reduceLT,Int.reduceLT,Int.reduceLE,Int.reduceNeg]
 exact loop123 (R:=fun (d:Nat)=>some (.int .i64 d,[])) ht (fun d v q=>by simp only [E123,EVN,EVT,EVD,↓reduceIte,Nat.reduceEqDiff,reduceCtorEq,Nat.reduceAdd,Nat.reduceLeDiff,ne_eq,Nat.reduceLT,Int.reduceLT,Int.reduceLE,Int.reduceNeg]) 201 ino 0 rfl
theorem k123 (nodes:List Node) (next cookie ino:Int) (h:nodes.length≤100000) (M:AMem):callOp (acall tabT) 123 [.agg [eNodes nodes,.int .i64 next,.int .i64 cookie],.int .i64 ino] M=some (.int .i64 (depthN nodes ino),M) :=
 callOp0 (c123 ⟨nodes,next,cookie⟩ ino h) rfl rfl rfl rfl rfl M
def belowGo (nodes:List Node) (of:Int):Nat→Int→Bool
 |0,_=>false
 |m+1,ino=>if ino=of then true else if ino=1 then false else belowGo nodes of m (upOf nodes ino)
def belowN (nodes:List Node) (ino of:Int):Bool:=belowGo nodes of (nodes.length+1) ino
theorem loop121 {t:Tree} {of:Int} (ht:t.nodes.length≤100000) {k:List K} {R:Bool→Option (AVal×AMem)}
  (hx:∀e,kr (acall tabT) [.tmp 6] 0 k ⟨.exit 0,e,[.cells (eTreeC t)]⟩=R false) (hr:∀b,kr (acall tabT) [.tmp 6] 0 k ⟨.ret,[(6,.bool b)],[.cells (eTreeC t)]⟩=R b) :
  ∀(m:Nat) (ino:Int) (d:Nat),d+m=t.nodes.length+1→exK (acall tabT) [.tmp 6] 0 k (.loop [1,2,3,7] lb121_0) [(1,.int .i64 ino),(2,.int .i64 of),(3,.ptr 0 0),(7,.int .i64 d)] [.cells (eTreeC t)]=R (belowGo t.nodes of m ino):=by
 intro m
 induction m with
 |zero =>
  intro ino d hd
  rw [exK_loop]
  have hd':((d:Int)≤(t.nodes.length:Int))=False:=by simp; omega
  simp only [E121,eTreeC,eNodes,hd',EVN,EVT,EVD,↓reduceIte,Nat.reduceEqDiff,reduceCtorEq,Nat.reduceAdd,Nat.reduceLeDiff,ne_eq,Nat.reduceLT,Int.reduceLT,Int.reduceLE,Int.reduceNeg]
  exact hx _
 |succ m ih =>
  intro ino d hd
  rw [exK_loop]
  have hd':((d:Int)≤(t.nodes.length:Int))=True:=by simp; omega
  have hw:IntKind.i64.wrap ((d:Int)+1)=((d+1:Nat):Int):=by rw [wrapS (by omega) (by omega)]; rfl
  have hi:=fun ino=>ih ino (d+1) (by omega)
  rw [belowGo]
  simp only [E121,eTreeC,eNodes,hd',EVN,EVT,EVD,↓reduceIte,Nat.reduceEqDiff,reduceCtorEq,Nat.reduceAdd,Nat.reduceLeDiff,ne_eq,Nat.reduceLT,Int.reduceLT,Int.reduceLE,Int.reduceNeg]
  refine fork_split (fun hb=>?_) (fun hb=>?_)
  ·have h1:ino=of:=by simpa using hb
   simp only [E121,EVN,EVT,EVD,↓reduceIte,Nat.reduceEqDiff,reduceCtorEq,Nat.reduceAdd,Nat.reduceLeDiff,ne_eq,Nat.reduceLT,Int.reduceLT,Int.reduceLE,Int.reduceNeg]
   rw [if_pos h1]
   exact hr _
  ·have h1:¬ino=of:=by simpa using hb
   simp only [E121,EVN,EVT,EVD,↓reduceIte,Nat.reduceEqDiff,reduceCtorEq,Nat.reduceAdd,Nat.reduceLeDiff,ne_eq,Nat.reduceLT,Int.reduceLT,Int.reduceLE,Int.reduceNeg]
   rw [if_neg h1]
   refine fork_split (fun hb=>?_) (fun hb=>?_)
   ·have h1:ino=1:=by simpa using hb
    simp only [E121,EVN,EVT,EVD,↓reduceIte,Nat.reduceEqDiff,reduceCtorEq,Nat.reduceAdd,Nat.reduceLeDiff,ne_eq,Nat.reduceLT,Int.reduceLT,Int.reduceLE,Int.reduceNeg]
    rw [if_pos h1]
    exact hr _
   ·have h1:¬ino=1:=by simpa using hb
    simp only [E121,hw,k114,ht,eNode,eNodeC,EVN,EVT,EVD,↓reduceIte,Nat.reduceEqDiff,reduceCtorEq,Nat.reduceAdd,Nat.reduceLeDiff,ne_eq,Nat.reduceLT,Int.reduceLT,Int.reduceLE,Int.reduceNeg]
    rw [if_neg h1]
    exact hi _
theorem c121 (t:Tree) (ino of:Int) (ht:t.nodes.length≤100000):acall tabT 121 [eTree t,.int .i64 ino,.int .i64 of] []=some (.bool (belowN t.nodes ino of),[]):=by
 refine acall_ex rfl rfl rfl ?_
 simp only [fn121,E121,eTree,EVN,EVT,EVD,↓reduceIte,Nat.reduceEqDiff,reduceCtorEq,Nat.reduceAdd,Nat.reduceLeDiff,ne_eq,Nat.reduceLT,Int.reduceLT,Int.reduceLE,Int.reduceNeg]
 exact loop121 (R:=fun b=>some (.bool b,[])) ht (fun e=>by simp only [E121,EVN,EVT,EVD,↓reduceIte,Nat.reduceEqDiff,reduceCtorEq,Nat.reduceAdd,Nat.reduceLeDiff,ne_eq,Nat.reduceLT,Int.reduceLT,Int.reduceLE,Int.reduceNeg]) (fun b=>by simp only [E121,EVN,EVT,EVD,↓reduceIte,Nat.reduceEqDiff,reduceCtorEq,Nat.reduceAdd,Nat.reduceLeDiff,ne_eq,Nat.reduceLT,Int.reduceLT,Int.reduceLE,Int.reduceNeg]) (t.nodes.length+1) ino 0 (by omega)
theorem k121 (nodes:List Node) (next cookie ino of:Int) (h:nodes.length≤100000) (M:AMem):callOp (acall tabT) 121 [.agg [eNodes nodes,.int .i64 next,.int .i64 cookie],.int .i64 ino,.int .i64 of] M=some (.bool (belowN nodes ino of),M) :=
 callOp0 (c121 ⟨nodes,next,cookie⟩ ino of h) rfl rfl rfl rfl rfl M
end Go.Proofs.YtannopdcbocngaaGreatDoor
namespace Go.Proofs.YtannopdcbocngaaGreatDoor
open Go Go.Abs
attribute [local irreducible] exK opsK opK gK forkK kr acall callOp owhen obind
structure Sz (b:Nat) (t:Tree):Prop where
 nodes:t.nodes.length≤b
 ents:∀n,n∈t.nodes→n.ents.length≤b
 data:∀n,n∈t.nodes→n.data.length≤100000
theorem Sz.small {b:Nat} {t:Tree} (h:Sz b t) (hb:b≤100000):Small t:=⟨Nat.le_trans h.nodes hb,fun n hn=>Nat.le_trans (h.ents n hn) hb,h.data⟩
theorem withL_len (n:Node):∀(l out:List Node) (d:Bool),(withL n l out d).1.length+(if (withL n l out d).2=true then 0 else 1)≤out.length+l.length+(if d=true then 0 else 1)
 | [],out,d=>by simp only [withL,List.length_nil,Nat.add_zero]; exact Nat.le_refl _
 |m::r,out,d=>by
  rw [withL]
  refine Nat.le_trans (withL_len n r _ _) ?_
  cases d<;>by_cases h1:n.ino≤m.ino<;>by_cases h2:m.ino=n.ino<;>simp [h1,h2]<;>omega
theorem withL_mem (n:Node):∀(l out:List Node) (d:Bool) (x:Node),x∈(withL n l out d).1→x=n∨x∈out∨x∈l
 | [],out,d,x,h=>by simp [withL] at h; exact .inr (.inl h)
 |m::r,out,d,x,h=>by
  rw [withL] at h
  rcases withL_mem n r _ _ x h with h|h|h
  ·exact .inl h
  ·rcases List.mem_append.1 h with h|h
   ·split at h
    ·rcases List.mem_append.1 h with h|h
     ·exact .inr (.inl h)
     ·exact .inl (by simpa using h)
    ·exact .inr (.inl h)
   ·split at h
    ·cases h
    ·exact .inr (.inr (by simp at h; simp [h]))
  ·exact .inr (.inr (List.mem_cons_of_mem _ h))
theorem withN_len (nodes:List Node) (n:Node):(withN nodes n).length≤nodes.length+1:=by
 have:=withL_len n nodes [] false
 unfold withN
 split at this<;>simp_all
theorem withN_mem {nodes:List Node} {n x:Node} (h:x∈withN nodes n):x=n∨x∈nodes:=by
 unfold withN at h
 rcases List.mem_append.1 h with h|h
 ·rcases withL_mem n nodes [] false x h with h|h|h
  ·exact .inl h
  ·cases h
  ·exact .inr h
 ·split at h
  ·cases h
  ·exact .inl (by simpa using h)
theorem Sz.with {b:Nat} {t:Tree} (h:Sz b t) {n:Node} (h1:n.ents.length≤b+1) (h2:n.data.length≤100000) (next cookie:Int):Sz (b+1) ⟨withN t.nodes n,next,cookie⟩ :=
 ⟨Nat.le_trans (withN_len _ _) (by have:=h.nodes; simp; omega),fun x hx=>by
  rcases withN_mem hx with rfl|hx
  ·exact h1
  ·exact Nat.le_succ_of_le (h.ents x hx),fun x hx=>by
  rcases withN_mem hx with rfl|hx
  ·exact h2
  ·exact h.data x hx⟩
theorem Sz.up {b c:Nat} {t:Tree} (h:Sz b t) (hbc:b≤c):Sz c t:=⟨Nat.le_trans h.nodes hbc,fun n hn=>Nat.le_trans (h.ents n hn) hbc,h.data⟩
theorem Sz.find {b:Nat} {t:Tree} (h:Sz b t) (ino:Int):((find t.nodes ino).getD Node.zero).ents.length≤b∧((find t.nodes ino).getD Node.zero).data.length≤100000:=by
 cases hf:Go.Proofs.YtannopdcbocngaaGreatDoor.find t.nodes ino with
 |none=>simp [Node.zero]
 |some n=>exact ⟨h.ents n (find_mem hf).1,h.data n (find_mem hf).1⟩
theorem dropE_len (l:List Ent) (s:Bytes):(dropE l s).length≤l.length:=List.length_filter_le _ _
theorem Sz.left {b:Nat} {t:Tree} (h:Sz b t) (ino:Int) (s:Bytes) (next cookie:Int):Sz (b+1) ⟨leftN t.nodes ino s,next,cookie⟩ :=
 h.with (n:={ (Go.Proofs.YtannopdcbocngaaGreatDoor.find t.nodes ino).getD Node.zero with ents:=dropE ((Go.Proofs.YtannopdcbocngaaGreatDoor.find t.nodes ino).getD Node.zero).ents s }) (Nat.le_trans (dropE_len _ _) (Nat.le_succ_of_le (h.find ino).1)) (h.find ino).2 next cookie
theorem Sz.without {b:Nat} {t:Tree} (h:Sz b t) (ino:Int) (next cookie:Int):Sz b ⟨withoutN t.nodes ino,next,cookie⟩ :=
 ⟨Nat.le_trans (List.length_filter_le _ _) h.nodes,fun x hx=>h.ents x ((List.mem_filter.1 hx).1),fun x hx=>h.data x ((List.mem_filter.1 hx).1)⟩
def fullN (t:Tree) (n:Node):Bool:=decide ((64:Int)≤n.ents.length)||(decide ((12:Int)≤depthN t.nodes n.ino)||decide ((1099511627776:Int)≤t.cookie))
theorem c155 (t:Tree) (n:Node) (ht:Small t):acall tabT 155 [eTree t,eNode n] []=some (.bool (fullN t n),[]):=by
 refine acall_ex rfl rfl rfl ?_
 simp only [fn155,E155,eTree,eTreeC,eNode,eNodeC,k123,ht.nodes,EVN,EVT,EVD,↓reduceIte,Nat.reduceEqDiff,reduceCtorEq,Nat.reduceAdd,Nat.reduceLeDiff,ne_eq,Nat.reduceLT,Int.reduceLT,Int.reduceLE,Int.reduceNeg]
 unfold fullN
 repeat' (first|(refine fork_split (fun hb=>?_) (fun hb=>?_)<;>simp only [hb,EVN,E155,k123,ht.nodes,EVT,EVD,↓reduceIte,Nat.reduceEqDiff,reduceCtorEq,Nat.reduceAdd,Nat.reduceLeDiff,ne_eq,Nat.reduceLT,Int.reduceLT,Int.reduceLE,Int.reduceNeg])|(refine guard_split (fun hb=>?_) (fun hb=>?_)<;>simp only [hb,EVN,E155,k123,ht.nodes,EVT,EVD,↓reduceIte,Nat.reduceEqDiff,reduceCtorEq,Nat.reduceAdd,Nat.reduceLeDiff,ne_eq,Nat.reduceLT,Int.reduceLT,Int.reduceLE,Int.reduceNeg])|(refine opK_pick (fun hb=>?_) (fun hb=>?_)<;>simp only [hb,EVN,E155,k123,ht.nodes,EVT,EVD,↓reduceIte,Nat.reduceEqDiff,reduceCtorEq,Nat.reduceAdd,Nat.reduceLeDiff,ne_eq,Nat.reduceLT,Int.reduceLT,Int.reduceLE,Int.reduceNeg]))
 all_goals simp_all
theorem k155 (nodes:List Node) (next cookie a b c:Int) (d:Bytes) (e:List Ent) (u:Int) (h:Small ⟨nodes,next,cookie⟩) (M:AMem):callOp (acall tabT) 155 [.agg [eNodes nodes,.int .i64 next,.int .i64 cookie],.agg [.int .i64 a,.int .i64 b,.int .i64 c,eData d,eEnts e,.int .i64 u]] M =
  some (.bool (fullN ⟨nodes,next,cookie⟩ ⟨a,b,c,d,e,u⟩),M):=callOp0 (c155 ⟨nodes,next,cookie⟩ ⟨a,b,c,d,e,u⟩ h) rfl rfl rfl rfl rfl M
def enterErr (t:Tree) (ino:Int) (s:Bytes):Int :=
 if (dirN t.nodes ino).2≠0 then (dirN t.nodes ino).2 else if nameOk s=false then 60 else if (findE (dirN t.nodes ino).1.ents s).isSome=true then 71 else if fullN t (dirN t.nodes ino).1=true then 76 else 0
theorem c111 (t:Tree) (ino:Int) (s:Bytes) (ht:Small t) (hs:s.length≤100000):acall tabT 111 [eTree t,.int .i64 ino,.str s] []=some (.int .i64 (enterErr t ino s),[]):=by
 refine acall_ex rfl rfl rfl ?_
 have hd:=dirN_ents ht ino
 have ht':Small ⟨t.nodes,t.next,t.cookie⟩:=ht
 simp only [fn111,E111,eTree,eTreeC,k118,ht.nodes,eNode,eNodeC,EVN,EVT,EVD,↓reduceIte,Nat.reduceEqDiff,reduceCtorEq,Nat.reduceAdd,Nat.reduceLeDiff,ne_eq,Nat.reduceLT,Int.reduceLT,Int.reduceLE,Int.reduceNeg]
 unfold enterErr
 refine fork_split (fun hb=>?_) (fun hb=>?_)
 ·simp only [E111,EVN,EVT,EVD,↓reduceIte,Nat.reduceEqDiff,reduceCtorEq,Nat.reduceAdd,Nat.reduceLeDiff,ne_eq,Nat.reduceLT,Int.reduceLT,Int.reduceLE,Int.reduceNeg]
  simp_all
 ·simp only [E111,k119,hs,EVN,EVT,EVD,↓reduceIte,Nat.reduceEqDiff,reduceCtorEq,Nat.reduceAdd,Nat.reduceLeDiff,ne_eq,Nat.reduceLT,Int.reduceLT,Int.reduceLE,Int.reduceNeg]
  refine fork_split (fun hb'=>?_) (fun hb'=>?_)
  ·simp only [E111,EVN,EVT,EVD,↓reduceIte,Nat.reduceEqDiff,reduceCtorEq,Nat.reduceAdd,Nat.reduceLeDiff,ne_eq,Nat.reduceLT,Int.reduceLT,Int.reduceLE,Int.reduceNeg]
   simp_all
  ·simp only [E111,k120,hd,EVN,EVT,EVD,↓reduceIte,Nat.reduceEqDiff,reduceCtorEq,Nat.reduceAdd,Nat.reduceLeDiff,ne_eq,Nat.reduceLT,Int.reduceLT,Int.reduceLE,Int.reduceNeg]
   rcases namedGo_spec s (dirN t.nodes ino).1.ents 0 with ⟨h1,h2⟩|⟨m,n,h1,h2,h3⟩
   ·rw [h2]
    simp only [E111,k155,ht',EVN,EVT,EVD,↓reduceIte,Nat.reduceEqDiff,reduceCtorEq,Nat.reduceAdd,Nat.reduceLeDiff,ne_eq,Nat.reduceLT,Int.reduceLT,Int.reduceLE,Int.reduceNeg]
    refine fork_split (fun hb''=>?_) (fun hb''=>?_)
    ·simp only [E111,EVN,EVT,EVD,↓reduceIte,Nat.reduceEqDiff,reduceCtorEq,Nat.reduceAdd,Nat.reduceLeDiff,ne_eq,Nat.reduceLT,Int.reduceLT,Int.reduceLE,Int.reduceNeg]
     simp_all
    ·simp only [E111,EVN,EVT,EVD,↓reduceIte,Nat.reduceEqDiff,reduceCtorEq,Nat.reduceAdd,Nat.reduceLeDiff,ne_eq,Nat.reduceLT,Int.reduceLT,Int.reduceLE,Int.reduceNeg]
     simp_all
   ·rw [h3]
    simp only [E111,Int.natCast_nonneg,EVN,EVT,EVD,↓reduceIte,Nat.reduceEqDiff,reduceCtorEq,Nat.reduceAdd,Nat.reduceLeDiff,ne_eq,Nat.reduceLT,Int.reduceLT,Int.reduceLE,Int.reduceNeg]
    simp_all
theorem k111 (nodes:List Node) (next cookie ino:Int) (s:Bytes) (ht:Small ⟨nodes,next,cookie⟩) (hs:s.length≤100000) (M:AMem):callOp (acall tabT) 111 [.agg [eNodes nodes,.int .i64 next,.int .i64 cookie],.int .i64 ino,.str s] M =
  some (.int .i64 (enterErr ⟨nodes,next,cookie⟩ ino s),M):=callOp0 (c111 ⟨nodes,next,cookie⟩ ino s ht hs) rfl rfl rfl rfl rfl M
end Go.Proofs.YtannopdcbocngaaGreatDoor
namespace Go.Proofs.YtannopdcbocngaaGreatDoor
open Go Go.Abs
attribute [local irreducible] exK opsK opK gK forkK kr acall callOp owhen obind
def addN (t:Tree) (ino:Int) (s:Bytes) (kind:Int):Tree×Int×Int :=
 if (kind != 1&&kind != 2)=true then (t,0,1) else if (enterErr t ino s != 0)=true then (t,0,enterErr t ino s) else
 if (decide ((200:Int)≤t.nodes.length)||decide ((1099511627776:Int)≤t.next))=true then (t,0,76) else
 (enteredN ⟨withN t.nodes ⟨t.next,kind,1,[],[],if (kind==2)=true then ino else 0⟩,w64 (t.next+1),t.cookie⟩ ino s t.next,t.next,0)
theorem k113z (nodes:List Node) (next cookie a b c u:Int) (h:nodes.length≤100000) (M:AMem):callOp (acall tabT) 113 [.agg [eNodes nodes,.int .i64 next,.int .i64 cookie],.agg [.int .i64 a,.int .i64 b,.int .i64 c,.slice .sh [],.slice .sh [],.int .i64 u]] M =
  some (.agg [eNodes (withN nodes ⟨a,b,c,[],[],u⟩),.int .i64 next,.int .i64 cookie],M):=k113 nodes next cookie a b c [] [] u h M
theorem small_add {t:Tree} (hz:Sz 1000 t) (k u next cookie a c:Int):Small ⟨withN t.nodes ⟨a,k,c,[],[],u⟩,next,cookie⟩:=(hz.with (by simp) (by simp) next cookie).small (by omega)
set_option maxHeartbeats 1000000 in
theorem c81 (t:Tree) (ino:Int) (s:Bytes) (kind:Int) (hz:Sz 1000 t) (hs:s.length≤100000):acall tabT 81 [eTree t,.int .i64 ino,.str s,.int .i64 kind] []=some (.tuple [eTree (addN t ino s kind).1,.int .i64 (addN t ino s kind).2.1,.int .i64 (addN t ino s kind).2.2],[]):=by
 obtain ⟨nodes,next,cookie⟩:=t
 refine acall_ex rfl rfl rfl ?_
 have ht:Small ⟨nodes,next,cookie⟩:=hz.small (by omega)
 have hn:nodes.length≤100000:=ht.nodes
 have hw:=fun k u next' cookie' a c=>small_add hz k u next' cookie' a c
 simp only [fn81,E81,eTree,eTreeC,k111,ht,hs,EVN,EVT,EVD,↓reduceIte,Nat.reduceEqDiff,reduceCtorEq,Nat.reduceAdd,Nat.reduceLeDiff,ne_eq,Nat.reduceLT,Int.reduceLT,Int.reduceLE,Int.reduceNeg]
 repeat' (first|(refine fork_split (fun hb=>?_) (fun hb=>?_)<;>simp only [hb,EVN,E81,k111,ht,hs,hn,k113z,k112,hw,eTree,eTreeC,EVT,EVD,↓reduceIte,Nat.reduceEqDiff,reduceCtorEq,Nat.reduceAdd,Nat.reduceLeDiff,ne_eq,Nat.reduceLT,Int.reduceLT,Int.reduceLE,Int.reduceNeg])|(refine guard_split (fun hb=>?_) (fun hb=>?_)<;>simp only [hb,EVN,E81,k111,ht,hs,hn,k113z,k112,hw,eTree,eTreeC,EVT,EVD,↓reduceIte,Nat.reduceEqDiff,reduceCtorEq,Nat.reduceAdd,Nat.reduceLeDiff,ne_eq,Nat.reduceLT,Int.reduceLT,Int.reduceLE,Int.reduceNeg])|(refine opK_pick (fun hb=>?_) (fun hb=>?_)<;>simp only [hb,EVN,E81,k111,ht,hs,hn,k113z,k112,hw,eTree,eTreeC,EVT,EVD,↓reduceIte,Nat.reduceEqDiff,reduceCtorEq,Nat.reduceAdd,Nat.reduceLeDiff,ne_eq,Nat.reduceLT,Int.reduceLT,Int.reduceLE,Int.reduceNeg]))
 all_goals (clear hw; simp_all only [addN,eTree,eTreeC,BBT,↓reduceIte,reduceCtorEq,bne_self_eq_false]; done)
end Go.Proofs.YtannopdcbocngaaGreatDoor
namespace Go.Proofs.YtannopdcbocngaaGreatDoor
open Go Go.Abs
attribute [local irreducible] exK opsK opK gK forkK kr acall callOp owhen obind
theorem k81 (nodes:List Node) (next cookie ino:Int) (s:Bytes) (kind:Int) (hz:Sz 1000 ⟨nodes,next,cookie⟩) (hs:s.length≤100000) (M:AMem):callOp (acall tabT) 81 [.agg [eNodes nodes,.int .i64 next,.int .i64 cookie],.int .i64 ino,.str s,.int .i64 kind] M =
  some (.tuple [eTree (addN ⟨nodes,next,cookie⟩ ino s kind).1,.int .i64 (addN ⟨nodes,next,cookie⟩ ino s kind).2.1,.int .i64 (addN ⟨nodes,next,cookie⟩ ino s kind).2.2],M):=callOp0 (c81 ⟨nodes,next,cookie⟩ ino s kind hz hs) rfl rfl rfl rfl rfl M
abbrev nodeN (nodes:List Node) (ino:Int):Node:=(find nodes ino).getD Node.zero
def lnN (t:Tree) (ino to:Int) (s:Bytes):Tree×Int :=
 if (!(find t.nodes ino).isSome||((nodeN t.nodes ino).kind==1&&(nodeN t.nodes ino).links==0))=true then (t,70) else if ((nodeN t.nodes ino).kind==2)=true then (t,72) else
 if (enterErr t to s != 0)=true then (t,enterErr t to s) else
 (enteredN ⟨withN t.nodes { nodeN t.nodes ino with links:=w64 ((nodeN t.nodes ino).links+1) },t.next,t.cookie⟩ to s ino,0)
theorem c82 (t:Tree) (ino to:Int) (s:Bytes) (hz:Sz 1000 t) (hs:s.length≤100000):acall tabT 82 [eTree t,.int .i64 ino,.int .i64 to,.str s] []=some (.tuple [eTree (lnN t ino to s).1,.int .i64 (lnN t ino to s).2],[]):=by
 obtain ⟨nodes,next,cookie⟩:=t
 refine acall_ex rfl rfl rfl ?_
 have ht:Small ⟨nodes,next,cookie⟩:=hz.small (by omega)
 have hn:nodes.length≤100000:=ht.nodes
 have hf:=hz.find ino
 have hw':∀l,Small ⟨withN nodes { nodeN nodes ino with links:=l },next,cookie⟩:=fun l=>(hz.with (n:={ nodeN nodes ino with links:=l }) (Nat.le_succ_of_le hf.1) hf.2 next cookie).small (by omega)
 simp only [fn82,E82,eTree,eTreeC,k114,hn,eNode,eNodeC,EVN,EVT,EVD,↓reduceIte,Nat.reduceEqDiff,reduceCtorEq,Nat.reduceAdd,Nat.reduceLeDiff,ne_eq,Nat.reduceLT,Int.reduceLT,Int.reduceLE,Int.reduceNeg]
 repeat' (first|(refine fork_split (fun hb=>?_) (fun hb=>?_)<;>simp only [hb,EVN,E82,k111,ht,hs,hn,k113,k112,hw',eTree,eTreeC,EVT,EVD,↓reduceIte,Nat.reduceEqDiff,reduceCtorEq,Nat.reduceAdd,Nat.reduceLeDiff,ne_eq,Nat.reduceLT,Int.reduceLT,Int.reduceLE,Int.reduceNeg])|(refine guard_split (fun hb=>?_) (fun hb=>?_)<;>simp only [hb,EVN,E82,k111,ht,hs,hn,k113,k112,hw',eTree,eTreeC,EVT,EVD,↓reduceIte,Nat.reduceEqDiff,reduceCtorEq,Nat.reduceAdd,Nat.reduceLeDiff,ne_eq,Nat.reduceLT,Int.reduceLT,Int.reduceLE,Int.reduceNeg])|(refine opK_pick (fun hb=>?_) (fun hb=>?_)<;>simp only [hb,EVN,E82,k111,ht,hs,hn,k113,k112,hw',eTree,eTreeC,EVT,EVD,↓reduceIte,Nat.reduceEqDiff,reduceCtorEq,Nat.reduceAdd,Nat.reduceLeDiff,ne_eq,Nat.reduceLT,Int.reduceLT,Int.reduceLE,Int.reduceNeg]))
 all_goals (clear hw' hf; simp_all only [lnN,eTree,eTreeC,BBT,↓reduceIte,reduceCtorEq,bne_self_eq_false]; done)
theorem k82 (nodes:List Node) (next cookie ino to:Int) (s:Bytes) (hz:Sz 1000 ⟨nodes,next,cookie⟩) (hs:s.length≤100000) (M:AMem):callOp (acall tabT) 82 [.agg [eNodes nodes,.int .i64 next,.int .i64 cookie],.int .i64 ino,.int .i64 to,.str s] M =
  some (.tuple [eTree (lnN ⟨nodes,next,cookie⟩ ino to s).1,.int .i64 (lnN ⟨nodes,next,cookie⟩ ino to s).2],M):=callOp0 (c82 ⟨nodes,next,cookie⟩ ino to s hz hs) rfl rfl rfl rfl rfl M
def unnamedN (nodes:List Node) (ino:Int):List Node :=
 if ((nodeN nodes ino).kind==2)=true then withoutN nodes ino else withN nodes { nodeN nodes ino with links:=w64 ((nodeN nodes ino).links-1) }
theorem c116 (t:Tree) (ino:Int) (ht:Small t):acall tabT 116 [eTree t,.int .i64 ino] []=some (eTree ⟨unnamedN t.nodes ino,t.next,t.cookie⟩,[]):=by
 obtain ⟨nodes,next,cookie⟩:=t
 refine acall_ex rfl rfl rfl ?_
 have hn:nodes.length≤100000:=ht.nodes
 simp only [fn116,E116,eTree,eTreeC,k114,hn,eNode,eNodeC,EVN,EVT,EVD,↓reduceIte,Nat.reduceEqDiff,reduceCtorEq,Nat.reduceAdd,Nat.reduceLeDiff,ne_eq,Nat.reduceLT,Int.reduceLT,Int.reduceLE,Int.reduceNeg]
 repeat' (first|(refine fork_split (fun hb=>?_) (fun hb=>?_)<;>simp only [hb,EVN,E116,hn,k113,k125,eTree,eTreeC,EVT,EVD,↓reduceIte,Nat.reduceEqDiff,reduceCtorEq,Nat.reduceAdd,Nat.reduceLeDiff,ne_eq,Nat.reduceLT,Int.reduceLT,Int.reduceLE,Int.reduceNeg])|(refine guard_split (fun hb=>?_) (fun hb=>?_)<;>simp only [hb,EVN,E116,hn,k113,k125,eTree,eTreeC,EVT,EVD,↓reduceIte,Nat.reduceEqDiff,reduceCtorEq,Nat.reduceAdd,Nat.reduceLeDiff,ne_eq,Nat.reduceLT,Int.reduceLT,Int.reduceLE,Int.reduceNeg])|(refine opK_pick (fun hb=>?_) (fun hb=>?_)<;>simp only [hb,EVN,E116,hn,k113,k125,eTree,eTreeC,EVT,EVD,↓reduceIte,Nat.reduceEqDiff,reduceCtorEq,Nat.reduceAdd,Nat.reduceLeDiff,ne_eq,Nat.reduceLT,Int.reduceLT,Int.reduceLE,Int.reduceNeg]))
 all_goals (simp_all only [unnamedN,eTree,eTreeC,BBT,↓reduceIte,reduceCtorEq,bne_self_eq_false]; done)
theorem k116 (nodes:List Node) (next cookie ino:Int) (ht:Small ⟨nodes,next,cookie⟩) (M:AMem):callOp (acall tabT) 116 [.agg [eNodes nodes,.int .i64 next,.int .i64 cookie],.int .i64 ino] M =
  some (.agg [eNodes (unnamedN nodes ino),.int .i64 next,.int .i64 cookie],M):=callOp0 (c116 ⟨nodes,next,cookie⟩ ino ht) rfl rfl rfl rfl rfl M
def unN (t:Tree) (ino:Int) (s:Bytes):Tree×Int×Int :=
 if ((lookN t.nodes ino s).2 != 0)=true then (t,0,(lookN t.nodes ino s).2) else if decide ((0:Int)<(nodeN t.nodes (lookN t.nodes ino s).1).ents.length)=true then (t,0,74) else
 (⟨unnamedN (leftN t.nodes ino s) (lookN t.nodes ino s).1,t.next,t.cookie⟩,(lookN t.nodes ino s).1,0)
theorem c83 (t:Tree) (ino:Int) (s:Bytes) (hz:Sz 1000 t) (hs:s.length≤100000):acall tabT 83 [eTree t,.int .i64 ino,.str s] []=some (.tuple [eTree (unN t ino s).1,.int .i64 (unN t ino s).2.1,.int .i64 (unN t ino s).2.2],[]):=by
 obtain ⟨nodes,next,cookie⟩:=t
 refine acall_ex rfl rfl rfl ?_
 have ht:Small ⟨nodes,next,cookie⟩:=hz.small (by omega)
 have hn:nodes.length≤100000:=ht.nodes
 have hl:Small ⟨leftN nodes ino s,next,cookie⟩:=(hz.left ino s next cookie).small (by omega)
 simp only [fn83,E83,eTree,eTreeC,k115,ht,hs,eNode,eNodeC,EVN,EVT,EVD,↓reduceIte,Nat.reduceEqDiff,reduceCtorEq,Nat.reduceAdd,Nat.reduceLeDiff,ne_eq,Nat.reduceLT,Int.reduceLT,Int.reduceLE,Int.reduceNeg]
 repeat' (first|(refine fork_split (fun hb=>?_) (fun hb=>?_)<;>simp only [hb,EVN,E83,hn,ht,hs,k114,k117,k116,hl,eNode,eNodeC,eTree,eTreeC,EVT,EVD,↓reduceIte,Nat.reduceEqDiff,reduceCtorEq,Nat.reduceAdd,Nat.reduceLeDiff,ne_eq,Nat.reduceLT,Int.reduceLT,Int.reduceLE,Int.reduceNeg])|(refine guard_split (fun hb=>?_) (fun hb=>?_)<;>simp only [hb,EVN,E83,hn,ht,hs,k114,k117,k116,hl,eNode,eNodeC,eTree,eTreeC,EVT,EVD,↓reduceIte,Nat.reduceEqDiff,reduceCtorEq,Nat.reduceAdd,Nat.reduceLeDiff,ne_eq,Nat.reduceLT,Int.reduceLT,Int.reduceLE,Int.reduceNeg])|(refine opK_pick (fun hb=>?_) (fun hb=>?_)<;>simp only [hb,EVN,E83,hn,ht,hs,k114,k117,k116,hl,eNode,eNodeC,eTree,eTreeC,EVT,EVD,↓reduceIte,Nat.reduceEqDiff,reduceCtorEq,Nat.reduceAdd,Nat.reduceLeDiff,ne_eq,Nat.reduceLT,Int.reduceLT,Int.reduceLE,Int.reduceNeg]))
 all_goals (simp_all only [unN,eTree,eTreeC,BBT,↓reduceIte,reduceCtorEq,bne_self_eq_false]; done)
theorem k83 (nodes:List Node) (next cookie ino:Int) (s:Bytes) (hz:Sz 1000 ⟨nodes,next,cookie⟩) (hs:s.length≤100000) (M:AMem):callOp (acall tabT) 83 [.agg [eNodes nodes,.int .i64 next,.int .i64 cookie],.int .i64 ino,.str s] M =
  some (.tuple [eTree (unN ⟨nodes,next,cookie⟩ ino s).1,.int .i64 (unN ⟨nodes,next,cookie⟩ ino s).2.1,.int .i64 (unN ⟨nodes,next,cookie⟩ ino s).2.2],M):=callOp0 (c83 ⟨nodes,next,cookie⟩ ino s hz hs) rfl rfl rfl rfl rfl M
def clashN (nodes:List Node) (kind:Int) (y:Int):Int :=
 if (!(find nodes y).isSome)=true then 0 else if (kind==2&&(nodeN nodes y).kind != 2)=true then 73 else if (kind != 2&&(nodeN nodes y).kind==2)=true then 72 else if decide ((0:Int)<(nodeN nodes y).ents.length)=true then 74 else 0
theorem c122 (t:Tree) (x:Node) (y:Int) (ht:Small t):acall tabT 122 [eTree t,eNode x,.int .i64 y] []=some (.int .i64 (clashN t.nodes x.kind y),[]):=by
 obtain ⟨nodes,next,cookie⟩:=t
 refine acall_ex rfl rfl rfl ?_
 have hn:nodes.length≤100000:=ht.nodes
 simp only [fn122,E122,eTree,eTreeC,k114,hn,eNode,eNodeC,EVN,EVT,EVD,↓reduceIte,Nat.reduceEqDiff,reduceCtorEq,Nat.reduceAdd,Nat.reduceLeDiff,ne_eq,Nat.reduceLT,Int.reduceLT,Int.reduceLE,Int.reduceNeg]
 repeat' (first|(refine fork_split (fun hb=>?_) (fun hb=>?_)<;>simp only [hb,EVN,E122,EVT,EVD,↓reduceIte,Nat.reduceEqDiff,reduceCtorEq,Nat.reduceAdd,Nat.reduceLeDiff,ne_eq,Nat.reduceLT,Int.reduceLT,Int.reduceLE,Int.reduceNeg])|(refine guard_split (fun hb=>?_) (fun hb=>?_)<;>simp only [hb,EVN,E122,EVT,EVD,↓reduceIte,Nat.reduceEqDiff,reduceCtorEq,Nat.reduceAdd,Nat.reduceLeDiff,ne_eq,Nat.reduceLT,Int.reduceLT,Int.reduceLE,Int.reduceNeg])|(refine opK_pick (fun hb=>?_) (fun hb=>?_)<;>simp only [hb,EVN,E122,EVT,EVD,↓reduceIte,Nat.reduceEqDiff,reduceCtorEq,Nat.reduceAdd,Nat.reduceLeDiff,ne_eq,Nat.reduceLT,Int.reduceLT,Int.reduceLE,Int.reduceNeg]))
 all_goals (simp_all only [clashN,BBT,↓reduceIte,reduceCtorEq,bne_self_eq_false]; done)
theorem k122 (nodes:List Node) (next cookie a b c:Int) (d:Bytes) (e:List Ent) (u y:Int) (ht:Small ⟨nodes,next,cookie⟩) (M:AMem):callOp (acall tabT) 122 [.agg [eNodes nodes,.int .i64 next,.int .i64 cookie],.agg [.int .i64 a,.int .i64 b,.int .i64 c,eData d,eEnts e,.int .i64 u],.int .i64 y] M =
  some (.int .i64 (clashN nodes b y),M):=callOp0 (c122 ⟨nodes,next,cookie⟩ ⟨a,b,c,d,e,u⟩ y ht) rfl rfl rfl rfl rfl M
def putN (t:Tree) (ino:Int) (data:Bytes):Tree×Int :=
 if (!(find t.nodes ino).isSome)=true then (t,70) else if ((nodeN t.nodes ino).kind==2)=true then (t,72) else if decide ((4096:Int)<data.length)=true then (t,2) else
 (⟨withN t.nodes { nodeN t.nodes ino with data:=data },t.next,t.cookie⟩,0)
theorem c85 (t:Tree) (ino:Int) (data:Bytes) (ht:Small t) (hd:data.length≤100000):acall tabT 85 [eTree t,.int .i64 ino,eData data] []=some (.tuple [eTree (putN t ino data).1,.int .i64 (putN t ino data).2],[]):=by
 obtain ⟨nodes,next,cookie⟩:=t
 refine acall_ex rfl rfl rfl ?_
 have hn:nodes.length≤100000:=ht.nodes
 have r1:roomOk data.length 1=True:=room_ok (by omega) (by omega)
 simp only [fn85,E85,eTree,eTreeC,k114,hn,eNode,eNodeC,EVN,EVT,EVD,↓reduceIte,Nat.reduceEqDiff,reduceCtorEq,Nat.reduceAdd,Nat.reduceLeDiff,ne_eq,Nat.reduceLT,Int.reduceLT,Int.reduceLE,Int.reduceNeg]
 repeat' (first|(refine fork_split (fun hb=>?_) (fun hb=>?_)<;>simp only [hb,EVN,E85,hn,r1,k113,eTree,eTreeC,EVT,EVD,↓reduceIte,Nat.reduceEqDiff,reduceCtorEq,Nat.reduceAdd,Nat.reduceLeDiff,ne_eq,Nat.reduceLT,Int.reduceLT,Int.reduceLE,Int.reduceNeg])|(refine guard_split (fun hb=>?_) (fun hb=>?_)<;>simp only [hb,EVN,E85,hn,r1,k113,eTree,eTreeC,EVT,EVD,↓reduceIte,Nat.reduceEqDiff,reduceCtorEq,Nat.reduceAdd,Nat.reduceLeDiff,ne_eq,Nat.reduceLT,Int.reduceLT,Int.reduceLE,Int.reduceNeg])|(refine opK_pick (fun hb=>?_) (fun hb=>?_)<;>simp only [hb,EVN,E85,hn,r1,k113,eTree,eTreeC,EVT,EVD,↓reduceIte,Nat.reduceEqDiff,reduceCtorEq,Nat.reduceAdd,Nat.reduceLeDiff,ne_eq,Nat.reduceLT,Int.reduceLT,Int.reduceLE,Int.reduceNeg]))
 all_goals (simp_all only [putN,eTree,eTreeC,BBT,↓reduceIte,reduceCtorEq,bne_self_eq_false]; done)
theorem k85 (nodes:List Node) (next cookie ino:Int) (data:Bytes) (ht:Small ⟨nodes,next,cookie⟩) (hd:data.length≤100000) (M:AMem):callOp (acall tabT) 85 [.agg [eNodes nodes,.int .i64 next,.int .i64 cookie],.int .i64 ino,eData data] M =
  some (.tuple [eTree (putN ⟨nodes,next,cookie⟩ ino data).1,.int .i64 (putN ⟨nodes,next,cookie⟩ ino data).2],M):=callOp0 (c85 ⟨nodes,next,cookie⟩ ino data ht hd) rfl rfl rfl rfl rfl M
def freeN (t:Tree) (ino:Int):Tree×Int :=
 if (!(find t.nodes ino).isSome)=true then (t,70) else if ((nodeN t.nodes ino).kind==2)=true then (t,72) else if decide ((0:Int)<(nodeN t.nodes ino).links)=true then (t,71) else
 (⟨withoutN t.nodes ino,t.next,t.cookie⟩,0)
theorem c86 (t:Tree) (ino:Int) (ht:Small t):acall tabT 86 [eTree t,.int .i64 ino] []=some (.tuple [eTree (freeN t ino).1,.int .i64 (freeN t ino).2],[]):=by
 obtain ⟨nodes,next,cookie⟩:=t
 refine acall_ex rfl rfl rfl ?_
 have hn:nodes.length≤100000:=ht.nodes
 simp only [fn86,E86,eTree,eTreeC,k114,hn,eNode,eNodeC,EVN,EVT,EVD,↓reduceIte,Nat.reduceEqDiff,reduceCtorEq,Nat.reduceAdd,Nat.reduceLeDiff,ne_eq,Nat.reduceLT,Int.reduceLT,Int.reduceLE,Int.reduceNeg]
 repeat' (first|(refine fork_split (fun hb=>?_) (fun hb=>?_)<;>simp only [hb,EVN,E86,hn,k125,eTree,eTreeC,EVT,EVD,↓reduceIte,Nat.reduceEqDiff,reduceCtorEq,Nat.reduceAdd,Nat.reduceLeDiff,ne_eq,Nat.reduceLT,Int.reduceLT,Int.reduceLE,Int.reduceNeg])|(refine guard_split (fun hb=>?_) (fun hb=>?_)<;>simp only [hb,EVN,E86,hn,k125,eTree,eTreeC,EVT,EVD,↓reduceIte,Nat.reduceEqDiff,reduceCtorEq,Nat.reduceAdd,Nat.reduceLeDiff,ne_eq,Nat.reduceLT,Int.reduceLT,Int.reduceLE,Int.reduceNeg])|(refine opK_pick (fun hb=>?_) (fun hb=>?_)<;>simp only [hb,EVN,E86,hn,k125,eTree,eTreeC,EVT,EVD,↓reduceIte,Nat.reduceEqDiff,reduceCtorEq,Nat.reduceAdd,Nat.reduceLeDiff,ne_eq,Nat.reduceLT,Int.reduceLT,Int.reduceLE,Int.reduceNeg]))
 all_goals (simp_all only [freeN,eTree,eTreeC,BBT,↓reduceIte,reduceCtorEq,bne_self_eq_false]; done)
theorem k86 (nodes:List Node) (next cookie ino:Int) (ht:Small ⟨nodes,next,cookie⟩) (M:AMem):callOp (acall tabT) 86 [.agg [eNodes nodes,.int .i64 next,.int .i64 cookie],.int .i64 ino] M =
  some (.tuple [eTree (freeN ⟨nodes,next,cookie⟩ ino).1,.int .i64 (freeN ⟨nodes,next,cookie⟩ ino).2],M):=callOp0 (c86 ⟨nodes,next,cookie⟩ ino ht) rfl rfl rfl rfl rfl M
def newN:Tree:=⟨[⟨1,2,0,[],[],1⟩],2,1⟩
theorem c40:acall tabT 40 [] []=some (eTree newN,[]):=by
 refine acall_ex rfl rfl rfl ?_
 simp only [fn40,E40,EVN,EVT,EVD,↓reduceIte,Nat.reduceEqDiff,reduceCtorEq,Nat.reduceAdd,Nat.reduceLeDiff,ne_eq,Nat.reduceLT,Int.reduceLT,Int.reduceLE,Int.reduceNeg]
 rfl
theorem k40 (M:AMem):callOp (acall tabT) 40 [] M=some (eTree newN,M):=callOp0 c40 rfl rfl rfl rfl rfl M
end Go.Proofs.YtannopdcbocngaaGreatDoor
namespace Go.Proofs.YtannopdcbocngaaGreatDoor
open Go Go.Abs
attribute [local irreducible] exK opsK opK gK forkK kr acall callOp owhen obind
def highStep (nodes:List Node) (ino at' d:Int) (n:Node) (most:Int):Int :=
 if (n.kind==2&&belowN nodes n.ino ino)=true then
  (if (if decide ((0:Int)<n.ents.length)=true then w64 (w64 (w64 (at'+depthN nodes n.ino)-d)+1) else w64 (w64 (at'+depthN nodes n.ino)-d))>most
   then (if decide ((0:Int)<n.ents.length)=true then w64 (w64 (w64 (at'+depthN nodes n.ino)-d)+1) else w64 (w64 (at'+depthN nodes n.ino)-d)) else most)
 else most
def highGo (nodes:List Node) (ino at' d:Int):List Node→Int→Int
 | [],most=>most
 |n::r,most=>highGo nodes ino at' d r (highStep nodes ino at' d n most)
def highN (nodes:List Node) (ino at':Int):Int:=highGo nodes ino at' (depthN nodes ino) nodes 0
theorem loop124 {nodes:List Node} {next cookie ino at' d:Int} (ht:nodes.length≤100000) {k:List K} {R:Int→Option (AVal×AMem)}
  (hx:∀most v q,kr (acall tabT) [.tmp 6] 0 k ⟨.exit 0,[(1,.int .i64 ino),(2,.int .i64 at'),(3,.ptr 0 0),(7,.int .i64 most),(8,.int .i64 d),(9,v),(19,q)],[.cells (eTreeC ⟨nodes,next,cookie⟩)]⟩=R most) :
  ∀(l pre:List Node) (most:Int),nodes=pre++l→exK (acall tabT) [.tmp 6] 0 k (.loop [1,2,3,7,8,9] lb124_0) [(1,.int .i64 ino),(2,.int .i64 at'),(3,.ptr 0 0),(7,.int .i64 most),(8,.int .i64 d),(9,.int .i64 pre.length)] [.cells (eTreeC ⟨nodes,next,cookie⟩)]=R (highGo nodes ino at' d l most):=by
 intro l
 induction l with
 |nil =>
  intro pre most h
  rw [exK_loop]
  simp only [E124,eTreeC,lt_end h,EVN,EVT,EVD,↓reduceIte,Nat.reduceEqDiff,reduceCtorEq,Nat.reduceAdd,Nat.reduceLeDiff,ne_eq,Nat.reduceLT,Int.reduceLT,Int.reduceLE,Int.reduceNeg]
  exact hx _ _ _
 |cons n r ih =>
  intro pre most h
  rw [exK_loop]
  have hlen:pre.length+1≤100000:=by rw [h] at ht; simp at ht; omega
  have hw:IntKind.i64.wrap ((pre.length:Int)+1)=((pre++[n]).length:Int):=by rw [wrapS (by omega) (by omega)]; exact step_len
  have hi:=fun most=>ih (pre++[n]) most (by rw [h]; simp)
  rw [highGo]
  simp only [eTreeC] at hi
  generalize hst:highStep nodes ino at' d n most=m1
  simp only [E124,eTreeC,lt_mid h,at_mid h,eNodeC,EVN,EVT,EVD,↓reduceIte,Nat.reduceEqDiff,reduceCtorEq,Nat.reduceAdd,Nat.reduceLeDiff,ne_eq,Nat.reduceLT,Int.reduceLT,Int.reduceLE,Int.reduceNeg]
  repeat' (first|(refine fork_split (fun hb=>?_) (fun hb=>?_)<;>simp only [hb,EVN,E124,hw,k121,k123,ht,eNodeC,EVT,EVD,↓reduceIte,Nat.reduceEqDiff,reduceCtorEq,Nat.reduceAdd,Nat.reduceLeDiff,ne_eq,Nat.reduceLT,Int.reduceLT,Int.reduceLE,Int.reduceNeg])|(refine guard_split (fun hb=>?_) (fun hb=>?_)<;>simp only [hb,EVN,E124,hw,k121,k123,ht,eNodeC,EVT,EVD,↓reduceIte,Nat.reduceEqDiff,reduceCtorEq,Nat.reduceAdd,Nat.reduceLeDiff,ne_eq,Nat.reduceLT,Int.reduceLT,Int.reduceLE,Int.reduceNeg])|(refine opK_pick (fun hb=>?_) (fun hb=>?_)<;>simp only [hb,EVN,E124,hw,k121,k123,ht,eNodeC,EVT,EVD,↓reduceIte,Nat.reduceEqDiff,reduceCtorEq,Nat.reduceAdd,Nat.reduceLeDiff,ne_eq,Nat.reduceLT,Int.reduceLT,Int.reduceLE,Int.reduceNeg]))
  all_goals refine Eq.trans ?_ (hi m1)
  all_goals congr 1
  all_goals (subst hst; clear hi ih hx hw h ht; simp_all only [highStep,w64,gt_iff_lt,List.length_append,List.length_cons,List.length_nil,Nat.zero_add,BBT,↓reduceIte,reduceCtorEq,bne_self_eq_false]; done)
theorem c124 (t:Tree) (ino at':Int) (ht:t.nodes.length≤100000):acall tabT 124 [eTree t,.int .i64 ino,.int .i64 at'] []=some (.int .i64 (highN t.nodes ino at'),[]):=by
 obtain ⟨nodes,next,cookie⟩:=t
 have ht:nodes.length≤100000:=ht
 refine acall_ex rfl rfl rfl ?_
 simp only [fn124,E124,eTree,eTreeC,k123,ht,EVN,EVT,EVD,↓reduceIte,Nat.reduceEqDiff,reduceCtorEq,Nat.reduceAdd,Nat.reduceLeDiff,ne_eq,Nat.reduceLT,Int.reduceLT,Int.reduceLE,Int.reduceNeg]
 exact loop124 (R:=fun z=>some (.int .i64 z,[])) ht (fun most v q=>by simp only [E124,EVN,EVT,EVD,↓reduceIte,Nat.reduceEqDiff,reduceCtorEq,Nat.reduceAdd,Nat.reduceLeDiff,ne_eq,Nat.reduceLT,Int.reduceLT,Int.reduceLE,Int.reduceNeg]) nodes [] 0 rfl
theorem k124 (nodes:List Node) (next cookie ino at':Int) (h:nodes.length≤100000) (M:AMem):callOp (acall tabT) 124 [.agg [eNodes nodes,.int .i64 next,.int .i64 cookie],.int .i64 ino,.int .i64 at'] M=some (.int .i64 (highN nodes ino at'),M) :=
 callOp0 (c124 ⟨nodes,next,cookie⟩ ino at' h) rfl rfl rfl rfl rfl M
def underN (l:List Ent) (s:Bytes):Int:=match findE l s with
 |none=>0
 |some e=>e.ino
def manyN (t:Tree) (frm to:Int) (ents:List Ent) (kind y ino:Int):Bool :=
 ((y==0&&to != frm)&&decide ((64:Int)≤ents.length))||(decide ((12:Int)≤depthN t.nodes to)||((kind==2&&decide ((12:Int)<highN t.nodes ino (w64 (depthN t.nodes to+1))))||decide ((1099511627776:Int)≤t.cookie)))
def moveN (t:Tree) (frm:Int) (s:Bytes) (to:Int) (nm:Bytes) (ino y:Int):Tree :=
 enteredN ⟨if ((nodeN t.nodes ino).kind==2)=true then
   withN (if (y != 0)=true then unnamedN (leftN (leftN t.nodes frm s) to nm) y else leftN t.nodes frm s) { nodeN t.nodes ino with up:=to }
  else if (y != 0)=true then unnamedN (leftN (leftN t.nodes frm s) to nm) y else leftN t.nodes frm s,t.next,t.cookie⟩ to nm ino
def mvN (t:Tree) (frm:Int) (s:Bytes) (to:Int) (nm:Bytes):Tree×Int×Int :=
 if ((lookN t.nodes frm s).2 != 0)=true then (t,0,(lookN t.nodes frm s).2) else
 if ((dirN t.nodes to).2 != 0)=true then (t,0,(dirN t.nodes to).2) else
 if (!nameOk nm)=true then (t,0,60) else
 if (underN (dirN t.nodes to).1.ents nm==(lookN t.nodes frm s).1)=true then (t,0,0) else
 if ((nodeN t.nodes (lookN t.nodes frm s).1).kind==2&&belowN t.nodes to (lookN t.nodes frm s).1)=true then (t,0,75) else
 if (clashN t.nodes (nodeN t.nodes (lookN t.nodes frm s).1).kind (underN (dirN t.nodes to).1.ents nm) != 0)=true then (t,0,clashN t.nodes (nodeN t.nodes (lookN t.nodes frm s).1).kind (underN (dirN t.nodes to).1.ents nm)) else
 if manyN t frm to (dirN t.nodes to).1.ents (nodeN t.nodes (lookN t.nodes frm s).1).kind (underN (dirN t.nodes to).1.ents nm) (lookN t.nodes frm s).1=true then (t,0,76) else
 (moveN t frm s to nm (lookN t.nodes frm s).1 (underN (dirN t.nodes to).1.ents nm),underN (dirN t.nodes to).1.ents nm,0)
theorem Sz.unnamed {b:Nat} {t:Tree} (h:Sz b t) (ino next cookie:Int):Sz (b+1) ⟨unnamedN t.nodes ino,next,cookie⟩:=by
 unfold unnamedN
 split
 ·exact (h.without ino next cookie).up (by omega)
 ·exact h.with (n:={ nodeN t.nodes ino with links:=w64 ((nodeN t.nodes ino).links-1) }) (Nat.le_succ_of_le (h.find ino).1) (h.find ino).2 next cookie
set_option maxHeartbeats 2000000 in
theorem c84 (t:Tree) (frm:Int) (s:Bytes) (to:Int) (nm:Bytes) (hz:Sz 1000 t) (hs:s.length≤100000) (ha:nm.length≤100000):acall tabT 84 [eTree t,.int .i64 frm,.str s,.int .i64 to,.str nm] [] =
  some (.tuple [eTree (mvN t frm s to nm).1,.int .i64 (mvN t frm s to nm).2.1,.int .i64 (mvN t frm s to nm).2.2],[]):=by
 obtain ⟨nodes,next,cookie⟩:=t
 have ht:Small ⟨nodes,next,cookie⟩:=hz.small (by omega)
 have hn:nodes.length≤100000:=ht.nodes
 have hd:(dirN nodes to).1.ents.length≤100000:=dirN_ents ht to
 have z1:Sz 1001 ⟨leftN nodes frm s,next,cookie⟩:=hz.left frm s next cookie
 have z2:Sz 1002 ⟨leftN (leftN nodes frm s) to nm,next,cookie⟩:=z1.left to nm next cookie
 have z3:∀y,Sz 1003 ⟨unnamedN (leftN (leftN nodes frm s) to nm) y,next,cookie⟩:=fun y=>z2.unnamed y next cookie
 have hx:=hz.find (lookN nodes frm s).1
 have z4:∀y,Sz 1004 ⟨withN (unnamedN (leftN (leftN nodes frm s) to nm) y) { nodeN nodes (lookN nodes frm s).1 with up:=to },next,cookie⟩:=fun y=>(z3 y).with (n:={ nodeN nodes (lookN nodes frm s).1 with up:=to }) (Nat.le_trans hx.1 (by omega)) hx.2 next cookie
 have z5:Sz 1002 ⟨withN (leftN nodes frm s) { nodeN nodes (lookN nodes frm s).1 with up:=to },next,cookie⟩:=z1.with (n:={ nodeN nodes (lookN nodes frm s).1 with up:=to }) (Nat.le_trans hx.1 (by omega)) hx.2 next cookie
 have s1:=z1.small (by omega)
 have s2:=z2.small (by omega)
 have s3:=fun y=>(z3 y).small (by omega)
 have s4:=fun y=>(z4 y).small (by omega)
 have s5:=z5.small (by omega)
 have n1:(leftN nodes frm s).length≤100000:=s1.nodes
 have n3:∀y,(unnamedN (leftN (leftN nodes frm s) to nm) y).length≤100000:=fun y=>(s3 y).nodes
 clear z1 z2 z3 z4 z5 hx
 refine acall_ex rfl rfl rfl ?_
 simp only [fn84,E84,eTree,eTreeC,k115,ht,hs,EVN,EVT,EVD,↓reduceIte,Nat.reduceEqDiff,reduceCtorEq,Nat.reduceAdd,Nat.reduceLeDiff,ne_eq,Nat.reduceLT,Int.reduceLT,Int.reduceLE,Int.reduceNeg]
 refine fork_split (fun hb0=>?_) (fun hb0=>?_)
 ·simp only [E84,hb0,EVN,EVT,EVD,↓reduceIte,Nat.reduceEqDiff,reduceCtorEq,Nat.reduceAdd,Nat.reduceLeDiff,ne_eq,Nat.reduceLT,Int.reduceLT,Int.reduceLE,Int.reduceNeg]
  clear s1 s2 s3 s4 s5 n1 n3
  simp_all only [mvN,eTree,eTreeC,BBT,↓reduceIte,reduceCtorEq,bne_self_eq_false]
 simp only [E84,hb0,k118,hn,eNode,eNodeC,EVN,EVT,EVD,↓reduceIte,Nat.reduceEqDiff,reduceCtorEq,Nat.reduceAdd,Nat.reduceLeDiff,ne_eq,Nat.reduceLT,Int.reduceLT,Int.reduceLE,Int.reduceNeg]
 refine fork_split (fun hb1=>?_) (fun hb1=>?_)
 ·simp only [E84,hb1,EVN,EVT,EVD,↓reduceIte,Nat.reduceEqDiff,reduceCtorEq,Nat.reduceAdd,Nat.reduceLeDiff,ne_eq,Nat.reduceLT,Int.reduceLT,Int.reduceLE,Int.reduceNeg]
  clear s1 s2 s3 s4 s5 n1 n3
  simp_all only [mvN,eTree,eTreeC,BBT,↓reduceIte,reduceCtorEq,bne_self_eq_false]
 simp only [E84,hb1,k119,ha,EVN,EVT,EVD,↓reduceIte,Nat.reduceEqDiff,reduceCtorEq,Nat.reduceAdd,Nat.reduceLeDiff,ne_eq,Nat.reduceLT,Int.reduceLT,Int.reduceLE,Int.reduceNeg]
 refine fork_split (fun hb2=>?_) (fun hb2=>?_)
 ·simp only [E84,hb2,EVN,EVT,EVD,↓reduceIte,Nat.reduceEqDiff,reduceCtorEq,Nat.reduceAdd,Nat.reduceLeDiff,ne_eq,Nat.reduceLT,Int.reduceLT,Int.reduceLE,Int.reduceNeg]
  clear s1 s2 s3 s4 s5 n1 n3
  simp_all only [mvN,eTree,eTreeC,BBT,↓reduceIte,reduceCtorEq,bne_self_eq_false]
 simp only [E84,hb2,k120,hd,EVN,EVT,EVD,↓reduceIte,Nat.reduceEqDiff,reduceCtorEq,Nat.reduceAdd,Nat.reduceLeDiff,ne_eq,Nat.reduceLT,Int.reduceLT,Int.reduceLE,Int.reduceNeg]
 rcases namedGo_spec nm (dirN nodes to).1.ents 0 with ⟨h1,h2⟩|⟨m,n,h1,h2,h3⟩
 ·have hu:underN (dirN nodes to).1.ents nm=0:=by simp [underN,h1]
  rw [h2]
  simp only [E84,EVN,EVT,EVD,↓reduceIte,Nat.reduceEqDiff,reduceCtorEq,Nat.reduceAdd,Nat.reduceLeDiff,ne_eq,Nat.reduceLT,Int.reduceLT,Int.reduceLE,Int.reduceNeg]
  repeat' (first|(refine fork_split (fun hb=>?_) (fun hb=>?_)<;>simp only [hb,EVN,E84,k114,hn,ht,eNode,eNodeC,k121,k122,k123,k124,k117,k116,k113,k112,s1,s2,s3,s4,s5,n1,n3,eTree,eTreeC,EVT,EVD,↓reduceIte,Nat.reduceEqDiff,reduceCtorEq,Nat.reduceAdd,Nat.reduceLeDiff,ne_eq,Nat.reduceLT,Int.reduceLT,Int.reduceLE,Int.reduceNeg])|(refine guard_split (fun hb=>?_) (fun hb=>?_)<;>simp only [hb,EVN,E84,k114,hn,ht,eNode,eNodeC,k121,k122,k123,k124,k117,k116,k113,k112,s1,s2,s3,s4,s5,n1,n3,eTree,eTreeC,EVT,EVD,↓reduceIte,Nat.reduceEqDiff,reduceCtorEq,Nat.reduceAdd,Nat.reduceLeDiff,ne_eq,Nat.reduceLT,Int.reduceLT,Int.reduceLE,Int.reduceNeg])|(refine opK_pick (fun hb=>?_) (fun hb=>?_)<;>simp only [hb,EVN,E84,k114,hn,ht,eNode,eNodeC,k121,k122,k123,k124,k117,k116,k113,k112,s1,s2,s3,s4,s5,n1,n3,eTree,eTreeC,EVT,EVD,↓reduceIte,Nat.reduceEqDiff,reduceCtorEq,Nat.reduceAdd,Nat.reduceLeDiff,ne_eq,Nat.reduceLT,Int.reduceLT,Int.reduceLE,Int.reduceNeg]))
  all_goals (clear s1 s2 s3 s4 s5 n1 n3 h2; simp_all only [mvN,moveN,manyN,hu,eTree,eTreeC,BBT,↓reduceIte,reduceCtorEq,bne_self_eq_false]; done)
 ·have hu:underN (dirN nodes to).1.ents nm=n.ino:=by simp [underN,h2]
  rw [h3]
  simp only [E84,h1,eEntC,EVN,EVT,EVD,↓reduceIte,Nat.reduceEqDiff,reduceCtorEq,Nat.reduceAdd,Nat.reduceLeDiff,ne_eq,Nat.reduceLT,Int.reduceLT,Int.reduceLE,Int.reduceNeg]
  repeat' (first|(refine fork_split (fun hb=>?_) (fun hb=>?_)<;>simp only [hb,EVN,E84,k114,hn,ht,eNode,eNodeC,k121,k122,k123,k124,k117,k116,k113,k112,s1,s2,s3,s4,s5,n1,n3,eTree,eTreeC,EVT,EVD,↓reduceIte,Nat.reduceEqDiff,reduceCtorEq,Nat.reduceAdd,Nat.reduceLeDiff,ne_eq,Nat.reduceLT,Int.reduceLT,Int.reduceLE,Int.reduceNeg])|(refine guard_split (fun hb=>?_) (fun hb=>?_)<;>simp only [hb,EVN,E84,k114,hn,ht,eNode,eNodeC,k121,k122,k123,k124,k117,k116,k113,k112,s1,s2,s3,s4,s5,n1,n3,eTree,eTreeC,EVT,EVD,↓reduceIte,Nat.reduceEqDiff,reduceCtorEq,Nat.reduceAdd,Nat.reduceLeDiff,ne_eq,Nat.reduceLT,Int.reduceLT,Int.reduceLE,Int.reduceNeg])|(refine opK_pick (fun hb=>?_) (fun hb=>?_)<;>simp only [hb,EVN,E84,k114,hn,ht,eNode,eNodeC,k121,k122,k123,k124,k117,k116,k113,k112,s1,s2,s3,s4,s5,n1,n3,eTree,eTreeC,EVT,EVD,↓reduceIte,Nat.reduceEqDiff,reduceCtorEq,Nat.reduceAdd,Nat.reduceLeDiff,ne_eq,Nat.reduceLT,Int.reduceLT,Int.reduceLE,Int.reduceNeg]))
  all_goals (clear s1 s2 s3 s4 s5 n1 n3 h3; simp_all only [mvN,moveN,manyN,hu,eTree,eTreeC,BBT,↓reduceIte,reduceCtorEq,bne_self_eq_false]; done)
theorem k84 (nodes:List Node) (next cookie frm:Int) (s:Bytes) (to:Int) (nm:Bytes) (hz:Sz 1000 ⟨nodes,next,cookie⟩) (hs:s.length≤100000) (ha:nm.length≤100000) (M:AMem):callOp (acall tabT) 84 [.agg [eNodes nodes,.int .i64 next,.int .i64 cookie],.int .i64 frm,.str s,.int .i64 to,.str nm] M =
  some (.tuple [eTree (mvN ⟨nodes,next,cookie⟩ frm s to nm).1,.int .i64 (mvN ⟨nodes,next,cookie⟩ frm s to nm).2.1,.int .i64 (mvN ⟨nodes,next,cookie⟩ frm s to nm).2.2],M):=callOp0 (c84 ⟨nodes,next,cookie⟩ frm s to nm hz hs ha) rfl rfl rfl rfl rfl M
end Go.Proofs.YtannopdcbocngaaGreatDoor
namespace Go.Proofs.YtannopdcbocngaaGreatDoor
open Go Go.Abs
attribute [local irreducible] exK opsK opK gK forkK kr acall callOp owhen obind
structure Step.Ok (s:Step):Prop where
 kind:s.kind<256
 a:s.a<256
 b:s.b<256
 n:s.n<256
 m:s.m<256
 data:s.data.length≤100000
def nameOf (n:Nat):Bytes:=match n % 6 with
 |0=>[97]
 |1=>[98]
 |2=>[99]
 |3=>[100]
 |4=>[101]
 |_=>[46,46]
theorem nameOf_len (n:Nat):(nameOf n).length≤100000:=by unfold nameOf; split<;>simp
theorem c80 (n:Nat) (hn:n<256):acall tabT 80 [.int .u8 n] []=some (.str (nameOf n),[]):=by
 refine acall_ex rfl rfl rfl ?_
 have hw:IntKind.i64.wrap (n:Int)=n:=wrapS (by omega) (by omega)
 have hm:(n:Int).tmod 6=((n % 6:Nat):Int):=by rw [Int.tmod_eq_emod_of_nonneg (by omega)]; rfl
 have h6:((6:Int)=0)=False:=by simp
 simp only [fn80,E80,hw,hm,h6,EVN,EVT,EVD,↓reduceIte,Nat.reduceEqDiff,reduceCtorEq,Nat.reduceAdd,Nat.reduceLeDiff,ne_eq,Nat.reduceLT,Int.reduceLT,Int.reduceLE,Int.reduceNeg]
 unfold nameOf
 have hlt:n % 6<6:=Nat.mod_lt _ (by omega)
 generalize n % 6=r at hlt
 match r,hlt with
 |0,_|1,_|2,_|3,_|4,_|5,_=>simp only [E80,List.getElem?_cons_zero,List.getElem?_cons_succ,EVN,EVT,EVD,↓reduceIte,Nat.reduceEqDiff,reduceCtorEq,Nat.reduceAdd,Nat.reduceLeDiff,ne_eq,Nat.reduceLT,Int.reduceLT,Int.reduceLE,Int.reduceNeg]
theorem k80 (n:Nat) (hn:n<256) (M:AMem):callOp (acall tabT) 80 [.int .u8 n] M=some (.str (nameOf n),M):=callOp0 (c80 n hn) rfl rfl rfl rfl rfl M
def inoAt (t:Tree) (n:Nat):Int:=match t.nodes[n % (t.nodes.length+1)]? with
 |some m=>m.ino
 |none=>t.next
theorem c79 (t:Tree) (n:Nat) (hn:n<256) (ht:t.nodes.length≤100000):acall tabT 79 [eTree t,.int .u8 n] []=some (.int .i64 (inoAt t n),[]):=by
 obtain ⟨nodes,next,cookie⟩:=t
 have ht:nodes.length≤100000:=ht
 refine acall_ex rfl rfl rfl ?_
 have hw:IntKind.i64.wrap (n:Int)=n:=wrapS (by omega) (by omega)
 have hw2:IntKind.i64.wrap ((nodes.length:Int)+1)=(nodes.length:Int)+1:=wrapS (by omega) (by omega)
 have h0:(((nodes.length:Int)+1)=0)=False:=by simp; omega
 have hm:(n:Int).tmod ((nodes.length:Int)+1)=((n % (nodes.length+1):Nat):Int):=by rw [Int.tmod_eq_emod_of_nonneg (by omega)]; rfl
 simp only [fn79,E79,eTree,eTreeC,hw,hw2,h0,hm,EVN,EVT,EVD,↓reduceIte,Nat.reduceEqDiff,reduceCtorEq,Nat.reduceAdd,Nat.reduceLeDiff,ne_eq,Nat.reduceLT,Int.reduceLT,Int.reduceLE,Int.reduceNeg]
 unfold inoAt
 simp only
 generalize n % (nodes.length+1)=r
 refine fork_split (fun hb=>?_) (fun hb=>?_)
 ·have hlt:r<nodes.length:=by simpa using hb
  have hx:=List.getElem?_eq_getElem hlt
  simp only [E79,hx,eNodeC,EVN,EVT,EVD,↓reduceIte,Nat.reduceEqDiff,reduceCtorEq,Nat.reduceAdd,Nat.reduceLeDiff,ne_eq,Nat.reduceLT,Int.reduceLT,Int.reduceLE,Int.reduceNeg]
 ·have hge:nodes[r]?=none:=List.getElem?_eq_none (by simpa using hb)
  simp only [E79,hge,EVN,EVT,EVD,↓reduceIte,Nat.reduceEqDiff,reduceCtorEq,Nat.reduceAdd,Nat.reduceLeDiff,ne_eq,Nat.reduceLT,Int.reduceLT,Int.reduceLE,Int.reduceNeg]
theorem k79 (nodes:List Node) (next cookie:Int) (n:Nat) (hn:n<256) (h:nodes.length≤100000) (M:AMem):callOp (acall tabT) 79 [.agg [eNodes nodes,.int .i64 next,.int .i64 cookie],.int .u8 n] M=some (.int .i64 (inoAt ⟨nodes,next,cookie⟩ n),M) :=
 callOp0 (c79 ⟨nodes,next,cookie⟩ n hn h) rfl rfl rfl rfl rfl M
def greatN (l:List Step):Bool:=decide ((60:Int)<l.length)||l.any fun s=>decide ((5000:Int)<s.data.length)
theorem loop11 {steps:List Step} (hs:steps.length≤100000) {k:List K} {R:Bool→Option (AVal×AMem)}
  (hx:∀e,kr (acall tabT) [.tmp 2] 0 k ⟨.exit 0,e,[]⟩=R false) (hr:kr (acall tabT) [.tmp 2] 0 k ⟨.ret,[(2,.bool true)],[]⟩=R true) :
  ∀(l pre:List Step),steps=pre++l→exK (acall tabT) [.tmp 2] 0 k (.loop [0,3] lb11_0) [(0,.slice .sh (steps.map eStep)),(3,.int .i64 pre.length)] []=R (l.any fun s=>decide ((5000:Int)<s.data.length)):=by
 intro l
 induction l with
 |nil =>
  intro pre h
  rw [exK_loop]
  simp only [E11,lt_end h,EVN,EVT,EVD,↓reduceIte,Nat.reduceEqDiff,reduceCtorEq,Nat.reduceAdd,Nat.reduceLeDiff,ne_eq,Nat.reduceLT,Int.reduceLT,Int.reduceLE,Int.reduceNeg]
  exact hx _
 |cons n r ih =>
  intro pre h
  rw [exK_loop]
  have hlen:pre.length+1≤100000:=by rw [h] at hs; simp at hs; omega
  have hw:IntKind.i64.wrap ((pre.length:Int)+1)=((pre++[n]).length:Int):=by rw [wrapS (by omega) (by omega)]; exact step_len
  have hi:=ih (pre++[n]) (by rw [h]; simp)
  simp only [List.length_append,List.length_cons,List.length_nil] at hi
  simp only [E11,lt_mid h,at_mid h,eStepC,EVN,EVT,EVD,↓reduceIte,Nat.reduceEqDiff,reduceCtorEq,Nat.reduceAdd,Nat.reduceLeDiff,ne_eq,Nat.reduceLT,Int.reduceLT,Int.reduceLE,Int.reduceNeg]
  refine fork_split (fun hb=>?_) (fun hb=>?_)
  ·simp only [E11,List.any_cons,hb,Bool.true_or,EVN,EVT,EVD,↓reduceIte,Nat.reduceEqDiff,reduceCtorEq,Nat.reduceAdd,Nat.reduceLeDiff,ne_eq,Nat.reduceLT,Int.reduceLT,Int.reduceLE,Int.reduceNeg]
   exact hr
  ·simp only [E11,List.any_cons,hb,Bool.false_or,hw,EVN,EVT,EVD,↓reduceIte,Nat.reduceEqDiff,reduceCtorEq,Nat.reduceAdd,Nat.reduceLeDiff,ne_eq,Nat.reduceLT,Int.reduceLT,Int.reduceLE,Int.reduceNeg]
   exact hi
theorem c11 (steps:List Step) (hs:steps.length≤100000):acall tabT 11 [.slice .sh (steps.map eStep)] []=some (.bool (greatN steps),[]):=by
 refine acall_ex rfl rfl rfl ?_
 simp only [fn11,E11,EVN,EVT,EVD,↓reduceIte,Nat.reduceEqDiff,reduceCtorEq,Nat.reduceAdd,Nat.reduceLeDiff,ne_eq,Nat.reduceLT,Int.reduceLT,Int.reduceLE,Int.reduceNeg]
 unfold greatN
 refine fork_split (fun hb=>?_) (fun hb=>?_)
 ·simp only [E11,hb,Bool.true_or,EVN,EVT,EVD,↓reduceIte,Nat.reduceEqDiff,reduceCtorEq,Nat.reduceAdd,Nat.reduceLeDiff,ne_eq,Nat.reduceLT,Int.reduceLT,Int.reduceLE,Int.reduceNeg]
 ·simp only [E11,hb,Bool.false_or,EVN,EVT,EVD,↓reduceIte,Nat.reduceEqDiff,reduceCtorEq,Nat.reduceAdd,Nat.reduceLeDiff,ne_eq,Nat.reduceLT,Int.reduceLT,Int.reduceLE,Int.reduceNeg]
  exact loop11 (R:=fun b=>some (.bool b,[])) hs (fun e=>by simp only [E11,EVN,EVT,EVD,↓reduceIte,Nat.reduceEqDiff,reduceCtorEq,Nat.reduceAdd,Nat.reduceLeDiff,ne_eq,Nat.reduceLT,Int.reduceLT,Int.reduceLE,Int.reduceNeg]) (by simp only [E11,EVN,EVT,EVD,↓reduceIte,Nat.reduceEqDiff,reduceCtorEq,Nat.reduceAdd,Nat.reduceLeDiff,ne_eq,Nat.reduceLT,Int.reduceLT,Int.reduceLE,Int.reduceNeg]) steps [] rfl
def doneN (t:Tree) (s:Step):Tree×Int×Int :=
 if (((s.kind % 8:Nat):Int)==0||((s.kind % 8:Nat):Int)==1)=true then addN t (inoAt t s.a) (nameOf s.n) (((s.m % 2:Nat):Int)+1) else
 if (((s.kind % 8:Nat):Int)==2)=true then ((lnN t (inoAt t s.b) (inoAt t s.a) (nameOf s.n)).1,0,(lnN t (inoAt t s.b) (inoAt t s.a) (nameOf s.n)).2) else
 if (((s.kind % 8:Nat):Int)==3)=true then unN t (inoAt t s.a) (nameOf s.n) else
 if (((s.kind % 8:Nat):Int)==4||((s.kind % 8:Nat):Int)==5)=true then mvN t (inoAt t s.a) (nameOf s.n) (inoAt t s.b) (nameOf s.m) else
 if (((s.kind % 8:Nat):Int)==6)=true then ((putN t (inoAt t s.a) s.data).1,0,(putN t (inoAt t s.a) s.data).2) else
 ((freeN t (inoAt t s.a)).1,0,(freeN t (inoAt t s.a)).2)
set_option maxHeartbeats 2000000 in
theorem c41 (t:Tree) (s:Step) (hz:Sz 1000 t) (hs:s.Ok):acall tabT 41 [eTree t,eStep s] []=some (.tuple [eTree (doneN t s).1,.int .i64 (doneN t s).2.1,.int .i64 (doneN t s).2.2],[]):=by
 obtain ⟨nodes,next,cookie⟩:=t
 obtain ⟨kind,a,b,n,m,data⟩:=s
 obtain ⟨h1,h2,h3,h4,h5,h6⟩:=hs
 simp only at h1 h2 h3 h4 h5 h6
 have ht:Small ⟨nodes,next,cookie⟩:=hz.small (by omega)
 have hn:nodes.length≤100000:=ht.nodes
 have l1:=nameOf_len n
 have l2:=nameOf_len m
 have hm8:(kind:Int).tmod 8=((kind % 8:Nat):Int):=by rw [Int.tmod_eq_emod_of_nonneg (by omega)]; rfl
 have hm2:(m:Int).tmod 2=((m % 2:Nat):Int):=by rw [Int.tmod_eq_emod_of_nonneg (by omega)]; rfl
 have hw:IntKind.i64.wrap (m:Int)=m:=wrapS (by omega) (by omega)
 have hw2:IntKind.i64.wrap (((m % 2:Nat):Int)+1)=((m % 2:Nat):Int)+1:=wrapS (by omega) (by omega)
 have e8:((8:Int)=0)=False:=by simp
 have e2:((2:Int)=0)=False:=by simp
 refine acall_ex rfl rfl rfl ?_
 simp only [fn41,E41,eTree,eTreeC,eStep,eStepC,k79,k80,hn,h2,h3,h4,h5,hm8,e8,EVN,EVT,EVD,↓reduceIte,Nat.reduceEqDiff,reduceCtorEq,Nat.reduceAdd,Nat.reduceLeDiff,ne_eq,Nat.reduceLT,Int.reduceLT,Int.reduceLE,Int.reduceNeg]
 repeat' (first|(refine fork_split (fun hb=>?_) (fun hb=>?_)<;>simp only [hb,EVN,E41,k79,k80,hn,h2,h3,h4,h5,hm8,hm2,e8,e2,hw,hw2,k81,k82,k83,k84,k85,k86,hz,ht,l1,l2,h6,eTree,eTreeC,EVT,EVD,↓reduceIte,Nat.reduceEqDiff,reduceCtorEq,Nat.reduceAdd,Nat.reduceLeDiff,ne_eq,Nat.reduceLT,Int.reduceLT,Int.reduceLE,Int.reduceNeg])|(refine guard_split (fun hb=>?_) (fun hb=>?_)<;>simp only [hb,EVN,E41,k79,k80,hn,h2,h3,h4,h5,hm8,hm2,e8,e2,hw,hw2,k81,k82,k83,k84,k85,k86,hz,ht,l1,l2,h6,eTree,eTreeC,EVT,EVD,↓reduceIte,Nat.reduceEqDiff,reduceCtorEq,Nat.reduceAdd,Nat.reduceLeDiff,ne_eq,Nat.reduceLT,Int.reduceLT,Int.reduceLE,Int.reduceNeg])|(refine opK_pick (fun hb=>?_) (fun hb=>?_)<;>simp only [hb,EVN,E41,k79,k80,hn,h2,h3,h4,h5,hm8,hm2,e8,e2,hw,hw2,k81,k82,k83,k84,k85,k86,hz,ht,l1,l2,h6,eTree,eTreeC,EVT,EVD,↓reduceIte,Nat.reduceEqDiff,reduceCtorEq,Nat.reduceAdd,Nat.reduceLeDiff,ne_eq,Nat.reduceLT,Int.reduceLT,Int.reduceLE,Int.reduceNeg]))
 all_goals (simp_all only [doneN,eTree,eTreeC,BBT,↓reduceIte,reduceCtorEq,bne_self_eq_false]; done)
end Go.Proofs.YtannopdcbocngaaGreatDoor
namespace Go.Proofs.YtannopdcbocngaaGreatDoor
open Go Go.Abs
attribute [local irreducible] exK opsK opK gK forkK kr acall callOp owhen obind
theorem insL_len (e:Ent):∀(l out:List Ent) (d:Bool),(insL e l out d).1.length+(if (insL e l out d).2=true then 0 else 1)≤out.length+l.length+(if d=true then 0 else 1)
 | [],out,d=>by simp only [insL,List.length_nil,Nat.add_zero]; exact Nat.le_refl _
 |m::r,out,d=>by
  rw [insL]
  refine Nat.le_trans (insL_len e r _ _) ?_
  cases d<;>cases h1:gtB m.name e.name<;>simp<;>omega
theorem insE_len (l:List Ent) (e:Ent):(insE l e).length≤l.length+1:=by
 have:=insL_len e l [] false
 unfold insE
 split at this<;>simp_all
theorem Sz.entered {b:Nat} {t:Tree} (h:Sz b t) (ino:Int) (s:Bytes) (of:Int):Sz (b+1) (enteredN t ino s of) :=
 h.with (n:={ nodeN t.nodes ino with ents:=insE (nodeN t.nodes ino).ents ⟨s,of,t.cookie⟩ }) (Nat.le_trans (insE_len _ _) (Nat.succ_le_succ (h.find ino).1)) (h.find ino).2 t.next (w64 (t.cookie+1))
theorem Sz.add {b:Nat} {t:Tree} (h:Sz b t) (ino:Int) (s:Bytes) (kind:Int):Sz (b+5) (addN t ino s kind).1:=by
 unfold addN
 split
 ·exact h.up (by omega)
 ·split
  ·exact h.up (by omega)
  ·split
   ·exact h.up (by omega)
   ·exact ((h.with (n:=⟨t.next,kind,1,[],[],if (kind==2)=true then ino else 0⟩) (by simp) (by simp) (w64 (t.next+1)) t.cookie).entered ino s t.next).up (by omega)
theorem Sz.ln {b:Nat} {t:Tree} (h:Sz b t) (ino to:Int) (s:Bytes):Sz (b+5) (lnN t ino to s).1:=by
 unfold lnN
 split
 ·exact h.up (by omega)
 ·split
  ·exact h.up (by omega)
  ·split
   ·exact h.up (by omega)
   ·exact ((h.with (n:={ nodeN t.nodes ino with links:=w64 ((nodeN t.nodes ino).links+1) }) (Nat.le_succ_of_le (h.find ino).1) (h.find ino).2 t.next t.cookie).entered to s ino).up (by omega)
theorem Sz.un {b:Nat} {t:Tree} (h:Sz b t) (ino:Int) (s:Bytes):Sz (b+5) (unN t ino s).1:=by
 unfold unN
 split
 ·exact h.up (by omega)
 ·split
  ·exact h.up (by omega)
  ·exact ((h.left ino s t.next t.cookie).unnamed _ t.next t.cookie).up (by omega)
theorem Sz.put {b:Nat} {t:Tree} (h:Sz b t) (ino:Int) (data:Bytes) (hd:data.length≤100000):Sz (b+5) (putN t ino data).1:=by
 unfold putN
 split
 ·exact h.up (by omega)
 ·split
  ·exact h.up (by omega)
  ·split
   ·exact h.up (by omega)
   ·exact (h.with (n:={ nodeN t.nodes ino with data:=data }) (Nat.le_succ_of_le (h.find ino).1) hd t.next t.cookie).up (by omega)
theorem Sz.free {b:Nat} {t:Tree} (h:Sz b t) (ino:Int):Sz (b+5) (freeN t ino).1:=by
 unfold freeN
 split
 ·exact h.up (by omega)
 ·split
  ·exact h.up (by omega)
  ·split
   ·exact h.up (by omega)
   ·exact (h.without ino t.next t.cookie).up (by omega)
theorem Sz.move {b:Nat} {t:Tree} (h:Sz b t) (frm:Int) (s:Bytes) (to:Int) (nm:Bytes) (ino y:Int):Sz (b+5) (moveN t frm s to nm ino y):=by
 unfold moveN
 have z1:=h.left frm s t.next t.cookie
 have z3:=(z1.left to nm t.next t.cookie).unnamed y t.next t.cookie
 have z:Sz (b+3) ⟨if (y != 0)=true then unnamedN (leftN (leftN t.nodes frm s) to nm) y else leftN t.nodes frm s,t.next,t.cookie⟩:=by
  split
  ·exact z3
  ·exact z1.up (by omega)
 split
 ·exact ((z.with (n:={ nodeN t.nodes ino with up:=to }) (Nat.le_trans (h.find ino).1 (by omega)) (h.find ino).2 t.next t.cookie).entered to nm ino).up (by omega)
 ·exact (z.entered to nm ino).up (by omega)
theorem Sz.mv {b:Nat} {t:Tree} (h:Sz b t) (frm:Int) (s:Bytes) (to:Int) (nm:Bytes):Sz (b+5) (mvN t frm s to nm).1:=by
 unfold mvN
 repeat' split
 all_goals first
  |exact h.up (by omega)
  |exact h.move frm s to nm _ _
theorem Sz.done {b:Nat} {t:Tree} (h:Sz b t) (s:Step) (hs:s.Ok):Sz (b+5) (doneN t s).1:=by
 unfold doneN
 repeat' split
 all_goals first
  |exact h.add _ _ _
  |exact h.ln _ _ _
  |exact h.un _ _
  |exact h.mv _ _ _ _
  |exact h.put _ _ hs.data
  |exact h.free _
def madeN (l:List Step):Tree:=l.foldl (fun t s=>(doneN t s).1) newN
theorem Sz.newN:Sz 1 newN:=⟨by simp [Go.Proofs.YtannopdcbocngaaGreatDoor.newN],fun n hn=>by simp [Go.Proofs.YtannopdcbocngaaGreatDoor.newN] at hn; subst hn; simp,fun n hn=>by simp [Go.Proofs.YtannopdcbocngaaGreatDoor.newN] at hn; subst hn; simp⟩
theorem k41 (nodes:List Node) (next cookie:Int) (s:Step) (hz:Sz 1000 ⟨nodes,next,cookie⟩) (hs:s.Ok) (M:AMem):callOp (acall tabT) 41 [.agg [eNodes nodes,.int .i64 next,.int .i64 cookie],.agg (eStepC s)] M =
  some (.tuple [eTree (doneN ⟨nodes,next,cookie⟩ s).1,.int .i64 (doneN ⟨nodes,next,cookie⟩ s).2.1,.int .i64 (doneN ⟨nodes,next,cookie⟩ s).2.2],M):=callOp0 (c41 ⟨nodes,next,cookie⟩ s hz hs) rfl rfl rfl rfl rfl M
theorem loop14 {steps:List Step} (hl:steps.length≤100) (ho:∀s,s∈steps→s.Ok) {k:List K} {R:Tree→Option (AVal×AMem)}
  (hx:∀t v q,kr (acall tabT) [.cellA 2 3] 0 k ⟨.exit 0,[(0,.slice .sh (steps.map eStep)),(2,.ptr 0 0),(3,.ptr 1 0),(4,v),(12,q)],[.cells zT,.cells (eTreeC t)]⟩=R t) :
  ∀(l pre:List Step) (t:Tree),steps=pre++l→Sz (1+5*pre.length) t→exK (acall tabT) [.cellA 2 3] 0 k (.loop [0,2,3,4] lb14_0) [(0,.slice .sh (steps.map eStep)),(2,.ptr 0 0),(3,.ptr 1 0),(4,.int .i64 pre.length)] [.cells zT,.cells (eTreeC t)]=R (l.foldl (fun t s=>(doneN t s).1) t):=by
 intro l
 induction l with
 |nil =>
  intro pre t h hz
  rw [exK_loop]
  simp only [E14,lt_end h,EVN,EVT,EVD,↓reduceIte,Nat.reduceEqDiff,reduceCtorEq,Nat.reduceAdd,Nat.reduceLeDiff,ne_eq,Nat.reduceLT,Int.reduceLT,Int.reduceLE,Int.reduceNeg]
  exact hx _ _ _
 |cons n r ih =>
  intro pre t h hz
  have hlen:pre.length+1≤100:=by rw [h] at hl; simp at hl; omega
  have hw:IntKind.i64.wrap ((pre.length:Int)+1)=((pre++[n]).length:Int):=by rw [wrapS (by omega) (by omega)]; exact step_len
  have hok:n.Ok:=ho n (by rw [h]; simp)
  have hd:Sz (1+5*(pre++[n]).length) (doneN t n).1:=(hz.done n hok).up (by simp; omega)
  have hi:=ih (pre++[n]) (doneN t n).1 (by rw [h]; simp) hd
  have hz':Sz 1000 ⟨t.nodes,t.next,t.cookie⟩:=hz.up (by omega)
  have ht4:List.take 6 (eStepC n)=eStepC n:=rfl
  have hsh:List.map AVal.shut (eStepC n)=eStepC n:=rfl
  have hid:List.flatMap AVal.ids1 (eStepC n)=[]:=rfl
  simp only [List.length_append,List.length_cons,List.length_nil] at hi
  rw [exK_loop,List.foldl_cons]
  simp only [E14,lt_mid h,at_mid h,eTreeC,zT,k41,hz',hok,ht4,hsh,hid,eTree,hw,EVN,EVT,EVD,↓reduceIte,Nat.reduceEqDiff,reduceCtorEq,Nat.reduceAdd,Nat.reduceLeDiff,ne_eq,Nat.reduceLT,Int.reduceLT,Int.reduceLE,Int.reduceNeg]
  exact hi
theorem c14 (steps:List Step) (hl:steps.length≤100) (ho:∀s,s∈steps→s.Ok):acall tabT 14 [.slice .sh (steps.map eStep)] []=some (eTree (madeN steps),[]):=by
 refine acall_ex rfl rfl rfl ?_
 simp only [fn14,E14,k40,eTree,eTreeC,EVN,EVT,EVD,↓reduceIte,Nat.reduceEqDiff,reduceCtorEq,Nat.reduceAdd,Nat.reduceLeDiff,ne_eq,Nat.reduceLT,Int.reduceLT,Int.reduceLE,Int.reduceNeg]
 exact loop14 (R:=fun t=>some (eTree t,[])) hl ho (fun t v q=>by simp only [E14,zT,eTree,eTreeC,EVN,EVT,EVD,↓reduceIte,Nat.reduceEqDiff,reduceCtorEq,Nat.reduceAdd,Nat.reduceLeDiff,ne_eq,Nat.reduceLT,Int.reduceLT,Int.reduceLE,Int.reduceNeg]) steps [] newN rfl Sz.newN
theorem madeN_sz (steps:List Step) (ho:∀s,s∈steps→s.Ok):Sz (1+5*steps.length) (madeN steps):=by
 have key:∀(l:List Step) (b:Nat) (t:Tree),(∀s,s∈l→s.Ok)→Sz b t→Sz (b+5*l.length) (l.foldl (fun t s=>(doneN t s).1) t):=by
  intro l
  induction l with
  |nil=>intro b t _ h; exact h
  |cons s r ih =>
   intro b t ho h
   exact (ih (b+5) _ (fun x hx=>ho x (List.mem_cons_of_mem _ hx)) (h.done s (ho s (List.mem_cons_self ..)))).up (by simp; omega)
 exact key steps 1 newN ho Sz.newN
theorem k14 (steps:List Step) (hl:steps.length≤100) (ho:∀s,s∈steps→s.Ok) (M:AMem):callOp (acall tabT) 14 [.slice .sh (steps.map eStep)] M=some (eTree (madeN steps),M):=callOp0 (c14 steps hl ho) rfl rfl rfl rfl rfl M
end Go.Proofs.YtannopdcbocngaaGreatDoor
namespace Go.Proofs.YtannopdcbocngaaGreatDoor
open Go Go.Abs
attribute [local irreducible] exK opsK opK gK forkK kr acall callOp owhen obind
theorem tkN (n:Node):List.take 6 (eNodeC n)=eNodeC n:=rfl
theorem shN (n:Node):List.map AVal.shut (eNodeC n)=eNodeC n:=rfl
theorem tkE (n:Ent):List.take 3 (eEntC n)=eEntC n:=rfl
theorem shE (n:Ent):List.map AVal.shut (eEntC n)=eEntC n:=rfl
theorem c172 (a:Int):acall tabT 172 [.int .i64 a] []=some (.bool false,[]):=by
 refine acall_ex rfl rfl rfl ?_
 simp only [fn172,E172,bne_self_eq_false,EVN,EVT,EVD,↓reduceIte,Nat.reduceEqDiff,reduceCtorEq,Nat.reduceAdd,Nat.reduceLeDiff,ne_eq,Nat.reduceLT,Int.reduceLT,Int.reduceLE,Int.reduceNeg]
theorem k172 (a:Int) (M:AMem):callOp (acall tabT) 172 [.int .i64 a] M=some (.bool false,M):=callOp0 (c172 a) rfl rfl rfl rfl rfl M
def cmpI (a b:Int):Int:=if decide (a<b)=true then -1 else if decide (b<a)=true then 1 else 0
theorem c149 (a b:Int):acall tabT 149 [.int .i64 a,.int .i64 b] []=some (.int .i64 (cmpI a b),[]):=by
 refine acall_ex rfl rfl rfl ?_
 simp only [fn149,E149,k172,EVN,EVT,EVD,↓reduceIte,Nat.reduceEqDiff,reduceCtorEq,Nat.reduceAdd,Nat.reduceLeDiff,ne_eq,Nat.reduceLT,Int.reduceLT,Int.reduceLE,Int.reduceNeg]
 repeat' (first|(refine fork_split (fun hb=>?_) (fun hb=>?_)<;>simp only [hb,EVN,E149,EVT,EVD,↓reduceIte,Nat.reduceEqDiff,reduceCtorEq,Nat.reduceAdd,Nat.reduceLeDiff,ne_eq,Nat.reduceLT,Int.reduceLT,Int.reduceLE,Int.reduceNeg])|(refine guard_split (fun hb=>?_) (fun hb=>?_)<;>simp only [hb,EVN,E149,EVT,EVD,↓reduceIte,Nat.reduceEqDiff,reduceCtorEq,Nat.reduceAdd,Nat.reduceLeDiff,ne_eq,Nat.reduceLT,Int.reduceLT,Int.reduceLE,Int.reduceNeg])|(refine opK_pick (fun hb=>?_) (fun hb=>?_)<;>simp only [hb,EVN,E149,EVT,EVD,↓reduceIte,Nat.reduceEqDiff,reduceCtorEq,Nat.reduceAdd,Nat.reduceLeDiff,ne_eq,Nat.reduceLT,Int.reduceLT,Int.reduceLE,Int.reduceNeg]))
 all_goals (simp_all only [cmpI,BBT,↓reduceIte,reduceCtorEq,bne_self_eq_false]; done)
theorem k149 (a b:Int) (M:AMem):callOp (acall tabT) 149 [.int .i64 a,.int .i64 b] M=some (.int .i64 (cmpI a b),M):=callOp0 (c149 a b) rfl rfl rfl rfl rfl M
theorem cmpI_lt (a b:Int):(cmpI a b<0)=(a<b):=by
 unfold cmpI
 by_cases h1:a<b
 ·simp [h1]
 ·by_cases h2:b<a<;>simp [h1,h2]
theorem cmpI_eq (a b:Int):(cmpI a b==0)=(a==b):=by
 unfold cmpI
 by_cases h1:a<b
 ·have:¬a=b:=by omega
  simp [h1,this]
 ·by_cases h2:b<a
  ·have:¬a=b:=by omega
   simp [h1,h2,this]
  ·have:a=b:=by omega
   simp [this]
theorem c148 (n:Node) (ino:Int):acall tabT 148 [eNode n,.int .i64 ino] []=some (.int .i64 (cmpI n.ino ino),[]):=by
 refine acall_ex rfl rfl rfl ?_
 simp only [fn148,E148,eNode,eNodeC,k149,EVN,EVT,EVD,↓reduceIte,Nat.reduceEqDiff,reduceCtorEq,Nat.reduceAdd,Nat.reduceLeDiff,ne_eq,Nat.reduceLT,Int.reduceLT,Int.reduceLE,Int.reduceNeg]
theorem k148 (n:Node) (ino:Int) (M:AMem):callOp (acall tabT) 148 [.agg (eNodeC n),.int .i64 ino] M=some (.int .i64 (cmpI n.ino ino),M):=callOp0 (c148 n ino) rfl rfl rfl rfl rfl M
structure LowI (nodes:List Node) (ino:Int) (b:Nat):Prop where
 le:b≤nodes.length
 lt:∀h n,nodes[h]?=some n→(n.ino<ino↔h<b)
theorem mid_eq (i j:Nat) (hj:j≤100000) (hi:i≤j):IntKind.i64.wrap ((i:Int)+(j:Int))=((i+j:Nat):Int)∧IntKind.u64.wrap ((i+j:Nat):Int)=((i+j:Nat):Int) ∧
  (((i+j:Nat):Int)).fdiv (2 ^ min (Int.toNat 1) IntKind.u64.bits)=(((i+j) / 2:Nat):Int)∧IntKind.i64.wrap (((i+j) / 2:Nat):Int)=(((i+j) / 2:Nat):Int)∧IntKind.i64.wrap ((((i+j) / 2:Nat):Int)+1)=(((i+j) / 2+1:Nat):Int):=by
 refine ⟨?_,?_,?_,?_,?_⟩
 ·rw [wrapS (by omega) (by omega)]; rfl
 ·have:IntKind.u64.wrap ((i+j:Nat):Int)=((i+j:Nat):Int) % 18446744073709551616:=by simp [IntKind.wrap,IntKind.bits,IntKind.signed]
  rw [this]; omega
 ·have:(2:Int) ^ min (Int.toNat 1) IntKind.u64.bits=2:=by decide
  rw [this,Int.fdiv_eq_ediv_of_nonneg _ (by omega)]; omega
 ·exact wrapS (by omega) (by omega)
 ·rw [wrapS (by omega) (by omega)]; rfl
theorem loop147 {nodes:List Node} {ino:Int} {b:Nat} (hb:LowI nodes ino b) (hn:nodes.length≤100000) {k:List K} {r:Option (AVal×AMem)}
  (hx:∀v q,kr (acall tabT) [.tmp 6,.tmp 7] 0 k ⟨.exit 0,[(0,eNodes nodes),(1,.int .i64 ino),(2,.func 148 []),(8,.int .i64 nodes.length),(9,.int .i64 b),(10,v),(17,q)],[]⟩=r) :
  ∀(f i j:Nat),j-i≤f→i≤b→b≤j→j≤nodes.length→exK (acall tabT) [.tmp 6,.tmp 7] 0 k (.loop [0,1,2,8,9,10] lb147_0) [(0,eNodes nodes),(1,.int .i64 ino),(2,.func 148 []),(8,.int .i64 nodes.length),(9,.int .i64 i),(10,.int .i64 j)] []=r:=by
 intro f
 induction f with
 |zero =>
  intro i j h1 h2 h3 h4
  obtain rfl:i=b:=by omega
  rw [exK_loop]
  have hlt:((i:Int)<(j:Int))=False:=by simp; omega
  simp only [E147,hlt,EVN,EVT,EVD,↓reduceIte,Nat.reduceEqDiff,reduceCtorEq,Nat.reduceAdd,Nat.reduceLeDiff,ne_eq,Nat.reduceLT,Int.reduceLT,Int.reduceLE,Int.reduceNeg]
  exact hx _ _
 |succ f ih =>
  intro i j h1 h2 h3 h4
  rw [exK_loop]
  by_cases hij:i<j
  ·have hlt:((i:Int)<(j:Int))=True:=by simp; omega
   obtain ⟨m1,m2,m3,m4,m5⟩:=mid_eq i j (by omega) (by omega)
   have hmid:(i+j) / 2<nodes.length:=by omega
   have hx:=List.getElem?_eq_getElem hmid
   have hl:=hb.lt _ _ hx
   simp only [E147,hlt,m1,m2,m3,m4,hx,k148,cmpI_lt,tkN,shN,EVN,EVT,EVD,↓reduceIte,Nat.reduceEqDiff,reduceCtorEq,Nat.reduceAdd,Nat.reduceLeDiff,ne_eq,Nat.reduceLT,Int.reduceLT,Int.reduceLE,Int.reduceNeg]
   refine fork_split (fun hq=>?_) (fun hq=>?_)
   ·have hq:nodes[(i+j) / 2].ino<ino:=by simpa using hq
    simp only [E147,m5,EVN,EVT,EVD,↓reduceIte,Nat.reduceEqDiff,reduceCtorEq,Nat.reduceAdd,Nat.reduceLeDiff,ne_eq,Nat.reduceLT,Int.reduceLT,Int.reduceLE,Int.reduceNeg]
    exact ih ((i+j) / 2+1) j (by omega) (hl.1 hq) h3 h4
   ·have hq:¬nodes[(i+j) / 2].ino<ino:=by simpa using hq
    simp only [E147,EVN,EVT,EVD,↓reduceIte,Nat.reduceEqDiff,reduceCtorEq,Nat.reduceAdd,Nat.reduceLeDiff,ne_eq,Nat.reduceLT,Int.reduceLT,Int.reduceLE,Int.reduceNeg]
    exact ih i ((i+j) / 2) (by omega) h2 (Nat.not_lt.1 fun h=>hq (hl.2 h)) (by omega)
  ·obtain rfl:i=b:=by omega
   have hlt:((i:Int)<(j:Int))=False:=by simp; omega
   simp only [E147,hlt,EVN,EVT,EVD,↓reduceIte,Nat.reduceEqDiff,reduceCtorEq,Nat.reduceAdd,Nat.reduceLeDiff,ne_eq,Nat.reduceLT,Int.reduceLT,Int.reduceLE,Int.reduceNeg]
   exact hx _ _
def isAt (nodes:List Node) (ino:Int) (b:Nat):Bool:=match nodes[b]? with
 |some n=>n.ino==ino
 |none=>false
theorem c147 (nodes:List Node) (ino:Int) (b:Nat) (hb:LowI nodes ino b) (hn:nodes.length≤100000):acall tabT 147 [eNodes nodes,.int .i64 ino,.func 148 []] []=some (.tuple [.int .i64 b,.bool (isAt nodes ino b)],[]):=by
 refine acall_ex rfl rfl rfl ?_
 simp only [fn147,E147,EVN,EVT,EVD,↓reduceIte,Nat.reduceEqDiff,reduceCtorEq,Nat.reduceAdd,Nat.reduceLeDiff,ne_eq,Nat.reduceLT,Int.reduceLT,Int.reduceLE,Int.reduceNeg]
 refine loop147 hb hn (fun v q=>?_) nodes.length 0 nodes.length (by omega) (by omega) hb.le (by omega)
 unfold isAt
 by_cases hlt:b<nodes.length
 ·have hx:=List.getElem?_eq_getElem hlt
  have h1:((b:Int)<(nodes.length:Int))=True:=by simp; omega
  simp only [E147,hx,h1,k148,cmpI_eq,tkN,shN,EVN,EVT,EVD,↓reduceIte,Nat.reduceEqDiff,reduceCtorEq,Nat.reduceAdd,Nat.reduceLeDiff,ne_eq,Nat.reduceLT,Int.reduceLT,Int.reduceLE,Int.reduceNeg]
 ·have hx:nodes[b]?=none:=List.getElem?_eq_none (by omega)
  have h1:((b:Int)<(nodes.length:Int))=False:=by simp; omega
  simp only [E147,hx,h1,EVN,EVT,EVD,↓reduceIte,Nat.reduceEqDiff,reduceCtorEq,Nat.reduceAdd,Nat.reduceLeDiff,ne_eq,Nat.reduceLT,Int.reduceLT,Int.reduceLE,Int.reduceNeg]
theorem k147 (nodes:List Node) (ino:Int) (b:Nat) (hb:LowI nodes ino b) (hn:nodes.length≤100000) (M:AMem):callOp (acall tabT) 147 [eNodes nodes,.int .i64 ino,.func 148 []] M=some (.tuple [.int .i64 b,.bool (isAt nodes ino b)],M) :=
 callOp0 (c147 nodes ino b hb hn) rfl rfl rfl rfl rfl M
end Go.Proofs.YtannopdcbocngaaGreatDoor
namespace Go.Proofs.YtannopdcbocngaaGreatDoor
open Go Go.Abs
attribute [local irreducible] exK opsK opK gK forkK kr acall callOp owhen obind
def Asc (nodes:List Node):Prop:=nodes.Pairwise fun a b=>a.ino<b.ino
def lowB (nodes:List Node) (ino:Int):Nat:=(nodes.takeWhile fun n=>decide (n.ino<ino)).length
theorem lowI_of {nodes:List Node} (h:Asc nodes) (ino:Int):LowI nodes ino (lowB nodes ino):=by
 unfold lowB
 induction nodes with
 |nil=>exact ⟨by simp,fun h n hn=>by simp at hn⟩
 |cons a r ih =>
  obtain ⟨h1,h2⟩:=List.pairwise_cons.1 h
  obtain ⟨i1,i2⟩:=ih h2
  by_cases ha:a.ino<ino
  ·rw [List.takeWhile_cons,if_pos (by simpa using ha)]
   refine ⟨by simpa using i1,fun k n hn=>?_⟩
   cases k with
   |zero=>simp at hn; subst hn; simp [ha]
   |succ k=>rw [i2 k n (by simpa using hn)]; simp
  ·rw [List.takeWhile_cons,if_neg (by simpa using ha)]
   refine ⟨by simp,fun k n hn=>?_⟩
   simp only [List.length_nil,Nat.not_lt_zero,iff_false]
   cases k with
   |zero=>simp at hn; subst hn; exact ha
   |succ k =>
    have:=h1 n (List.mem_of_getElem? (by simpa using hn))
    omega
theorem at_find {nodes:List Node} (h:Asc nodes) (ino:Int):(isAt nodes ino (lowB nodes ino)=true∧∃n,nodes[lowB nodes ino]?=some n∧find nodes ino=some n∧n.ino=ino)∨(isAt nodes ino (lowB nodes ino)=false∧find nodes ino=none):=by
 obtain ⟨l1,l2⟩:=lowI_of h ino
 cases hf:find nodes ino with
 |some n =>
  left
  obtain ⟨hm,he⟩:=find_mem hf
  obtain ⟨k,hk⟩:=List.getElem?_of_mem hm
  have hkb:¬k<lowB nodes ino:=fun hc=>by have:=(l2 k n hk).2 hc; omega
  have hb:lowB nodes ino<nodes.length:=by have:=(List.getElem?_eq_some_iff.1 hk).1; omega
  have hx:=List.getElem?_eq_getElem hb
  have hnl:¬nodes[lowB nodes ino].ino<ino:=fun hc=>Nat.lt_irrefl _ ((l2 _ _ hx).1 hc)
  have hke:k=lowB nodes ino:=by
   rcases Nat.lt_or_ge (lowB nodes ino) k with hlt|hge
   ·have hkl:=(List.getElem?_eq_some_iff.1 hk).1
    have h3:=List.pairwise_iff_getElem.1 h _ _ hb hkl hlt
    have h4:nodes[k]=n:=by rw [List.getElem?_eq_getElem hkl] at hk; injection hk
    rw [h4] at h3
    omega
   ·omega
  subst hke
  exact ⟨by unfold isAt; rw [hk]; simp [he],n,hk,rfl,he⟩
 |none =>
  right
  refine ⟨?_,rfl⟩
  unfold isAt
  split
  ·rename_i n hn
   have:=List.find?_eq_none.1 hf n (List.mem_of_getElem? hn)
   simpa using this
  ·rfl
theorem set_nth {M:AMem} {p:Nat} {b:ABox} (h:nth M p=some b):setN M p b=M:=by
 rw [nth_eq] at h; rw [setN_eq]
 apply List.ext_getElem?
 intro i
 by_cases e:p=i
 ·subst e; rw [set_same (lt_of_some h),h]
 ·rw [set_other e]
theorem c105 (nodes:List Node) (next cookie ino:Int) (h:Asc nodes) (hn:nodes.length≤100000):acall tabT 105 [.ptr 0 0,.int .i64 ino] [.cells [eNodes nodes,.int .i64 next,.int .i64 cookie]] =
  some (.tuple [.int .i64 (lowB nodes ino),.bool (isAt nodes ino (lowB nodes ino))],[.cells [eNodes nodes,.int .i64 next,.int .i64 cookie]]):=by
 refine acall_ex rfl rfl rfl ?_
 have hk:=k147 nodes ino _ (lowI_of h ino) hn
 simp only [fn105,E105,hk,EVN,EVT,EVD,↓reduceIte,Nat.reduceEqDiff,reduceCtorEq,Nat.reduceAdd,Nat.reduceLeDiff,ne_eq,Nat.reduceLT,Int.reduceLT,Int.reduceLE,Int.reduceNeg]
theorem k105 (nodes:List Node) (next cookie ino:Int) (h:Asc nodes) (hn:nodes.length≤100000) (p:Nat) (M:AMem) (hM:nth M p=some (.cells [eNodes nodes,.int .i64 next,.int .i64 cookie])) :
  callOp (acall tabT) 105 [.ptr p 0,.int .i64 ino] M=some (.tuple [.int .i64 (lowB nodes ino),.bool (isAt nodes ino (lowB nodes ino))],M):=by
 have:=callOp1 hM (c105 nodes next cookie ino h hn) rfl rfl rfl rfl rfl rfl rfl rfl rfl rfl
 rwa [set_nth hM] at this
theorem c75 (nodes:List Node) (next cookie ino:Int) (h:Asc nodes) (hn:nodes.length≤100000):acall tabT 75 [.ptr 0 0,.int .i64 ino] [.cells [eNodes nodes,.int .i64 next,.int .i64 cookie]] =
  some (.tuple [eNode (nodeN nodes ino),.bool (find nodes ino).isSome],[.cells [eNodes nodes,.int .i64 next,.int .i64 cookie]]):=by
 refine acall_ex rfl rfl rfl ?_
 have hk:=fun M=>k105 nodes next cookie ino h hn 0 (.cells [eNodes nodes,.int .i64 next,.int .i64 cookie]::M) rfl
 simp only [fn75,E75,hk,EVN,EVT,EVD,↓reduceIte,Nat.reduceEqDiff,reduceCtorEq,Nat.reduceAdd,Nat.reduceLeDiff,ne_eq,Nat.reduceLT,Int.reduceLT,Int.reduceLE,Int.reduceNeg]
 rcases at_find h ino with ⟨h1,n,h2,h3,h4⟩|⟨h1,h2⟩
 ·simp only [E75,h1,h2,h3,nodeN,eNodeC,EVN,EVT,EVD,↓reduceIte,Nat.reduceEqDiff,reduceCtorEq,Nat.reduceAdd,Nat.reduceLeDiff,ne_eq,Nat.reduceLT,Int.reduceLT,Int.reduceLE,Int.reduceNeg]
  rfl
 ·simp only [E75,h1,h2,nodeN,EVN,EVT,EVD,↓reduceIte,Nat.reduceEqDiff,reduceCtorEq,Nat.reduceAdd,Nat.reduceLeDiff,ne_eq,Nat.reduceLT,Int.reduceLT,Int.reduceLE,Int.reduceNeg]
  rfl
theorem k75 (nodes:List Node) (next cookie ino:Int) (h:Asc nodes) (hn:nodes.length≤100000) (p:Nat) (M:AMem) (hM:nth M p=some (.cells [eNodes nodes,.int .i64 next,.int .i64 cookie])) :
  callOp (acall tabT) 75 [.ptr p 0,.int .i64 ino] M=some (.tuple [eNode (nodeN nodes ino),.bool (find nodes ino).isSome],M):=by
 have:=callOp1 hM (c75 nodes next cookie ino h hn) rfl rfl rfl rfl rfl rfl rfl rfl rfl rfl
 rwa [set_nth hM] at this
theorem c103 (nodes:List Node) (next cookie ino:Int) (h:Asc nodes) (hn:nodes.length≤100000):acall tabT 103 [.ptr 0 0,.int .i64 ino] [.cells [eNodes nodes,.int .i64 next,.int .i64 cookie]] =
  some (.tuple [eNode (dirN nodes ino).1,.int .i64 (dirN nodes ino).2],[.cells [eNodes nodes,.int .i64 next,.int .i64 cookie]]):=by
 refine acall_ex rfl rfl rfl ?_
 have hk:=fun M=>k75 nodes next cookie ino h hn 0 (.cells [eNodes nodes,.int .i64 next,.int .i64 cookie]::M) rfl
 simp only [fn103,E103,hk,eNode,eNodeC,EVN,EVT,EVD,↓reduceIte,Nat.reduceEqDiff,reduceCtorEq,Nat.reduceAdd,Nat.reduceLeDiff,ne_eq,Nat.reduceLT,Int.reduceLT,Int.reduceLE,Int.reduceNeg]
 unfold dirN
 cases hf:find nodes ino with
 |none=>simp only [E103,nodeN,hf,Option.isSome,EVN,EVT,EVD,↓reduceIte,Nat.reduceEqDiff,reduceCtorEq,Nat.reduceAdd,Nat.reduceLeDiff,ne_eq,Nat.reduceLT,Int.reduceLT,Int.reduceLE,Int.reduceNeg]; first|done|rfl
 |some n =>
  simp only [E103,nodeN,hf,Option.isSome,Option.getD_some,EVN,EVT,EVD,↓reduceIte,Nat.reduceEqDiff,reduceCtorEq,Nat.reduceAdd,Nat.reduceLeDiff,ne_eq,Nat.reduceLT,Int.reduceLT,Int.reduceLE,Int.reduceNeg]
  repeat' (first|(refine fork_split (fun hb=>?_) (fun hb=>?_)<;>simp only [hb,EVN,E103,EVT,EVD,↓reduceIte,Nat.reduceEqDiff,reduceCtorEq,Nat.reduceAdd,Nat.reduceLeDiff,ne_eq,Nat.reduceLT,Int.reduceLT,Int.reduceLE,Int.reduceNeg])|(refine guard_split (fun hb=>?_) (fun hb=>?_)<;>simp only [hb,EVN,E103,EVT,EVD,↓reduceIte,Nat.reduceEqDiff,reduceCtorEq,Nat.reduceAdd,Nat.reduceLeDiff,ne_eq,Nat.reduceLT,Int.reduceLT,Int.reduceLE,Int.reduceNeg])|(refine opK_pick (fun hb=>?_) (fun hb=>?_)<;>simp only [hb,EVN,E103,EVT,EVD,↓reduceIte,Nat.reduceEqDiff,reduceCtorEq,Nat.reduceAdd,Nat.reduceLeDiff,ne_eq,Nat.reduceLT,Int.reduceLT,Int.reduceLE,Int.reduceNeg]))
  all_goals (clear hk; simp_all [Node.zero])
theorem k103 (nodes:List Node) (next cookie ino:Int) (h:Asc nodes) (hn:nodes.length≤100000) (p:Nat) (M:AMem) (hM:nth M p=some (.cells [eNodes nodes,.int .i64 next,.int .i64 cookie])) :
  callOp (acall tabT) 103 [.ptr p 0,.int .i64 ino] M=some (.tuple [eNode (dirN nodes ino).1,.int .i64 (dirN nodes ino).2],M):=by
 have:=callOp1 hM (c103 nodes next cookie ino h hn) rfl rfl rfl rfl rfl rfl rfl rfl rfl rfl
 rwa [set_nth hM] at this
end Go.Proofs.YtannopdcbocngaaGreatDoor
namespace Go.Proofs.YtannopdcbocngaaGreatDoor
open Go Go.Abs
attribute [local irreducible] exK opsK opK gK forkK kr acall callOp owhen obind
def Ascii (s:Bytes):Prop:=∀b,b∈s→b.toNat<128
theorem dec_mid {s pre r:Bytes} {n:UInt8} (h:s=pre++n::r) (ha:Ascii s):Utf8.decode ⟨s.toArray⟩ pre.length=(n.toNat,1):=by
 have hlt:pre.length<(⟨s.toArray⟩:ByteArray).size:=by show pre.length<s.toArray.size; rw [h]; simp
 have hg:(⟨s.toArray⟩:ByteArray)[pre.length]'hlt=n:=by
  show s.toArray[pre.length]'_=n
  subst h; simp
 have:=decode_ascii ⟨s.toArray⟩ pre.length hlt (by rw [hg]; exact ha n (by rw [h]; simp))
 rw [this,hg]
theorem loop102 {s:Bytes} (hs:s.length≤100000) (ha:Ascii s) {k:List K} {R:Bool→Option (AVal×AMem)}
  (hx:∀e p,kr (acall tabT) [.tmp 2] 0 k ⟨.exit 0,e,[.siter s p]⟩=R true) (hr:∀p,kr (acall tabT) [.tmp 2] 0 k ⟨.ret,[(2,.bool false)],[.siter s p]⟩=R false) :
  ∀(l pre:Bytes),s=pre++l→exK (acall tabT) [.tmp 2] 0 k (.loop [21] lb102_0) [(21,.iref 0)] [.siter s pre.length]=R (l.all okByte):=by
 intro l
 induction l with
 |nil =>
  intro pre h
  rw [exK_loop]
  have hlt:(pre.length<s.length)=False:=by rw [h]; simp
  simp only [E102,hlt,EVN,EVT,EVD,↓reduceIte,Nat.reduceEqDiff,reduceCtorEq,Nat.reduceAdd,Nat.reduceLeDiff,ne_eq,Nat.reduceLT,Int.reduceLT,Int.reduceLE,Int.reduceNeg]
  exact hx _ _
 |cons n r ih =>
  intro pre h
  rw [exK_loop]
  have hlt:(pre.length<s.length)=True:=by rw [h]; simp
  have hd:=dec_mid h ha
  have hi:=ih (pre++[n]) (by rw [h]; simp)
  simp only [List.length_append,List.length_cons,List.length_nil,Nat.zero_add] at hi
  simp only [E102,hlt,hd,EVN,EVT,EVD,↓reduceIte,Nat.reduceEqDiff,reduceCtorEq,Nat.reduceAdd,Nat.reduceLeDiff,ne_eq,Nat.reduceLT,Int.reduceLT,Int.reduceLE,Int.reduceNeg]
  repeat' (first|(refine fork_split (fun hb=>?_) (fun hb=>?_)<;>simp only [hb,EVN,E102,hd,EVT,EVD,↓reduceIte,Nat.reduceEqDiff,reduceCtorEq,Nat.reduceAdd,Nat.reduceLeDiff,ne_eq,Nat.reduceLT,Int.reduceLT,Int.reduceLE,Int.reduceNeg])|(refine guard_split (fun hb=>?_) (fun hb=>?_)<;>simp only [hb,EVN,E102,hd,EVT,EVD,↓reduceIte,Nat.reduceEqDiff,reduceCtorEq,Nat.reduceAdd,Nat.reduceLeDiff,ne_eq,Nat.reduceLT,Int.reduceLT,Int.reduceLE,Int.reduceNeg])|(refine opK_pick (fun hb=>?_) (fun hb=>?_)<;>simp only [hb,EVN,E102,hd,EVT,EVD,↓reduceIte,Nat.reduceEqDiff,reduceCtorEq,Nat.reduceAdd,Nat.reduceLeDiff,ne_eq,Nat.reduceLT,Int.reduceLT,Int.reduceLE,Int.reduceNeg]))
  all_goals first
   |(refine (hr _).trans ?_; congr 1; symm; clear hi ih hx hr hd h; simp_all [okByte]; done)
   |(refine hi.trans ?_; congr 1; symm; clear hi ih hx hr hd h; simp_all [okByte]; done)
theorem c102 (s:Bytes) (hs:s.length≤100000) (ha:Ascii s):acall tabT 102 [.str s] []=some (.bool (nameOk s),[]):=by
 refine acall_ex rfl rfl rfl ?_
 simp only [fn102,E102,EVN,EVT,EVD,↓reduceIte,Nat.reduceEqDiff,reduceCtorEq,Nat.reduceAdd,Nat.reduceLeDiff,ne_eq,Nat.reduceLT,Int.reduceLT,Int.reduceLE,Int.reduceNeg]
 have hl:=fun k hx hr=>loop102 (k:=k) (R:=fun b=>some (AVal.bool b,[])) hs ha hx hr s [] rfl
 have he:(s==[])=decide ((s.length:Int)<1):=by cases s<;>simp; omega
 rw [he]
 repeat' (first|(refine fork_split (fun hb=>?_) (fun hb=>?_)<;>simp only [hb,EVN,E102,EVT,EVD,↓reduceIte,Nat.reduceEqDiff,reduceCtorEq,Nat.reduceAdd,Nat.reduceLeDiff,ne_eq,Nat.reduceLT,Int.reduceLT,Int.reduceLE,Int.reduceNeg])|(refine guard_split (fun hb=>?_) (fun hb=>?_)<;>simp only [hb,EVN,E102,EVT,EVD,↓reduceIte,Nat.reduceEqDiff,reduceCtorEq,Nat.reduceAdd,Nat.reduceLeDiff,ne_eq,Nat.reduceLT,Int.reduceLT,Int.reduceLE,Int.reduceNeg])|(refine opK_pick (fun hb=>?_) (fun hb=>?_)<;>simp only [hb,EVN,E102,EVT,EVD,↓reduceIte,Nat.reduceEqDiff,reduceCtorEq,Nat.reduceAdd,Nat.reduceLeDiff,ne_eq,Nat.reduceLT,Int.reduceLT,Int.reduceLE,Int.reduceNeg]))
 all_goals first
  |(clear hl he; simp_all [nameOk]; done)
  |(refine (hl _ (fun e p=>by simp only [E102,EVN,EVT,EVD,↓reduceIte,Nat.reduceEqDiff,reduceCtorEq,Nat.reduceAdd,Nat.reduceLeDiff,ne_eq,Nat.reduceLT,Int.reduceLT,Int.reduceLE,Int.reduceNeg]) (fun p=>by simp only [E102,EVN,EVT,EVD,↓reduceIte,Nat.reduceEqDiff,reduceCtorEq,Nat.reduceAdd,Nat.reduceLeDiff,ne_eq,Nat.reduceLT,Int.reduceLT,Int.reduceLE,Int.reduceNeg])).trans ?_; clear hl he; simp_all [nameOk]; done)
theorem k102 (s:Bytes) (hs:s.length≤100000) (ha:Ascii s) (M:AMem):callOp (acall tabT) 102 [.str s] M=some (.bool (nameOk s),M):=callOp0 (c102 s hs ha) rfl rfl rfl rfl rfl M
theorem k171 (a b:Bytes) (M:AMem):callOp (acall tabT) 171 [.str a,.str b] M=some (.int .i64 (Lib.compareBytes a b),M) :=
 callOp0 (acall_prim (g:=pCompare) rfl rfl) rfl rfl rfl rfl rfl M
theorem c146 (a b:Bytes):acall tabT 146 [.str a,.str b] []=some (.int .i64 (Lib.compareBytes a b),[]):=by
 refine acall_ex rfl rfl rfl ?_
 simp only [fn146,E146,k171,EVN,EVT,EVD,↓reduceIte,Nat.reduceEqDiff,reduceCtorEq,Nat.reduceAdd,Nat.reduceLeDiff,ne_eq,Nat.reduceLT,Int.reduceLT,Int.reduceLE,Int.reduceNeg]
theorem k146 (a b:Bytes) (M:AMem):callOp (acall tabT) 146 [.str a,.str b] M=some (.int .i64 (Lib.compareBytes a b),M):=callOp0 (c146 a b) rfl rfl rfl rfl rfl M
theorem cmpB_lt:∀(a b:Bytes),(Lib.compareBytes a b<0)=(strLt a b=true)
 | [],[]=>by simp [Lib.compareBytes,strLt]
 | [],_::_=>by simp [Lib.compareBytes,strLt]
 |_::_,[]=>by simp [Lib.compareBytes,strLt]
 |a::x,b::y=>by
  rw [Lib.compareBytes,strLt]
  by_cases h1:a<b
  ·simp [h1]
  ·by_cases h2:b<a
   ·have h3:¬a=b:=by rintro rfl; exact UInt8.lt_irrefl _ h2
    simp [h1,h2,h3]
   ·have h3:a=b:=by rw [←UInt8.toNat_inj]; simp only [UInt8.lt_iff_toNat_lt] at h1 h2; omega
    subst h3
    simp [h1,cmpB_lt x y]
theorem cmpB_eq:∀(a b:Bytes),(Lib.compareBytes a b==0)=(a==b)
 | [],[]=>by simp [Lib.compareBytes]
 | [],_::_=>by simp [Lib.compareBytes]
 |_::_,[]=>by simp [Lib.compareBytes]
 |a::x,b::y=>by
  rw [Lib.compareBytes]
  by_cases h1:a<b
  ·have h3:¬a=b:=by rintro rfl; exact UInt8.lt_irrefl _ h1
   simp [h1,h3]
  ·by_cases h2:b<a
   ·have h3:¬a=b:=by rintro rfl; exact UInt8.lt_irrefl _ h2
    simp [h1,h2,h3]
   ·have h3:a=b:=by rw [←UInt8.toNat_inj]; simp only [UInt8.lt_iff_toNat_lt] at h1 h2; omega
    subst h3
    simp only [h1,if_false,cmpB_eq x y]
    simp
theorem c145 (e:Ent) (s:Bytes):acall tabT 145 [eEnt e,.str s] []=some (.int .i64 (Lib.compareBytes e.name s),[]):=by
 refine acall_ex rfl rfl rfl ?_
 simp only [fn145,E145,eEnt,eEntC,k146,EVN,EVT,EVD,↓reduceIte,Nat.reduceEqDiff,reduceCtorEq,Nat.reduceAdd,Nat.reduceLeDiff,ne_eq,Nat.reduceLT,Int.reduceLT,Int.reduceLE,Int.reduceNeg]
theorem k145 (e:Ent) (s:Bytes) (M:AMem):callOp (acall tabT) 145 [.agg (eEntC e),.str s] M=some (.int .i64 (Lib.compareBytes e.name s),M):=callOp0 (c145 e s) rfl rfl rfl rfl rfl M
structure LowE (ents:List Ent) (s:Bytes) (b:Nat):Prop where
 le:b≤ents.length
 lt:∀h n,ents[h]?=some n→(strLt n.name s=true↔h<b)
theorem loop144 {ents:List Ent} {s:Bytes} {b:Nat} (hb:LowE ents s b) (hn:ents.length≤100000) {k:List K} {r:Option (AVal×AMem)}
  (hx:∀v q,kr (acall tabT) [.tmp 6,.tmp 7] 0 k ⟨.exit 0,[(0,eEnts ents),(1,.str s),(2,.func 145 []),(8,.int .i64 ents.length),(9,.int .i64 b),(10,v),(17,q)],[]⟩=r) :
  ∀(f i j:Nat),j-i≤f→i≤b→b≤j→j≤ents.length→exK (acall tabT) [.tmp 6,.tmp 7] 0 k (.loop [0,1,2,8,9,10] lb144_0) [(0,eEnts ents),(1,.str s),(2,.func 145 []),(8,.int .i64 ents.length),(9,.int .i64 i),(10,.int .i64 j)] []=r:=by
 intro f
 induction f with
 |zero =>
  intro i j h1 h2 h3 h4
  obtain rfl:i=b:=by omega
  rw [exK_loop]
  have hlt:((i:Int)<(j:Int))=False:=by simp; omega
  simp only [E144,hlt,EVN,EVT,EVD,↓reduceIte,Nat.reduceEqDiff,reduceCtorEq,Nat.reduceAdd,Nat.reduceLeDiff,ne_eq,Nat.reduceLT,Int.reduceLT,Int.reduceLE,Int.reduceNeg]
  exact hx _ _
 |succ f ih =>
  intro i j h1 h2 h3 h4
  rw [exK_loop]
  by_cases hij:i<j
  ·have hlt:((i:Int)<(j:Int))=True:=by simp; omega
   obtain ⟨m1,m2,m3,m4,m5⟩:=mid_eq i j (by omega) (by omega)
   have hmid:(i+j) / 2<ents.length:=by omega
   have hx:=List.getElem?_eq_getElem hmid
   have hl:=hb.lt _ _ hx
   simp only [E144,hlt,m1,m2,m3,m4,hx,k145,cmpB_lt,tkE,shE,EVN,EVT,EVD,↓reduceIte,Nat.reduceEqDiff,reduceCtorEq,Nat.reduceAdd,Nat.reduceLeDiff,ne_eq,Nat.reduceLT,Int.reduceLT,Int.reduceLE,Int.reduceNeg]
   refine fork_split (fun hq=>?_) (fun hq=>?_)
   ·have hq:strLt ents[(i+j) / 2].name s=true:=by simpa using hq
    simp only [E144,m5,EVN,EVT,EVD,↓reduceIte,Nat.reduceEqDiff,reduceCtorEq,Nat.reduceAdd,Nat.reduceLeDiff,ne_eq,Nat.reduceLT,Int.reduceLT,Int.reduceLE,Int.reduceNeg]
    exact ih ((i+j) / 2+1) j (by omega) (hl.1 hq) h3 h4
   ·have hq:¬strLt ents[(i+j) / 2].name s=true:=by simpa using hq
    simp only [E144,EVN,EVT,EVD,↓reduceIte,Nat.reduceEqDiff,reduceCtorEq,Nat.reduceAdd,Nat.reduceLeDiff,ne_eq,Nat.reduceLT,Int.reduceLT,Int.reduceLE,Int.reduceNeg]
    exact ih i ((i+j) / 2) (by omega) h2 (Nat.not_lt.1 fun h=>hq (hl.2 h)) (by omega)
  ·obtain rfl:i=b:=by omega
   have hlt:((i:Int)<(j:Int))=False:=by simp; omega
   simp only [E144,hlt,EVN,EVT,EVD,↓reduceIte,Nat.reduceEqDiff,reduceCtorEq,Nat.reduceAdd,Nat.reduceLeDiff,ne_eq,Nat.reduceLT,Int.reduceLT,Int.reduceLE,Int.reduceNeg]
   exact hx _ _
def isAtE (ents:List Ent) (s:Bytes) (b:Nat):Bool:=match ents[b]? with
 |some n=>n.name==s
 |none=>false
theorem c144 (ents:List Ent) (s:Bytes) (b:Nat) (hb:LowE ents s b) (hn:ents.length≤100000):acall tabT 144 [eEnts ents,.str s,.func 145 []] []=some (.tuple [.int .i64 b,.bool (isAtE ents s b)],[]):=by
 refine acall_ex rfl rfl rfl ?_
 simp only [fn144,E144,EVN,EVT,EVD,↓reduceIte,Nat.reduceEqDiff,reduceCtorEq,Nat.reduceAdd,Nat.reduceLeDiff,ne_eq,Nat.reduceLT,Int.reduceLT,Int.reduceLE,Int.reduceNeg]
 refine loop144 hb hn (fun v q=>?_) ents.length 0 ents.length (by omega) (by omega) hb.le (by omega)
 unfold isAtE
 by_cases hlt:b<ents.length
 ·have hx:=List.getElem?_eq_getElem hlt
  have h1:((b:Int)<(ents.length:Int))=True:=by simp; omega
  simp only [E144,hx,h1,k145,cmpB_eq,tkE,shE,EVN,EVT,EVD,↓reduceIte,Nat.reduceEqDiff,reduceCtorEq,Nat.reduceAdd,Nat.reduceLeDiff,ne_eq,Nat.reduceLT,Int.reduceLT,Int.reduceLE,Int.reduceNeg]
 ·have hx:ents[b]?=none:=List.getElem?_eq_none (by omega)
  have h1:((b:Int)<(ents.length:Int))=False:=by simp; omega
  simp only [E144,hx,h1,EVN,EVT,EVD,↓reduceIte,Nat.reduceEqDiff,reduceCtorEq,Nat.reduceAdd,Nat.reduceLeDiff,ne_eq,Nat.reduceLT,Int.reduceLT,Int.reduceLE,Int.reduceNeg]
theorem k144 (ents:List Ent) (s:Bytes) (b:Nat) (hb:LowE ents s b) (hn:ents.length≤100000) (M:AMem):callOp (acall tabT) 144 [eEnts ents,.str s,.func 145 []] M=some (.tuple [.int .i64 b,.bool (isAtE ents s b)],M) :=
 callOp0 (c144 ents s b hb hn) rfl rfl rfl rfl rfl M
def AscE (l:List Ent):Prop:=l.Pairwise fun a b=>strLt a.name b.name=true
def lowE (l:List Ent) (s:Bytes):Nat:=(l.takeWhile fun n=>strLt n.name s).length
theorem c104 (n:Node) (s:Bytes) (b:Nat) (hb:LowE n.ents s b) (hn:n.ents.length≤100000):acall tabT 104 [eNode n,.str s] []=some (.tuple [.int .i64 b,.bool (isAtE n.ents s b)],[]):=by
 refine acall_ex rfl rfl rfl ?_
 have hk:=k144 n.ents s b hb hn
 simp only [fn104,E104,eNode,eNodeC,hk,EVN,EVT,EVD,↓reduceIte,Nat.reduceEqDiff,reduceCtorEq,Nat.reduceAdd,Nat.reduceLeDiff,ne_eq,Nat.reduceLT,Int.reduceLT,Int.reduceLE,Int.reduceNeg]
theorem k104 (a b c:Int) (d:Bytes) (e:List Ent) (u:Int) (s:Bytes) (i:Nat) (hb:LowE e s i) (hn:e.length≤100000) (M:AMem):callOp (acall tabT) 104 [.agg [.int .i64 a,.int .i64 b,.int .i64 c,eData d,eEnts e,.int .i64 u],.str s] M=some (.tuple [.int .i64 i,.bool (isAtE e s i)],M) :=
 callOp0 (c104 ⟨a,b,c,d,e,u⟩ s i hb hn) rfl rfl rfl rfl rfl M
end Go.Proofs.YtannopdcbocngaaGreatDoor
namespace Go.Proofs.YtannopdcbocngaaGreatDoor
open Go Go.Abs
attribute [local irreducible] exK opsK opK gK forkK kr acall callOp owhen obind
theorem strLt_irrefl:∀a:Bytes,strLt a a=false
 | []=>rfl
 |a::x=>by simp [strLt,strLt_irrefl x,UInt8.lt_irrefl]
theorem strLt_trans:∀ {a b c:Bytes},strLt a b=true→strLt b c=true→strLt a c=true
 | [],b,[],_,h2=>by cases b<;>simp [strLt] at h2
 | [],_,_::_,_,_=>rfl
 |_::_,[],_,h1,_=>by simp [strLt] at h1
 |_::_,_::_,[],_,h2=>by simp [strLt] at h2
 |a::x,b::y,c::z,h1,h2=>by
  simp only [strLt,Bool.or_eq_true,Bool.and_eq_true,decide_eq_true_eq,beq_iff_eq] at h1 h2 ⊢
  simp only [UInt8.lt_iff_toNat_lt] at h1 h2 ⊢
  rcases h1 with h1|⟨h1,h1'⟩
  ·rcases h2 with h2|⟨h2,_⟩
   ·left; omega
   ·left; rw [←h2]; exact h1
  ·rcases h2 with h2|⟨h2,h2'⟩
   ·left; rw [h1]; exact h2
   ·right; exact ⟨h1.trans h2,strLt_trans h1' h2'⟩
theorem lowE_of {l:List Ent} (h:AscE l) (s:Bytes):LowE l s (lowE l s):=by
 unfold lowE
 induction l with
 |nil=>exact ⟨by simp,fun h n hn=>by simp at hn⟩
 |cons a r ih =>
  obtain ⟨h1,h2⟩:=List.pairwise_cons.1 h
  obtain ⟨i1,i2⟩:=ih h2
  by_cases ha:strLt a.name s=true
  ·rw [List.takeWhile_cons,if_pos ha]
   refine ⟨by simpa using i1,fun k n hn=>?_⟩
   cases k with
   |zero=>simp at hn; subst hn; simp [ha]
   |succ k=>rw [i2 k n (by simpa using hn)]; simp
  ·rw [List.takeWhile_cons,if_neg ha]
   refine ⟨by simp,fun k n hn=>?_⟩
   simp only [List.length_nil,Nat.not_lt_zero,iff_false]
   cases k with
   |zero=>simp at hn; subst hn; exact ha
   |succ k=>exact fun hc=>ha (strLt_trans (h1 n (List.mem_of_getElem? (by simpa using hn))) hc)
theorem findE_mem {l:List Ent} {s:Bytes} {e:Ent} (h:findE l s=some e):e∈l∧e.name=s:=by
 unfold findE at h
 exact ⟨List.mem_of_find?_eq_some h,by simpa using List.find?_some h⟩
theorem at_findE {l:List Ent} (h:AscE l) (s:Bytes):(isAtE l s (lowE l s)=true∧∃n,l[lowE l s]?=some n∧findE l s=some n∧n.name=s)∨(isAtE l s (lowE l s)=false∧findE l s=none):=by
 obtain ⟨l1,l2⟩:=lowE_of h s
 cases hf:findE l s with
 |some n =>
  left
  obtain ⟨hm,he⟩:=findE_mem hf
  obtain ⟨k,hk⟩:=List.getElem?_of_mem hm
  have hkb:¬k<lowE l s:=fun hc=>by have:=(l2 k n hk).2 hc; rw [he,strLt_irrefl] at this; cases this
  have hb:lowE l s<l.length:=by have:=(List.getElem?_eq_some_iff.1 hk).1; omega
  have hx:=List.getElem?_eq_getElem hb
  have hnl:¬strLt l[lowE l s].name s=true:=fun hc=>Nat.lt_irrefl _ ((l2 _ _ hx).1 hc)
  have hke:k=lowE l s:=by
   rcases Nat.lt_or_ge (lowE l s) k with hlt|hge
   ·have hkl:=(List.getElem?_eq_some_iff.1 hk).1
    have h3:=List.pairwise_iff_getElem.1 h _ _ hb hkl hlt
    have h4:l[k]=n:=by rw [List.getElem?_eq_getElem hkl] at hk; injection hk
    rw [h4,he] at h3
    exact absurd h3 hnl
   ·omega
  subst hke
  exact ⟨by unfold isAtE; rw [hk]; simp [he],n,hk,rfl,he⟩
 |none =>
  right
  refine ⟨?_,rfl⟩
  unfold isAtE
  split
  ·rename_i n hn
   have:=List.find?_eq_none.1 hf n (List.mem_of_getElem? hn)
   simpa using this
  ·rfl
structure Srt (t:Tree):Prop where
 asc:Asc t.nodes
 ents:∀n,n∈t.nodes→AscE n.ents
theorem Srt.dir {t:Tree} (h:Srt t) (ino:Int):AscE (dirN t.nodes ino).1.ents:=by
 unfold dirN
 split
 ·exact List.Pairwise.nil
 ·rename_i n hn
  split
  ·exact h.ents n (find_mem hn).1
  ·exact List.Pairwise.nil
theorem c74 (t:Tree) (ino:Int) (s:Bytes) (ht:Small t) (hr:Srt t) (hs:s.length≤100000) (ha:Ascii s):acall tabT 74 [eTree t,.int .i64 ino,.str s] []=some (.tuple [.int .i64 (lookN t.nodes ino s).1,.int .i64 (lookN t.nodes ino s).2],[]):=by
 obtain ⟨nodes,next,cookie⟩:=t
 have hn:nodes.length≤100000:=ht.nodes
 have hd:(dirN nodes ino).1.ents.length≤100000:=dirN_ents ht ino
 have hE:AscE (dirN nodes ino).1.ents:=hr.dir ino
 have hk:=fun b M=>k103 nodes next cookie ino hr.asc hn 1 (b :: .cells [eNodes nodes,.int .i64 next,.int .i64 cookie]::M) rfl
 refine acall_ex rfl rfl rfl ?_
 simp only [fn74,E74,eTree,eTreeC,hk,eNode,eNodeC,EVN,EVT,EVD,↓reduceIte,Nat.reduceEqDiff,reduceCtorEq,Nat.reduceAdd,Nat.reduceLeDiff,ne_eq,Nat.reduceLT,Int.reduceLT,Int.reduceLE,Int.reduceNeg]
 unfold lookN
 refine fork_split (fun hb=>?_) (fun hb=>?_)
 ·simp only [E74,EVN,EVT,EVD,↓reduceIte,Nat.reduceEqDiff,reduceCtorEq,Nat.reduceAdd,Nat.reduceLeDiff,ne_eq,Nat.reduceLT,Int.reduceLT,Int.reduceLE,Int.reduceNeg]
  clear hk
  simp_all
 ·simp only [E74,k102,hs,ha,EVN,EVT,EVD,↓reduceIte,Nat.reduceEqDiff,reduceCtorEq,Nat.reduceAdd,Nat.reduceLeDiff,ne_eq,Nat.reduceLT,Int.reduceLT,Int.reduceLE,Int.reduceNeg]
  refine fork_split (fun hb'=>?_) (fun hb'=>?_)
  ·simp only [E74,EVN,EVT,EVD,↓reduceIte,Nat.reduceEqDiff,reduceCtorEq,Nat.reduceAdd,Nat.reduceLeDiff,ne_eq,Nat.reduceLT,Int.reduceLT,Int.reduceLE,Int.reduceNeg]
   clear hk
   simp_all
  ·have hk2:=fun a b c d u M=>k104 a b c d (dirN nodes ino).1.ents u s _ (lowE_of hE s) hd M
   simp only [E74,hk2,EVN,EVT,EVD,↓reduceIte,Nat.reduceEqDiff,reduceCtorEq,Nat.reduceAdd,Nat.reduceLeDiff,ne_eq,Nat.reduceLT,Int.reduceLT,Int.reduceLE,Int.reduceNeg]
   rcases at_findE hE s with ⟨h1,e,h2,h3,_⟩|⟨h1,h2⟩
   ·simp only [E74,h1,h2,eEntC,EVN,EVT,EVD,↓reduceIte,Nat.reduceEqDiff,reduceCtorEq,Nat.reduceAdd,Nat.reduceLeDiff,ne_eq,Nat.reduceLT,Int.reduceLT,Int.reduceLE,Int.reduceNeg]
    clear hk hk2
    simp_all
   ·simp only [E74,h1,EVN,EVT,EVD,↓reduceIte,Nat.reduceEqDiff,reduceCtorEq,Nat.reduceAdd,Nat.reduceLeDiff,ne_eq,Nat.reduceLT,Int.reduceLT,Int.reduceLE,Int.reduceNeg]
    clear hk hk2
    simp_all
theorem k74 (nodes:List Node) (next cookie ino:Int) (s:Bytes) (ht:Small ⟨nodes,next,cookie⟩) (hr:Srt ⟨nodes,next,cookie⟩) (hs:s.length≤100000) (ha:Ascii s) (M:AMem):callOp (acall tabT) 74 [.agg [eNodes nodes,.int .i64 next,.int .i64 cookie],.int .i64 ino,.str s] M =
  some (.tuple [.int .i64 (lookN nodes ino s).1,.int .i64 (lookN nodes ino s).2],M):=callOp0 (c74 ⟨nodes,next,cookie⟩ ino s ht hr hs ha) rfl rfl rfl rfl rfl M
theorem c36 (t:Tree) (ino:Int) (ht:Small t) (hr:Srt t):acall tabT 36 [eTree t,.int .i64 ino] []=some (.tuple [eNode (nodeN t.nodes ino),.bool (find t.nodes ino).isSome],[]):=by
 obtain ⟨nodes,next,cookie⟩:=t
 have hn:nodes.length≤100000:=ht.nodes
 have hk:=fun b c M=>k75 nodes next cookie ino hr.asc hn 2 (b::c :: .cells [eNodes nodes,.int .i64 next,.int .i64 cookie]::M) rfl
 refine acall_ex rfl rfl rfl ?_
 simp only [fn36,E36,eTree,eTreeC,hk,eNode,eNodeC,EVN,EVT,EVD,↓reduceIte,Nat.reduceEqDiff,reduceCtorEq,Nat.reduceAdd,Nat.reduceLeDiff,ne_eq,Nat.reduceLT,Int.reduceLT,Int.reduceLE,Int.reduceNeg]
theorem k36 (nodes:List Node) (next cookie ino:Int) (ht:Small ⟨nodes,next,cookie⟩) (hr:Srt ⟨nodes,next,cookie⟩) (M:AMem):callOp (acall tabT) 36 [.agg [eNodes nodes,.int .i64 next,.int .i64 cookie],.int .i64 ino] M =
  some (.tuple [eNode (nodeN nodes ino),.bool (find nodes ino).isSome],M):=callOp0 (c36 ⟨nodes,next,cookie⟩ ino ht hr) rfl rfl rfl rfl rfl M
end Go.Proofs.YtannopdcbocngaaGreatDoor
namespace Go.Proofs.YtannopdcbocngaaGreatDoor
open Go Go.Abs
attribute [local irreducible] exK opsK opK gK forkK kr acall callOp owhen obind
theorem withL_pre (n:Node) (rest:List Node):∀(pre out:List Node),(∀m,m∈pre→m.ino<n.ino)→withL n (pre++rest) out false=withL n rest (out++pre) false
 | [],out,_=>by simp
 |m::r,out,h=>by
  have hm:=h m (List.mem_cons_self ..)
  have h1:¬n.ino≤m.ino:=by omega
  have h2:¬m.ino=n.ino:=by omega
  rw [List.cons_append,withL]
  simp only [ge_iff_le,h1,h2,decide_false,Bool.and_false,Bool.or_false,Bool.false_eq_true,if_false]
  rw [withL_pre n rest r _ fun x hx=>h x (List.mem_cons_of_mem _ hx)]
  simp
theorem withL_post (n:Node):∀(rest out:List Node),(∀m,m∈rest→n.ino<m.ino)→withL n rest out true=(out++rest,true)
 | [],out,_=>by simp [withL]
 |m::r,out,h=>by
  have hm:=h m (List.mem_cons_self ..)
  have h2:¬m.ino=n.ino:=by omega
  rw [withL]
  simp only [Bool.not_true,Bool.false_and,h2,Bool.true_or,Bool.false_eq_true,if_false]
  rw [withL_post n r _ fun x hx=>h x (List.mem_cons_of_mem _ hx)]
  simp
theorem take_low {nodes:List Node} {ino:Int} {b:Nat} (h:LowI nodes ino b):∀m,m∈nodes.take b→m.ino<ino:=fun m hm=>by
 obtain ⟨k,hk⟩:=List.getElem?_of_mem hm
 rw [List.getElem?_take] at hk
 split at hk
 ·rename_i hlt; exact (h.lt k m hk).2 hlt
 ·cases hk
theorem drop_high {nodes:List Node} {ino:Int} {b:Nat} (h:LowI nodes ino b):∀m,m∈nodes.drop b→ino≤m.ino:=fun m hm=>by
 obtain ⟨k,hk⟩:=List.getElem?_of_mem hm
 rw [List.getElem?_drop] at hk
 have:=h.lt _ m hk
 have hn:¬b+k<b:=by omega
 have:=fun hc=>hn (this.1 hc)
 omega
theorem withN_ins {nodes:List Node} (h:Asc nodes) {n:Node} (hf:find nodes n.ino=none):withN nodes n=nodes.take (lowB nodes n.ino)++n::nodes.drop (lowB nodes n.ino):=by
 have hl:=lowI_of h n.ino
 have hd:∀m,m∈nodes.drop (lowB nodes n.ino)→n.ino<m.ino:=fun m hm=>by
  have h1:=drop_high hl m hm
  have h2:=List.find?_eq_none.1 hf m (List.mem_of_mem_drop hm)
  have:¬m.ino=n.ino:=by simpa using h2
  omega
 unfold withN
 rw [show withL n nodes [] false=withL n (nodes.take (lowB nodes n.ino)++nodes.drop (lowB nodes n.ino)) [] false by rw [List.take_append_drop]]
 rw [withL_pre n _ _ _ (take_low hl)]
 generalize nodes.drop (lowB nodes n.ino)=rest at hd
 cases rest with
 |nil=>simp [withL]
 |cons m r =>
  have hm:=hd m (List.mem_cons_self ..)
  have h1:n.ino≤m.ino:=by omega
  have h2:¬m.ino=n.ino:=by omega
  rw [withL]
  simp only [ge_iff_le,h1,h2,decide_true,Bool.not_false,Bool.and_true,Bool.or_true,if_true,if_false]
  rw [withL_post n r _ fun x hx=>hd x (List.mem_cons_of_mem _ hx)]
  simp
theorem withN_set {nodes:List Node} (h:Asc nodes) {n o:Node} (ho:nodes[lowB nodes n.ino]?=some o) (he:o.ino=n.ino):withN nodes n=nodes.set (lowB nodes n.ino) n:=by
 have hl:=lowI_of h n.ino
 have hlt:=(List.getElem?_eq_some_iff.1 ho).1
 have hdr:nodes.drop (lowB nodes n.ino)=o::nodes.drop (lowB nodes n.ino+1):=by
  rw [List.drop_eq_getElem_cons hlt]
  rw [List.getElem?_eq_getElem hlt] at ho; injection ho with ho; rw [ho]
 have hd:∀m,m∈nodes.drop (lowB nodes n.ino+1)→n.ino<m.ino:=fun m hm=>by
  obtain ⟨k,hk⟩:=List.getElem?_of_mem hm
  rw [List.getElem?_drop] at hk
  have hkl:=(List.getElem?_eq_some_iff.1 hk).1
  have h3:=List.pairwise_iff_getElem.1 h _ _ hlt hkl (by omega)
  have h4:nodes[lowB nodes n.ino+1+k]=m:=by rw [List.getElem?_eq_getElem hkl] at hk; injection hk
  have h5:nodes[lowB nodes n.ino]=o:=by rw [List.getElem?_eq_getElem hlt] at ho; injection ho
  rw [h4,h5] at h3
  omega
 unfold withN
 rw [show withL n nodes [] false=withL n (nodes.take (lowB nodes n.ino)++nodes.drop (lowB nodes n.ino)) [] false by rw [List.take_append_drop]]
 rw [withL_pre n _ _ _ (take_low hl),hdr,withL]
 simp only [ge_iff_le,he,Int.le_refl,decide_true,Bool.not_false,Bool.and_true,Bool.or_true,if_true,List.append_nil]
 rw [withL_post n _ _ hd,List.set_eq_take_append_cons_drop,if_pos hlt]
 simp
end Go.Proofs.YtannopdcbocngaaGreatDoor
namespace Go.Proofs.YtannopdcbocngaaGreatDoor
open Go Go.Abs
attribute [local irreducible] exK opsK opK gK forkK kr acall callOp owhen obind
theorem withoutN_del {nodes:List Node} (h:Asc nodes) {ino:Int} {o:Node} (ho:nodes[lowB nodes ino]?=some o) (he:o.ino=ino):withoutN nodes ino=nodes.take (lowB nodes ino)++nodes.drop (lowB nodes ino+1):=by
 have hl:=lowI_of h ino
 have hlt:=(List.getElem?_eq_some_iff.1 ho).1
 have hd:∀m,m∈nodes.drop (lowB nodes ino+1)→ino<m.ino:=fun m hm=>by
  obtain ⟨k,hk⟩:=List.getElem?_of_mem hm
  rw [List.getElem?_drop] at hk
  have hkl:=(List.getElem?_eq_some_iff.1 hk).1
  have h3:=List.pairwise_iff_getElem.1 h _ _ hlt hkl (by omega)
  have h4:nodes[lowB nodes ino+1+k]=m:=by rw [List.getElem?_eq_getElem hkl] at hk; injection hk
  have h5:nodes[lowB nodes ino]=o:=by rw [List.getElem?_eq_getElem hlt] at ho; injection ho
  rw [h4,h5] at h3
  omega
 have hdr:nodes.drop (lowB nodes ino)=o::nodes.drop (lowB nodes ino+1):=by
  rw [List.drop_eq_getElem_cons hlt]
  rw [List.getElem?_eq_getElem hlt] at ho; injection ho with ho; rw [ho]
 unfold withoutN
 rw [show nodes.filter (fun n=>n.ino != ino)=(nodes.take (lowB nodes ino)++nodes.drop (lowB nodes ino)).filter (fun n=>n.ino != ino) by rw [List.take_append_drop]]
 rw [List.filter_append,hdr,List.filter_cons]
 simp only [he,bne_self_eq_false,Bool.false_eq_true,if_false]
 rw [List.filter_eq_self.2 fun m hm=>by have:=take_low hl m hm; simp; omega,List.filter_eq_self.2 fun m hm=>by have:=hd m hm; simp; omega]
theorem withoutN_none {nodes:List Node} {ino:Int} (hf:find nodes ino=none):withoutN nodes ino=nodes :=
 List.filter_eq_self.2 fun m hm=>by simpa using List.find?_eq_none.1 hf m hm
theorem strLt_asym {a b:Bytes} (h:strLt a b=true):strLt b a=false:=by
 cases hb:strLt b a with
 |false=>rfl
 |true=>have:=strLt_trans h hb; rw [strLt_irrefl] at this; cases this
theorem strLt_total:∀(a b:Bytes),strLt a b=true∨a=b∨strLt b a=true
 | [],[] => .inr (.inl rfl)
 | [],_::_ => .inl rfl
 |_::_,[] => .inr (.inr rfl)
 |a::x,b::y=>by
  simp only [strLt,Bool.or_eq_true,Bool.and_eq_true,decide_eq_true_eq,beq_iff_eq,List.cons.injEq,UInt8.lt_iff_toNat_lt]
  rcases strLt_total x y with h|h|h
  ·rcases Nat.lt_trichotomy a.toNat b.toNat with h1|h1|h1
   ·exact .inl (.inl h1)
   ·exact .inl (.inr ⟨UInt8.toNat_inj.1 h1,h⟩)
   ·exact .inr (.inr (.inl h1))
  ·rcases Nat.lt_trichotomy a.toNat b.toNat with h1|h1|h1
   ·exact .inl (.inl h1)
   ·exact .inr (.inl ⟨UInt8.toNat_inj.1 h1,h⟩)
   ·exact .inr (.inr (.inl h1))
  ·rcases Nat.lt_trichotomy a.toNat b.toNat with h1|h1|h1
   ·exact .inl (.inl h1)
   ·exact .inr (.inr (.inr ⟨(UInt8.toNat_inj.1 h1).symm,h⟩))
   ·exact .inr (.inr (.inl h1))
theorem gtB_of_lt {a b:Bytes} (h:strLt a b=true):gtB a b=false:=by simp [gtB,h]
theorem gtB_of_gt {a b:Bytes} (h:strLt b a=true):gtB a b=true:=by
 have h1:=strLt_asym h
 have h2:¬a=b:=by rintro rfl; rw [strLt_irrefl] at h; cases h
 simp [gtB,h1,h2]
theorem insL_pre (e:Ent) (rest:List Ent):∀(pre out:List Ent),(∀m,m∈pre→strLt m.name e.name=true)→insL e (pre++rest) out false=insL e rest (out++pre) false
 | [],out,_=>by simp
 |m::r,out,h=>by
  rw [List.cons_append,insL,gtB_of_lt (h m (List.mem_cons_self ..))]
  simp only [Bool.and_false,Bool.or_false,Bool.false_eq_true,if_false]
  rw [insL_pre e rest r _ fun x hx=>h x (List.mem_cons_of_mem _ hx)]
  simp
theorem insL_post (e:Ent):∀(rest out:List Ent),insL e rest out true=(out++rest,true)
 | [],out=>by simp [insL]
 |m::r,out=>by
  rw [insL]
  simp only [Bool.not_true,Bool.false_and,Bool.true_or,Bool.false_eq_true,if_false]
  rw [insL_post e r]
  simp
theorem takeE_low {l:List Ent} {s:Bytes} {b:Nat} (h:LowE l s b):∀m,m∈l.take b→strLt m.name s=true:=fun m hm=>by
 obtain ⟨k,hk⟩:=List.getElem?_of_mem hm
 rw [List.getElem?_take] at hk
 split at hk
 ·rename_i hlt; exact (h.lt k m hk).2 hlt
 ·cases hk
theorem dropE_high {l:List Ent} {s:Bytes} {b:Nat} (h:LowE l s b):∀m,m∈l.drop b→strLt m.name s=false:=fun m hm=>by
 obtain ⟨k,hk⟩:=List.getElem?_of_mem hm
 rw [List.getElem?_drop] at hk
 have:=h.lt _ m hk
 have hn:¬b+k<b:=by omega
 cases hc:strLt m.name s with
 |false=>rfl
 |true=>exact absurd (this.1 hc) hn
theorem insE_ins {l:List Ent} (h:AscE l) {e:Ent} (hf:findE l e.name=none):insE l e=l.take (lowE l e.name)++e::l.drop (lowE l e.name):=by
 have hl:=lowE_of h e.name
 have hd:∀m,m∈l.drop (lowE l e.name)→strLt e.name m.name=true:=fun m hm=>by
  have h1:=dropE_high hl m hm
  have h2:=List.find?_eq_none.1 hf m (List.mem_of_mem_drop hm)
  have h3:¬m.name=e.name:=by simpa using h2
  rcases strLt_total m.name e.name with h4|h4|h4
  ·rw [h1] at h4; cases h4
  ·exact absurd h4 h3
  ·exact h4
 unfold insE
 rw [show insL e l [] false=insL e (l.take (lowE l e.name)++l.drop (lowE l e.name)) [] false by rw [List.take_append_drop]]
 rw [insL_pre e _ _ _ (takeE_low hl)]
 generalize l.drop (lowE l e.name)=rest at hd
 cases rest with
 |nil=>simp [insL]
 |cons m r =>
  rw [insL,gtB_of_gt (hd m (List.mem_cons_self ..))]
  simp only [Bool.not_false,Bool.and_true,Bool.or_true,if_true]
  rw [insL_post]
  simp
theorem dropE_del {l:List Ent} (h:AscE l) {s:Bytes} {o:Ent} (ho:l[lowE l s]?=some o) (he:o.name=s):dropE l s=l.take (lowE l s)++l.drop (lowE l s+1):=by
 have hl:=lowE_of h s
 have hlt:=(List.getElem?_eq_some_iff.1 ho).1
 have hdr:l.drop (lowE l s)=o::l.drop (lowE l s+1):=by
  rw [List.drop_eq_getElem_cons hlt]
  rw [List.getElem?_eq_getElem hlt] at ho; injection ho with ho; rw [ho]
 have hd:∀m,m∈l.drop (lowE l s+1)→strLt s m.name=true:=fun m hm=>by
  obtain ⟨k,hk⟩:=List.getElem?_of_mem hm
  rw [List.getElem?_drop] at hk
  have hkl:=(List.getElem?_eq_some_iff.1 hk).1
  have h3:=List.pairwise_iff_getElem.1 h _ _ hlt hkl (by omega)
  have h4:l[lowE l s+1+k]=m:=by rw [List.getElem?_eq_getElem hkl] at hk; injection hk
  have h5:l[lowE l s]=o:=by rw [List.getElem?_eq_getElem hlt] at ho; injection ho
  rw [h4,h5,he] at h3
  exact h3
 have ne:∀ {a b:Bytes},strLt a b=true→¬a=b:=fun {a b} h=>by rintro rfl; rw [strLt_irrefl] at h; cases h
 unfold dropE
 rw [show l.filter (fun n=>n.name != s)=(l.take (lowE l s)++l.drop (lowE l s)).filter (fun n=>n.name != s) by rw [List.take_append_drop]]
 rw [List.filter_append,hdr,List.filter_cons]
 simp only [he,bne_self_eq_false,Bool.false_eq_true,if_false]
 rw [List.filter_eq_self.2 fun m hm=>by simpa using ne (takeE_low hl m hm),List.filter_eq_self.2 fun m hm=>by simpa using fun hc=>ne (hd m hm) hc.symm]
end Go.Proofs.YtannopdcbocngaaGreatDoor
namespace Go.Proofs.YtannopdcbocngaaGreatDoor
open Go Go.Abs
theorem asc_unique {nodes:List Node} (h:Asc nodes) {a b:Node} (ha:a∈nodes) (hb:b∈nodes) (he:a.ino=b.ino):a=b:=by
 obtain ⟨i,hi⟩:=List.getElem?_of_mem ha
 obtain ⟨k,hk⟩:=List.getElem?_of_mem hb
 have hil:=(List.getElem?_eq_some_iff.1 hi).1
 have hkl:=(List.getElem?_eq_some_iff.1 hk).1
 have e1:nodes[i]=a:=by rw [List.getElem?_eq_getElem hil] at hi; injection hi
 have e2:nodes[k]=b:=by rw [List.getElem?_eq_getElem hkl] at hk; injection hk
 rcases Nat.lt_trichotomy i k with hlt|heq|hgt
 ·have:=List.pairwise_iff_getElem.1 h _ _ hil hkl hlt
  rw [e1,e2] at this; omega
 ·subst heq; rw [←e1,←e2]
 ·have:=List.pairwise_iff_getElem.1 h _ _ hkl hil hgt
  rw [e1,e2] at this; omega
theorem find_iff {nodes:List Node} (h:Asc nodes) {i:Int} {m:Node}:find nodes i=some m↔m∈nodes∧m.ino=i:=by
 refine ⟨find_mem,fun ⟨h1,h2⟩=>?_⟩
 cases hf:find nodes i with
 |none =>
  have:=List.find?_eq_none.1 hf m h1
  simp [h2] at this
 |some k =>
  obtain ⟨k1,k2⟩:=find_mem hf
  rw [asc_unique h h1 k1 (by omega)]
theorem find_none_iff {nodes:List Node} {i:Int}:find nodes i=none↔∀m,m∈nodes→m.ino≠i:=by
 unfold find
 rw [List.find?_eq_none]
 simp
theorem set_split {nodes:List Node} {b:Nat} {o n:Node} (ho:nodes[b]?=some o):nodes=nodes.take b++o::nodes.drop (b+1)∧nodes.set b n=nodes.take b++n::nodes.drop (b+1):=by
 have hlt:=(List.getElem?_eq_some_iff.1 ho).1
 constructor
 ·rw [List.getElem?_eq_getElem hlt] at ho; injection ho with ho
  conv=>lhs; rw [←List.take_append_drop b nodes]
  rw [List.drop_eq_getElem_cons hlt,ho]
 ·rw [List.set_eq_take_append_cons_drop,if_pos hlt]
theorem mem_withN {nodes:List Node} (h:Asc nodes) {n m:Node}:m∈withN nodes n↔m=n∨(m∈nodes∧m.ino≠n.ino):=by
 rcases at_find h n.ino with ⟨_,o,h2,h3,h4⟩|⟨_,h2⟩
 ·rw [withN_set h h2 h4]
  obtain ⟨s1,s2⟩:=set_split (n:=n) h2
  have hon:o∈nodes:=(find_mem h3).1
  constructor
  ·intro hm
   rw [s2] at hm
   rcases List.mem_append.1 hm with hm|hm
   ·have hmn:=List.mem_of_mem_take hm
    have:=take_low (lowI_of h n.ino) m hm
    exact .inr ⟨hmn,by omega⟩
   ·rcases List.mem_cons.1 hm with rfl|hm
    ·exact .inl rfl
    ·refine .inr ⟨List.mem_of_mem_drop hm,fun he=>?_⟩
     have hp:=h
     unfold Asc at hp
     rw [s1,List.pairwise_append] at hp
     have:=(List.pairwise_cons.1 hp.2.1).1 m hm
     omega
  ·rintro (rfl|⟨hm,hne⟩)
   ·rw [s2]; simp
   ·rw [s1] at hm
    rw [s2]
    rcases List.mem_append.1 hm with hm|hm
    ·exact List.mem_append_left _ hm
    ·rcases List.mem_cons.1 hm with rfl|hm
     ·exact absurd h4 hne
     ·exact List.mem_append_right _ (List.mem_cons_of_mem _ hm)
 ·rw [withN_ins h h2]
  rw [find_none_iff] at h2
  constructor
  ·intro hm
   rcases List.mem_append.1 hm with hm|hm
   ·have:=List.mem_of_mem_take hm
    exact .inr ⟨this,h2 m this⟩
   ·rcases List.mem_cons.1 hm with rfl|hm
    ·exact .inl rfl
    ·have:=List.mem_of_mem_drop hm
     exact .inr ⟨this,h2 m this⟩
  ·rintro (rfl|⟨hm,_⟩)
   ·simp
   ·rw [←List.take_append_drop (lowB nodes n.ino) nodes] at hm
    rcases List.mem_append.1 hm with hm|hm
    ·exact List.mem_append_left _ hm
    ·exact List.mem_append_right _ (List.mem_cons_of_mem _ hm)
theorem withN_asc {nodes:List Node} (h:Asc nodes) (n:Node):Asc (withN nodes n):=by
 have hl:=lowI_of h n.ino
 rcases at_find h n.ino with ⟨_,o,h2,h3,h4⟩|⟨_,h2⟩
 ·rw [withN_set h h2 h4]
  obtain ⟨s1,s2⟩:=set_split (n:=n) h2
  have hp:=h
  unfold Asc at hp ⊢
  rw [s1,List.pairwise_append] at hp
  obtain ⟨p1,p2,p3⟩:=hp
  obtain ⟨p4,p5⟩:=List.pairwise_cons.1 p2
  rw [s2,List.pairwise_append]
  refine ⟨p1,List.pairwise_cons.2 ⟨fun m hm=>by have:=p4 m hm; omega,p5⟩,fun a ha c hc=>?_⟩
  rcases List.mem_cons.1 hc with rfl|hc
  ·exact take_low hl a ha
  ·exact p3 a ha c (List.mem_cons_of_mem _ hc)
 ·rw [withN_ins h h2]
  have hp:=h
  unfold Asc at hp ⊢
  rw [←List.take_append_drop (lowB nodes n.ino) nodes,List.pairwise_append] at hp
  obtain ⟨p1,p2,p3⟩:=hp
  rw [find_none_iff] at h2
  rw [List.pairwise_append]
  refine ⟨p1,List.pairwise_cons.2 ⟨fun m hm=>?_,p2⟩,fun a ha c hc=>?_⟩
  ·have k1:=drop_high hl m hm
   have k2:=h2 m (List.mem_of_mem_drop hm)
   omega
  ·rcases List.mem_cons.1 hc with rfl|hc
   ·exact take_low hl a ha
   ·exact p3 a ha c hc
theorem find_withN {nodes:List Node} (h:Asc nodes) (n:Node) (i:Int):find (withN nodes n) i=if i=n.ino then some n else find nodes i:=by
 split
 ·rename_i he
  exact (find_iff (withN_asc h n)).2 ⟨(mem_withN h).2 (.inl rfl),he.symm⟩
 ·rename_i hne
  cases hf:find nodes i with
  |none =>
   rw [find_none_iff] at hf ⊢
   intro m hm
   rcases (mem_withN h).1 hm with rfl|⟨hm,_⟩
   ·exact fun he=>hne he.symm
   ·exact hf m hm
  |some m =>
   obtain ⟨h1,h2⟩:=find_mem hf
   exact (find_iff (withN_asc h n)).2 ⟨(mem_withN h).2 (.inr ⟨h1,by omega⟩),h2⟩
theorem withoutN_asc {nodes:List Node} (h:Asc nodes) (i:Int):Asc (withoutN nodes i):=List.Pairwise.filter _ h
theorem find_withoutN {nodes:List Node} (h:Asc nodes) (k i:Int):find (withoutN nodes k) i=if i=k then none else find nodes i:=by
 split
 ·rename_i he
  rw [find_none_iff]
  intro m hm
  have:=(List.mem_filter.1 hm).2
  simp at this
  omega
 ·rename_i hne
  cases hf:find nodes i with
  |none =>
   rw [find_none_iff] at hf ⊢
   exact fun m hm=>hf m (List.mem_filter.1 hm).1
  |some m =>
   obtain ⟨h1,h2⟩:=find_mem hf
   exact (find_iff (withoutN_asc h k)).2 ⟨List.mem_filter.2 ⟨h1,by simp; omega⟩,h2⟩
theorem insE_asc {l:List Ent} (h:AscE l) {e:Ent} (hf:findE l e.name=none):AscE (insE l e):=by
 rw [insE_ins h hf]
 have hl:=lowE_of h e.name
 have hp:=h
 unfold AscE at hp ⊢
 rw [←List.take_append_drop (lowE l e.name) l,List.pairwise_append] at hp
 obtain ⟨p1,p2,p3⟩:=hp
 rw [List.pairwise_append]
 refine ⟨p1,List.pairwise_cons.2 ⟨fun m hm=>?_,p2⟩,fun a ha c hc=>?_⟩
 ·have k1:=dropE_high hl m hm
  have k2:¬m.name=e.name:=by simpa using List.find?_eq_none.1 hf m (List.mem_of_mem_drop hm)
  rcases strLt_total m.name e.name with h4|h4|h4
  ·rw [k1] at h4; cases h4
  ·exact absurd h4 k2
  ·exact h4
 ·rcases List.mem_cons.1 hc with rfl|hc
  ·exact takeE_low hl a ha
  ·exact p3 a ha c hc
theorem dropE_asc {l:List Ent} (h:AscE l) (s:Bytes):AscE (dropE l s):=List.Pairwise.filter _ h
theorem Srt.with {t:Tree} (h:Srt t) {n:Node} (hn:AscE n.ents) (next cookie:Int):Srt ⟨withN t.nodes n,next,cookie⟩ :=
 ⟨withN_asc h.asc n,fun m hm=>by
  rcases (mem_withN h.asc).1 hm with rfl|⟨hm,_⟩
  ·exact hn
  ·exact h.ents m hm⟩
theorem Srt.without {t:Tree} (h:Srt t) (i next cookie:Int):Srt ⟨withoutN t.nodes i,next,cookie⟩ :=
 ⟨withoutN_asc h.asc i,fun m hm=>h.ents m (List.mem_filter.1 hm).1⟩
theorem Srt.node {t:Tree} (h:Srt t) (i:Int):AscE (nodeN t.nodes i).ents:=by
 cases hf:find t.nodes i with
 |none=>simp [nodeN,hf,Node.zero]; exact List.Pairwise.nil
 |some n=>simp [nodeN,hf]; exact h.ents n (find_mem hf).1
theorem Srt.left {t:Tree} (h:Srt t) (i:Int) (s:Bytes) (next cookie:Int):Srt ⟨leftN t.nodes i s,next,cookie⟩ :=
 h.with (n:={ nodeN t.nodes i with ents:=dropE (nodeN t.nodes i).ents s }) (dropE_asc (h.node i) s) next cookie
theorem Srt.entered {t:Tree} (h:Srt t) (i:Int) (s:Bytes) (of:Int) (hf:findE (nodeN t.nodes i).ents s=none):Srt (enteredN t i s of) :=
 h.with (n:={ nodeN t.nodes i with ents:=insE (nodeN t.nodes i).ents ⟨s,of,t.cookie⟩ }) (insE_asc (h.node i) hf) t.next (w64 (t.cookie+1))
end Go.Proofs.YtannopdcbocngaaGreatDoor
namespace Go.Proofs.YtannopdcbocngaaGreatDoor
open Go Go.Abs
attribute [local irreducible] exK opsK opK gK forkK kr acall callOp owhen obind
theorem dir_ok {nodes:List Node} {dir:Int} (h:(dirN nodes dir).2=0):∃d,find nodes dir=some d∧d.kind=2∧dirN nodes dir=(d,0):=by
 unfold dirN at h ⊢
 split at h
 ·cases h
 ·rename_i d hd
  split at h
  ·rename_i hk; exact ⟨d,hd,hk,by simp [hd,hk]⟩
  ·cases h
end Go.Proofs.YtannopdcbocngaaGreatDoor
namespace Go.Proofs.YtannopdcbocngaaGreatDoor
open Go Go.Abs
attribute [local irreducible] exK opsK opK gK forkK kr acall callOp owhen obind
theorem look_ok {nodes:List Node} {dir:Int} {s:Bytes} (h:((lookN nodes dir s).2 != 0)=false):∃d e,find nodes dir=some d∧d.kind=2∧nameOk s=true∧findE d.ents s=some e∧lookN nodes dir s=(e.ino,0):=by
 have h:(lookN nodes dir s).2=0:=by simpa using h
 have h':=h
 unfold lookN at h
 split at h
 ·rename_i hc; exact absurd h hc
 ·rename_i hc
  obtain ⟨d,h1,h2,h3⟩:=dir_ok (by simpa using hc)
  rw [h3] at h
  split at h
  ·cases h
  ·rename_i hk
   split at h
   ·cases h
   ·rename_i e he
    have hk:nameOk s=true:=by simpa using hk
    refine ⟨d,e,h1,h2,hk,he,?_⟩
    unfold lookN
    rw [h3]
    simp [hk,he]
end Go.Proofs.YtannopdcbocngaaGreatDoor
namespace Go.Proofs.YtannopdcbocngaaGreatDoor
open Go Go.Abs
attribute [local irreducible] exK opsK opK gK forkK kr acall callOp owhen obind
theorem findE_dropE (l:List Ent) (s:Bytes):findE (dropE l s) s=none:=by
 unfold findE dropE
 rw [List.find?_eq_none]
 intro e he
 have:=(List.mem_filter.1 he).2
 simpa using this
theorem findE_dropE_none {l:List Ent} {s r:Bytes} (h:findE l r=none):findE (dropE l s) r=none:=by
 unfold findE dropE at *
 rw [List.find?_eq_none] at *
 exact fun e he=>h e (List.mem_filter.1 he).1
theorem find_leftN {nodes:List Node} (h:Asc nodes) {dir:Int} {s:Bytes} {d:Node} (hf:find nodes dir=some d) (i:Int):find (leftN nodes dir s) i=if i=dir then some { d with ents:=dropE d.ents s } else find nodes i:=by
 have hd:=(find_mem hf).2
 unfold leftN
 rw [hf]
 simp only [Option.getD_some]
 rw [find_withN h,show ({ d with ents:=dropE d.ents s }:Node).ino=dir from hd]
end Go.Proofs.YtannopdcbocngaaGreatDoor
namespace Go.Proofs.YtannopdcbocngaaGreatDoor
open Go Go.Abs
def cntE (l:List Ent) (i:Int):Nat:=l.countP fun e=>e.ino==i
def cnt (ns:List Node) (i:Int):Nat:=(ns.map fun n=>cntE n.ents i).sum
theorem cntE_nil (i:Int):cntE [] i=0:=rfl
theorem cntE_app (a b:List Ent) (i:Int):cntE (a++b) i=cntE a i+cntE b i:=List.countP_append
theorem cntE_cons (e:Ent) (l:List Ent) (i:Int):cntE (e::l) i=cntE l i+(if e.ino=i then 1 else 0):=by simp [cntE,List.countP_cons]
theorem cnt_app (a b:List Node) (i:Int):cnt (a++b) i=cnt a i+cnt b i:=by simp [cnt]
theorem cnt_cons (n:Node) (l:List Node) (i:Int):cnt (n::l) i=cntE n.ents i+cnt l i:=by simp [cnt]
theorem cnt_withN {ns:List Node} (h:Asc ns) (n:Node) (i:Int):cnt (withN ns n) i+cntE (nodeN ns n.ino).ents i=cnt ns i+cntE n.ents i:=by
 rcases at_find h n.ino with ⟨_,o,h2,h3,h4⟩|⟨_,h2⟩
 ·rw [withN_set h h2 h4]
  obtain ⟨s1,s2⟩:=set_split (n:=n) h2
  have e1:cnt ns i=cnt (ns.take (lowB ns n.ino)) i+(cntE o.ents i+cnt (ns.drop (lowB ns n.ino+1)) i):=by
   rw [←cnt_cons,←cnt_app,←s1]
  rw [s2,cnt_app,cnt_cons,e1]
  simp only [nodeN,h3,Option.getD_some]
  omega
 ·rw [withN_ins h h2]
  have e1:cnt ns i=cnt (ns.take (lowB ns n.ino)) i+cnt (ns.drop (lowB ns n.ino)) i:=by
   rw [←cnt_app,List.take_append_drop]
  rw [cnt_app,cnt_cons,e1]
  simp only [nodeN,h2,Option.getD_none,Node.zero,cntE_nil]
  omega
theorem cnt_withoutN {ns:List Node} (h:Asc ns) (k i:Int):cnt (withoutN ns k) i+cntE (nodeN ns k).ents i=cnt ns i:=by
 rcases at_find h k with ⟨_,o,h2,h3,h4⟩|⟨_,h2⟩
 ·rw [withoutN_del h h2 h4]
  obtain ⟨s1,_⟩:=set_split (n:=o) h2
  have e1:cnt ns i=cnt (ns.take (lowB ns k)) i+(cntE o.ents i+cnt (ns.drop (lowB ns k+1)) i):=by
   rw [←cnt_cons,←cnt_app,←s1]
  rw [cnt_app,e1]
  simp only [nodeN,h3,Option.getD_some]
  omega
 ·rw [withoutN_none h2]
  simp only [nodeN,h2,Option.getD_none,Node.zero,cntE_nil]
  omega
theorem cntE_pos {l:List Ent} {i:Int}:0<cntE l i↔∃e,e∈l∧e.ino=i:=by simp [cntE,List.countP_pos_iff]
theorem cnt_pos {i:Int}:∀ {ns:List Node},0<cnt ns i↔∃n e,n∈ns∧e∈n.ents∧e.ino=i
 | []=>by simp [cnt]
 |n::ns=>by
  rw [cnt_cons]
  constructor
  ·intro h
   rcases Nat.eq_zero_or_pos (cntE n.ents i) with h0|h0
   ·obtain ⟨m,e,h1,h2,h3⟩:=(cnt_pos (i:=i) (ns:=ns)).1 (by omega)
    exact ⟨m,e,List.mem_cons_of_mem _ h1,h2,h3⟩
   ·obtain ⟨e,h1,h2⟩:=cntE_pos.1 h0
    exact ⟨n,e,List.mem_cons_self,h1,h2⟩
  ·rintro ⟨m,e,h1,h2,h3⟩
   rcases List.mem_cons.1 h1 with rfl|h1
   ·have:=cntE_pos.2 ⟨e,h2,h3⟩; omega
   ·have:=(cnt_pos (i:=i) (ns:=ns)).2 ⟨m,e,h1,h2,h3⟩; omega
theorem mem_insE {l:List Ent} (h:AscE l) {e:Ent} (hf:findE l e.name=none) {x:Ent}:x∈insE l e↔x=e∨x∈l:=by
 rw [insE_ins h hf]
 have:x∈l↔x∈l.take (lowE l e.name)∨x∈l.drop (lowE l e.name):=by rw [←List.mem_append,List.take_append_drop]
 rw [this,List.mem_append,List.mem_cons]
 constructor
 ·rintro (h|h|h)
  ·exact .inr (.inl h)
  ·exact .inl h
  ·exact .inr (.inr h)
 ·rintro (h|h|h)
  ·exact .inr (.inl h)
  ·exact .inl h
  ·exact .inr (.inr h)
theorem cntE_insE {l:List Ent} (h:AscE l) {e:Ent} (hf:findE l e.name=none) (i:Int):cntE (insE l e) i=cntE l i+(if e.ino=i then 1 else 0):=by
 rw [insE_ins h hf,cntE_app,cntE_cons]
 have:cntE l i=cntE (l.take (lowE l e.name)) i+cntE (l.drop (lowE l e.name)) i:=by rw [←cntE_app,List.take_append_drop]
 omega
theorem mem_dropE {l:List Ent} {s:Bytes} {x:Ent}:x∈dropE l s↔x∈l∧x.name≠s:=by simp [dropE,List.mem_filter]
theorem setE_split {l:List Ent} {b:Nat} {o:Ent} (ho:l[b]?=some o):l=l.take b++o::l.drop (b+1):=by
 have hlt:=(List.getElem?_eq_some_iff.1 ho).1
 rw [List.getElem?_eq_getElem hlt] at ho; injection ho with ho
 conv=>lhs; rw [←List.take_append_drop b l]
 rw [List.drop_eq_getElem_cons hlt,ho]
theorem cntE_dropE {l:List Ent} (h:AscE l) {s:Bytes} {o:Ent} (hf:findE l s=some o) (i:Int):cntE (dropE l s) i+(if o.ino=i then 1 else 0)=cntE l i:=by
 rcases at_findE h s with ⟨_,o',h2,h3,h4⟩|⟨_,h2⟩
 ·rw [hf] at h3; injection h3 with h3; subst h3
  rw [dropE_del h h2 h4]
  have e1:cntE l i=cntE (l.take (lowE l s)) i+(cntE (l.drop (lowE l s+1)) i+(if o.ino=i then 1 else 0)):=by
   rw [←cntE_cons,←cntE_app,←setE_split h2]
  rw [cntE_app,e1]
  omega
 ·rw [hf] at h2; cases h2
theorem len_withN {ns:List Node} (h:Asc ns) {n o:Node} (hf:find ns n.ino=some o):(withN ns n).length=ns.length:=by
 rcases at_find h n.ino with ⟨_,o,h2,h3,h4⟩|⟨_,h2⟩
 ·rw [withN_set h h2 h4,List.length_set]
 ·rw [hf] at h2; cases h2
end Go.Proofs.YtannopdcbocngaaGreatDoor
namespace Go.Proofs.YtannopdcbocngaaGreatDoor
open Go Go.Abs
def Nm (s:Bytes):Prop:=s=[97]∨s=[98]∨s=[99]∨s=[100]∨s=[101]
structure GInv (t:Tree) (dep:Int→Nat) (x:Int):Prop where
 srt:Srt t
 root:∃r,find t.nodes 1=some r∧r.kind=2∧r.up=1
 num:∀i n,find t.nodes i=some n→1≤i∧i<t.next
 kind:∀i n,find t.nodes i=some n→n.kind=1∨n.kind=2
 file:∀i n,find t.nodes i=some n→n.kind=1→n.ents=[]∧n.up=0∧n.data.length≤4096
 dir:∀i n,find t.nodes i=some n→n.kind=2→n.data=[]
 ent:∀i n e,find t.nodes i=some n→e∈n.ents→1≤e.cookie∧e.cookie<t.cookie∧e.ino≠1∧Nm e.name∧∃m,find t.nodes e.ino=some m∧(m.kind=2→m.up=i)
 cook:∀i n,find t.nodes i=some n→n.ents.Pairwise fun a b=>a.cookie≠b.cookie
 links:∀i n,find t.nodes i=some n→n.links=(cnt t.nodes i:Int)+(if i=x then 1 else 0)
 one:∀i n,find t.nodes i=some n→n.kind=2→i≠1→n.links=1
 dep1:dep 1=0
 deps:∀i n,find t.nodes i=some n→n.kind=2→i≠1→dep i=dep n.up+1∧∃p,find t.nodes n.up=some p∧p.kind=2
 deep:∀i n,find t.nodes i=some n→n.kind=2→dep i≤12∧(dep i=12→n.ents=[])
 nodes:t.nodes.length≤200
 next:t.next≤1099511627776
 cookie:1≤t.cookie∧t.cookie≤1099511627776
theorem GInv.ino {t:Tree} {dep:Int→Nat} {x:Int} (_:GInv t dep x) {i:Int} {n:Node} (hf:find t.nodes i=some n):n.ino=i:=(find_mem hf).2
theorem GInv.upd {t t':Tree} {dep:Int→Nat} {x x' d:Int} {n n':Node} (h:GInv t dep x) (hs:Srt t') (hd:find t.nodes d=some n)
  (hf:∀i,find t'.nodes i=if i=d then some n' else find t.nodes i) (hk:n'.kind=n.kind) (hu:n'.up=n.up)
  (hfile:n.kind=1→n'.ents=[]∧n'.data.length≤4096) (hdir:n.kind=2→n'.data=[])
  (hent:∀e,e∈n'.ents→1≤e.cookie∧e.cookie<t'.cookie∧e.ino≠1∧Nm e.name∧∃m,find t.nodes e.ino=some m∧(m.kind=2→m.up=d))
  (hcook:n'.ents.Pairwise fun a b=>a.cookie≠b.cookie)
  (hc:∀i,1≤i→(cnt t'.nodes i:Int)+(if i=x' then 1 else 0)=cnt t.nodes i+(if i=x then 1 else 0)+(if i=d then n'.links-n.links else 0))
  (h1:n.kind=2→n'.links=n.links) (hdeep:dep d=12→n'.ents=[]) (hn:t'.nodes.length≤200) (hnx:t'.next=t.next) (hck:t.cookie≤t'.cookie) (hck':t'.cookie≤1099511627776):GInv t' dep x':=by
 have keep:∀j m,find t.nodes j=some m→∃m',find t'.nodes j=some m'∧m'.kind=m.kind∧m'.up=m.up:=by
  intro j m hm
  rw [hf]
  split
  ·rename_i he
   subst he
   rw [hd] at hm; injection hm with hm; subst hm
   exact ⟨n',rfl,hk,hu⟩
  ·exact ⟨m,hm,rfl,rfl⟩
 have back:∀j m',find t'.nodes j=some m'→(j=d∧m'=n')∨(j≠d∧find t.nodes j=some m'):=by
  intro j m' hm
  rw [hf] at hm
  split at hm
  ·rename_i he; injection hm with hm; exact .inl ⟨he,hm.symm⟩
  ·rename_i he; exact .inr ⟨he,hm⟩
 refine ⟨hs,?_,?_,?_,?_,?_,?_,?_,?_,?_,h.dep1,?_,?_,hn,by rw [hnx]; exact h.next,⟨by have:=h.cookie.1; omega,hck'⟩⟩
 ·obtain ⟨r,h1,h2,h3⟩:=h.root
  obtain ⟨r',k1,k2,k3⟩:=keep _ _ h1
  exact ⟨r',k1,by omega,by omega⟩
 ·intro i m hm
  rw [hnx]
  rcases back i m hm with ⟨rfl,rfl⟩|⟨_,hm⟩
  ·exact h.num _ _ hd
  ·exact h.num _ _ hm
 ·intro i m hm
  rcases back i m hm with ⟨rfl,rfl⟩|⟨_,hm⟩
  ·rw [hk]; exact h.kind _ _ hd
  ·exact h.kind _ _ hm
 ·intro i m hm hk1
  rcases back i m hm with ⟨rfl,rfl⟩|⟨_,hm⟩
  ·rw [hk] at hk1
   exact ⟨(hfile hk1).1,by rw [hu]; exact (h.file _ _ hd hk1).2.1,(hfile hk1).2⟩
  ·exact h.file _ _ hm hk1
 ·intro i m hm hk1
  rcases back i m hm with ⟨rfl,rfl⟩|⟨_,hm⟩
  ·rw [hk] at hk1
   exact hdir hk1
  ·exact h.dir _ _ hm hk1
 ·intro i m e hm he
  have key:∀m,find t.nodes e.ino=some m∧(m.kind=2→m.up=i)→∃m,find t'.nodes e.ino=some m∧(m.kind=2→m.up=i):=by
   rintro m ⟨k1,k2⟩
   obtain ⟨m',j1,j2,j3⟩:=keep _ _ k1
   exact ⟨m',j1,fun hk=>by rw [j3]; exact k2 (by omega)⟩
  rcases back i m hm with ⟨rfl,rfl⟩|⟨_,hm⟩
  ·obtain ⟨a1,a2,a3,a4,k,a5⟩:=hent e he
   exact ⟨a1,a2,a3,a4,key k a5⟩
  ·obtain ⟨a1,a2,a3,a4,k,a5⟩:=h.ent _ _ e hm he
   exact ⟨a1,by omega,a3,a4,key k a5⟩
 ·intro i m hm
  rcases back i m hm with ⟨rfl,rfl⟩|⟨_,hm⟩
  ·exact hcook
  ·exact h.cook _ _ hm
 ·intro i m hm
  rcases back i m hm with ⟨rfl,rfl⟩|⟨hne,hm⟩
  ·have:=hc i (h.num _ _ hd).1
   have:=h.links _ _ hd
   simp only [↓reduceIte] at *
   omega
  ·have:=hc i (h.num _ _ hm).1
   have:=h.links _ _ hm
   simp only [hne,↓reduceIte] at *
   omega
 ·intro i m hm hk1 hi
  rcases back i m hm with ⟨rfl,rfl⟩|⟨_,hm⟩
  ·rw [hk] at hk1
   rw [h1 hk1]; exact h.one _ _ hd hk1 hi
  ·exact h.one _ _ hm hk1 hi
 ·intro i m hm hk1 hi
  rcases back i m hm with ⟨rfl,rfl⟩|⟨_,hm⟩
  ·rw [hk] at hk1
   obtain ⟨a,p,b,c⟩:=h.deps _ _ hd hk1 hi
   obtain ⟨p',k1,k2,_⟩:=keep _ _ b
   rw [hu]; exact ⟨a,p',k1,by omega⟩
  ·obtain ⟨a,p,b,c⟩:=h.deps _ _ hm hk1 hi
   obtain ⟨p',k1,k2,_⟩:=keep _ _ b
   exact ⟨a,p',k1,by omega⟩
 ·intro i m hm hk1
  rcases back i m hm with ⟨rfl,rfl⟩|⟨_,hm⟩
  ·rw [hk] at hk1
   exact ⟨(h.deep _ _ hd hk1).1,hdeep⟩
  ·exact h.deep _ _ hm hk1
theorem GInv.left {t:Tree} {dep:Int→Nat} {d:Int} {n:Node} {s:Bytes} {e:Ent} (h:GInv t dep 0) (hd:find t.nodes d=some n) (he:findE n.ents s=some e):GInv ⟨leftN t.nodes d s,t.next,t.cookie⟩ dep e.ino:=by
 have hE:AscE n.ents:=h.srt.ents n (find_mem hd).1
 have hi:n.ino=d:=h.ino hd
 have hem:=findE_mem he
 have hw:leftN t.nodes d s=withN t.nodes { n with ents:=dropE n.ents s }:=by simp [leftN,hd]
 have hc:∀i,cnt (leftN t.nodes d s) i+(if e.ino=i then 1 else 0)=cnt t.nodes i:=by
  intro i
  have h1:=cnt_withN h.srt.asc { n with ents:=dropE n.ents s } i
  have h2:=cntE_dropE hE he i
  rw [hw]
  have h3:nodeN t.nodes n.ino=n:=by simp only [nodeN,hi,hd,Option.getD_some]
  simp only [h3] at h1
  omega
 refine h.upd (h.srt.left d s t.next t.cookie) hd (find_leftN h.srt.asc hd) rfl rfl ?_ ?_ ?_ ?_ ?_ (fun _=>rfl) ?_ ?_ rfl (Int.le_refl _) h.cookie.2
 ·intro hk
  obtain ⟨h1,_,h3⟩:=h.file _ _ hd hk
  exact ⟨by simp [h1,dropE],h3⟩
 ·exact h.dir _ _ hd
 ·intro x hx
  exact h.ent _ _ x hd (mem_dropE.1 hx).1
 ·exact List.Pairwise.filter _ (h.cook _ _ hd)
 ·intro i h0
  have h1:=hc i
  rw [if_neg (show i≠0 by omega)]
  have e1:(if i=d then (n.links-n.links:Int) else 0)=0:=by split<;>omega
  simp only [e1]
  by_cases h0:i=e.ino
  ·subst h0
   simp only [↓reduceIte] at h1 ⊢
   omega
  ·rw [if_neg (fun hh=>h0 hh.symm)] at h1
   rw [if_neg h0]
   omega
 ·intro h12
  have:=(h.deep _ _ hd ?_).2 h12
  ·simp [this,dropE]
  ·rcases h.kind _ _ hd with hk|hk
   ·have:=(h.file _ _ hd hk).1
    rw [this] at hem; cases hem.1
   ·exact hk
 ·show (leftN t.nodes d s).length≤200
  rw [hw,len_withN h.srt.asc (o:=n) (by simp only [hi]; exact hd)]
  exact h.nodes
theorem GInv.entered {t:Tree} {dep:Int→Nat} {x d:Int} {n m:Node} {s:Bytes} (h:GInv t dep x) (hd:find t.nodes d=some n) (hk:n.kind=2) (he:findE n.ents s=none) (hnm:Nm s)
  (hx:find t.nodes x=some m) (hx1:x≠1) (hup:m.kind=2→m.up=d) (hdp:dep d<12) (hck:t.cookie<1099511627776):GInv (enteredN t d s x) dep 0:=by
 have hE:AscE n.ents:=h.srt.ents n (find_mem hd).1
 have hi:n.ino=d:=h.ino hd
 have hcw:w64 (t.cookie+1)=t.cookie+1:=wrapS (by have:=h.cookie; omega) (by omega)
 have hw:enteredN t d s x=⟨withN t.nodes { n with ents:=insE n.ents ⟨s,x,t.cookie⟩ },t.next,t.cookie+1⟩:=by simp only [enteredN,hd,Option.getD_some,hcw]
 have hfn:findE n.ents (Ent.mk s x t.cookie).name=none:=he
 have hc:∀i,cnt (enteredN t d s x).nodes i=cnt t.nodes i+(if x=i then 1 else 0):=by
  intro i
  have h1:=cnt_withN h.srt.asc { n with ents:=insE n.ents ⟨s,x,t.cookie⟩ } i
  have h2:=cntE_insE hE hfn i
  rw [hw]
  have h3:nodeN t.nodes n.ino=n:=by simp only [nodeN,hi,hd,Option.getD_some]
  simp only [h3] at h1 h2 ⊢
  omega
 have hff:∀i,find (enteredN t d s x).nodes i=if i=d then some { n with ents:=insE n.ents ⟨s,x,t.cookie⟩ } else find t.nodes i:=by
  intro i
  rw [hw]
  have:=find_withN h.srt.asc { n with ents:=insE n.ents ⟨s,x,t.cookie⟩ } i
  rw [this]
  simp only [hi]
 refine h.upd (h.srt.entered d s x (by simp [nodeN,hd,he])) hd hff rfl rfl ?_ ?_ ?_ ?_ ?_ (fun _=>rfl) ?_ ?_ ?_ ?_ ?_
 ·intro hk1; omega
 ·exact h.dir _ _ hd
 ·intro e hem
  rw [hw]
  rcases (mem_insE hE hfn).1 hem with rfl|hem
  ·exact ⟨h.cookie.1,by simp only; omega,hx1,hnm,m,hx,hup⟩
  ·obtain ⟨a1,a2,a3,a4,a5⟩:=h.ent _ _ e hd hem
   exact ⟨a1,by simp only; omega,a3,a4,a5⟩
 ·rw [insE_ins hE hfn]
  have hp:=h.cook _ _ hd
  rw [←List.take_append_drop (lowE n.ents s) n.ents,List.pairwise_append] at hp
  obtain ⟨p1,p2,p3⟩:=hp
  rw [List.pairwise_append]
  refine ⟨p1,List.pairwise_cons.2 ⟨fun a ha=>?_,p2⟩,fun a ha c hc=>?_⟩
  ·have:=(h.ent _ _ a hd (List.mem_of_mem_drop ha)).2.1
   simp only; omega
  ·rcases List.mem_cons.1 hc with rfl|hc
   ·have:=(h.ent _ _ a hd (List.mem_of_mem_take ha)).2.1
    simp only; omega
   ·exact p3 a ha c hc
 ·intro i h0
  have h1:=hc i
  rw [if_neg (show i≠0 by omega)]
  have e1:(if i=d then (n.links-n.links:Int) else 0)=0:=by split<;>omega
  simp only [e1]
  by_cases h0:i=x
  ·subst h0
   simp only [↓reduceIte] at h1 ⊢
   omega
  ·rw [if_neg (fun hh=>h0 hh.symm)] at h1
   rw [if_neg h0]
   omega
 ·intro h12; omega
 ·rw [hw]
  simp only
  rw [len_withN h.srt.asc (o:=n) (by simp only [hi]; exact hd)]
  exact h.nodes
 ·rw [hw]
 ·rw [hw]; simp only; omega
 ·rw [hw]; simp only; omega
theorem GInv.file' {t:Tree} {dep:Int→Nat} {x x' d:Int} {n n':Node} (h:GInv t dep x) (hd:find t.nodes d=some n) (hk:n.kind=1) (hi':n'.ino=d) (hk':n'.kind=1) (hu:n'.up=n.up) (he:n'.ents=n.ents) (hda:n'.data.length≤4096)
  (hx:∀i:Int,1≤i→(if i=x' then 1 else 0:Int)=(if i=x then 1 else 0)+(if i=d then n'.links-n.links else 0)):GInv ⟨withN t.nodes n',t.next,t.cookie⟩ dep x':=by
 have hi:n.ino=d:=h.ino hd
 have hE:AscE n'.ents:=by rw [he]; exact h.srt.ents n (find_mem hd).1
 have hff:∀i,find (withN t.nodes n') i=if i=d then some n' else find t.nodes i:=by
  intro i
  rw [find_withN h.srt.asc n' i,hi']
 obtain ⟨f1,f2,f3⟩:=h.file _ _ hd hk
 refine h.upd (h.srt.with hE t.next t.cookie) hd hff (by omega) hu ?_ ?_ ?_ ?_ ?_ ?_ ?_ ?_ rfl (Int.le_refl _) h.cookie.2
 ·intro _; exact ⟨by rw [he]; exact f1,hda⟩
 ·intro h2; omega
 ·intro e hem; rw [he,f1] at hem; cases hem
 ·rw [he,f1]; exact List.Pairwise.nil
 ·intro i h0
  have h1:=cnt_withN h.srt.asc n' i
  have h2:=hx i h0
  simp only [nodeN,hi',hd,Option.getD_some,he] at h1
  simp only
  omega
 ·intro h2; omega
 ·intro _; rw [he,f1]
 ·simp only
  rw [len_withN h.srt.asc (o:=n) (by simp only [hi']; exact hd)]
  exact h.nodes
theorem GInv.named {t:Tree} {dep:Int→Nat} {x:Int} (h:GInv t dep x) {i:Int} {n:Node} (hi:find t.nodes i=some n) (hk:n.kind=2) (h1:i≠1) (hx:i≠x):∃p e,find t.nodes n.up=some p∧p.kind=2∧e∈p.ents∧e.ino=i:=by
 have a:=h.links _ _ hi
 have b:=h.one _ _ hi hk h1
 rw [if_neg hx] at a
 obtain ⟨m,e,e1,e2,e3⟩:=cnt_pos.1 (show 0<cnt t.nodes i by omega)
 have hm:find t.nodes m.ino=some m:=(find_iff h.srt.asc).2 ⟨e1,rfl⟩
 obtain ⟨_,_,_,_,k,k1,k2⟩:=h.ent _ _ e hm e2
 rw [e3,hi] at k1; injection k1 with k1; subst k1
 obtain ⟨_,p,p1,p2⟩:=h.deps _ _ hi hk h1
 rw [k2 hk] at p1 ⊢
 rw [hm] at p1; injection p1 with p1; subst p1
 exact ⟨m,e,hm,p2,e2,e3⟩
theorem GInv.drop {t:Tree} {dep:Int→Nat} {x k:Int} {n:Node} (h:GInv t dep x) (hx:x=k∨x=0) (hk:find t.nodes k=some n) (he:n.ents=[]) (h1:k≠1) (hc:cnt t.nodes k=0):GInv ⟨withoutN t.nodes k,t.next,t.cookie⟩ dep 0:=by
 have hff:∀i m,find (withoutN t.nodes k) i=some m↔i≠k∧find t.nodes i=some m:=by
  intro i m
  rw [find_withoutN h.srt.asc]
  split<;>simp_all
 have hcn:∀i,cnt (withoutN t.nodes k) i=cnt t.nodes i:=by
  intro i
  have:=cnt_withoutN h.srt.asc k i
  simp only [nodeN,hk,Option.getD_some,he,cntE_nil] at this
  omega
 have hno:∀i m e,find t.nodes i=some m→e∈m.ents→e.ino≠k:=by
  intro i m e hm hem hh
  have:=cnt_pos.2 ⟨m,e,(find_mem hm).1,hem,hh⟩
  omega
 refine ⟨h.srt.without k t.next t.cookie,?_,?_,?_,?_,?_,?_,?_,?_,?_,h.dep1,?_,?_,?_,h.next,h.cookie⟩
 ·obtain ⟨r,r1,r2⟩:=h.root
  exact ⟨r,(hff _ _).2 ⟨fun hh=>h1 hh.symm,r1⟩,r2⟩
 ·intro i m hm; exact h.num _ _ ((hff _ _).1 hm).2
 ·intro i m hm; exact h.kind _ _ ((hff _ _).1 hm).2
 ·intro i m hm; exact h.file _ _ ((hff _ _).1 hm).2
 ·intro i m hm; exact h.dir _ _ ((hff _ _).1 hm).2
 ·intro i m e hm hem
  have hm':=((hff _ _).1 hm).2
  obtain ⟨a1,a2,a3,a4,q,a5,a6⟩:=h.ent _ _ e hm' hem
  exact ⟨a1,a2,a3,a4,q,(hff _ _).2 ⟨hno _ _ e hm' hem,a5⟩,a6⟩
 ·intro i m hm; exact h.cook _ _ ((hff _ _).1 hm).2
 ·intro i m hm
  obtain ⟨m1,m2⟩:=(hff _ _).1 hm
  have:=h.links _ _ m2
  have h0:=(h.num _ _ m2).1
  rw [if_neg (show i≠0 by omega)]
  rw [if_neg (by rcases hx with rfl|rfl<;>omega)] at this
  simp only [hcn]
  exact this
 ·intro i m hm; exact h.one _ _ ((hff _ _).1 hm).2
 ·intro i m hm hk2 hi1
  obtain ⟨m1,m2⟩:=(hff _ _).1 hm
  obtain ⟨a,p,b,c⟩:=h.deps _ _ m2 hk2 hi1
  refine ⟨a,p,(hff _ _).2 ⟨fun hh=>?_,b⟩,c⟩
  have h0:=(h.num _ _ m2).1
  obtain ⟨q,e,q1,_,q3,_⟩:=h.named m2 hk2 hi1 (by rcases hx with rfl|rfl<;>omega)
  rw [hh,hk] at q1; injection q1 with q1; subst q1
  rw [he] at q3; cases q3
 ·intro i m hm; exact h.deep _ _ ((hff _ _).1 hm).2
 ·exact Nat.le_trans (List.length_filter_le _ _) h.nodes
theorem GInv.setUp {t:Tree} {dep dep':Int→Nat} {x to:Int} {n p:Node} (h:GInv t dep x) (hx:find t.nodes x=some n) (hk:n.kind=2) (hx1:x≠1) (hp:find t.nodes to=some p) (hpk:p.kind=2)
  (h1:dep' 1=0) (hds:∀i m,find t.nodes i=some m→m.kind=2→i≠1→i≠x→dep' i=dep' m.up+1) (hdx:dep' x=dep' to+1)
  (hdeep:∀i m,find t.nodes i=some m→m.kind=2→dep' i≤12∧(dep' i=12→m.ents=[])):GInv ⟨withN t.nodes { n with up:=to },t.next,t.cookie⟩ dep' x:=by
 have hi:n.ino=x:=h.ino hx
 have hff:∀i,find (withN t.nodes { n with up:=to }) i=if i=x then some { n with up:=to } else find t.nodes i:=by
  intro i
  rw [find_withN h.srt.asc { n with up:=to } i]
  simp only [hi]
 have keep:∀j m,find t.nodes j=some m→∃m',find (withN t.nodes { n with up:=to }) j=some m'∧m'.kind=m.kind∧(j≠x→m'.up=m.up):=by
  intro j m hm
  rw [hff]
  split
  ·rename_i he
   subst he
   rw [hx] at hm; injection hm with hm; subst hm
   exact ⟨_,rfl,rfl,fun hh=>absurd rfl hh⟩
  ·exact ⟨m,hm,rfl,fun _=>rfl⟩
 have back:∀j m',find (withN t.nodes { n with up:=to }) j=some m'→(j=x∧m'={ n with up:=to })∨(j≠x∧find t.nodes j=some m'):=by
  intro j m' hm
  rw [hff] at hm
  split at hm
  ·rename_i he; injection hm with hm; exact .inl ⟨he,hm.symm⟩
  ·rename_i he; exact .inr ⟨he,hm⟩
 have hcn:∀i,cnt (withN t.nodes { n with up:=to }) i=cnt t.nodes i:=by
  intro i
  have:=cnt_withN h.srt.asc { n with up:=to } i
  have h3:nodeN t.nodes n.ino=n:=by simp only [nodeN,hi,hx,Option.getD_some]
  simp only [h3] at this
  omega
 have hc0:cnt t.nodes x=0:=by
  have a:=h.links _ n hx
  have b:=h.one _ n hx hk hx1
  simp only [↓reduceIte] at a
  omega
 have hno:∀i m e,find t.nodes i=some m→e∈m.ents→e.ino≠x:=by
  intro i m e hm hem hh
  have:=cnt_pos.2 ⟨m,e,(find_mem hm).1,hem,hh⟩
  omega
 have hent:∀i m e,find t.nodes i=some m→e∈m.ents→1≤e.cookie∧e.cookie<t.cookie∧e.ino≠1∧Nm e.name∧∃m,find (withN t.nodes { n with up:=to }) e.ino=some m∧(m.kind=2→m.up=i):=by
  intro i m e hm hem
  obtain ⟨a1,a2,a3,a4,q,a5,a6⟩:=h.ent _ _ e hm hem
  obtain ⟨q',j1,j2,j3⟩:=keep _ _ a5
  exact ⟨a1,a2,a3,a4,q',j1,fun hk=>by rw [j3 (hno _ _ e hm hem)]; exact a6 (by omega)⟩
 refine ⟨h.srt.with (n:={ n with up:=to }) (h.srt.ents n (find_mem hx).1) t.next t.cookie,?_,?_,?_,?_,?_,?_,?_,?_,?_,h1,?_,?_,?_,h.next,h.cookie⟩
 ·obtain ⟨r,r1,r2,r3⟩:=h.root
  obtain ⟨r',k1,k2,k3⟩:=keep _ _ r1
  exact ⟨r',k1,by omega,by rw [k3 (fun hh=>hx1 hh.symm)]; exact r3⟩
 ·intro i m hm
  rcases back i m hm with ⟨rfl,rfl⟩|⟨_,hm⟩
  ·exact h.num _ n hx
  ·exact h.num _ _ hm
 ·intro i m hm
  rcases back i m hm with ⟨rfl,rfl⟩|⟨_,hm⟩
  ·exact h.kind _ n hx
  ·exact h.kind _ _ hm
 ·intro i m hm hk1
  rcases back i m hm with ⟨rfl,rfl⟩|⟨_,hm⟩
  ·simp only at hk1; omega
  ·exact h.file _ _ hm hk1
 ·intro i m hm hk1
  rcases back i m hm with ⟨rfl,rfl⟩|⟨_,hm⟩
  ·exact h.dir _ n hx hk
  ·exact h.dir _ _ hm hk1
 ·intro i m e hm hem
  rcases back i m hm with ⟨rfl,rfl⟩|⟨_,hm⟩
  ·exact hent _ n e hx hem
  ·exact hent _ _ e hm hem
 ·intro i m hm
  rcases back i m hm with ⟨rfl,rfl⟩|⟨_,hm⟩
  ·exact h.cook _ n hx
  ·exact h.cook _ _ hm
 ·intro i m hm
  simp only [hcn]
  rcases back i m hm with ⟨rfl,rfl⟩|⟨_,hm⟩
  ·exact h.links _ n hx
  ·exact h.links _ _ hm
 ·intro i m hm hk1 hi1
  rcases back i m hm with ⟨rfl,rfl⟩|⟨_,hm⟩
  ·exact h.one _ n hx hk hi1
  ·exact h.one _ _ hm hk1 hi1
 ·intro i m hm hk1 hi1
  rcases back i m hm with ⟨rfl,rfl⟩|⟨hne,hm⟩
  ·obtain ⟨p',k1,k2,_⟩:=keep _ _ hp
   exact ⟨hdx,p',k1,by omega⟩
  ·obtain ⟨_,q,b,c⟩:=h.deps _ _ hm hk1 hi1
   obtain ⟨q',k1,k2,_⟩:=keep _ _ b
   exact ⟨hds _ _ hm hk1 hi1 hne,q',k1,by omega⟩
 ·intro i m hm hk1
  rcases back i m hm with ⟨rfl,rfl⟩|⟨_,hm⟩
  ·exact hdeep _ n hx hk
  ·exact hdeep _ _ hm hk1
 ·simp only
  rw [len_withN h.srt.asc (o:=n) (by simp only [hi]; exact hx)]
  exact h.nodes
theorem GInv.made {t:Tree} {dep:Int→Nat} {d kind:Int} {p:Node} (h:GInv t dep 0) (hp:find t.nodes d=some p) (hpk:p.kind=2) (hk:kind=1∨kind=2) (hdp:dep d<12) (hl:t.nodes.length<200) (hn:t.next<1099511627776) :
  GInv ⟨withN t.nodes ⟨t.next,kind,1,[],[],if (kind==2)=true then d else 0⟩,t.next+1,t.cookie⟩ (fun i=>if i=t.next then dep d+1 else dep i) t.next:=by
 have hnew:find t.nodes t.next=none:=by
  cases hz:find t.nodes t.next with
  |none=>rfl
  |some m=>have:=h.num _ _ hz; omega
 have hnx:2≤t.next:=by
  obtain ⟨r,r1,_⟩:=h.root
  have:=(h.num _ _ r1).2; omega
 generalize hn':Node.mk t.next kind 1 [] [] (if (kind==2)=true then d else 0)=n'
 have i1:n'.ino=t.next:=by rw [←hn']
 have i2:n'.kind=kind:=by rw [←hn']
 have i3:n'.links=1:=by rw [←hn']
 have i4:n'.data=[]:=by rw [←hn']
 have i5:n'.ents=[]:=by rw [←hn']
 have i6:n'.up=if (kind==2)=true then d else 0:=by rw [←hn']
 have hff:∀i,find (withN t.nodes n') i=if i=t.next then some n' else find t.nodes i:=by
  intro i
  rw [find_withN h.srt.asc n' i,i1]
 have keep:∀j m,find t.nodes j=some m→find (withN t.nodes n') j=some m∧j≠t.next:=by
  intro j m hm
  have:=(h.num _ _ hm).2
  rw [hff,if_neg (by omega)]
  exact ⟨hm,by omega⟩
 have back:∀j m',find (withN t.nodes n') j=some m'→(j=t.next∧m'=n')∨(j≠t.next∧find t.nodes j=some m'):=by
  intro j m' hm
  rw [hff] at hm
  split at hm
  ·rename_i he; injection hm with hm; exact .inl ⟨he,hm.symm⟩
  ·rename_i he; exact .inr ⟨he,hm⟩
 have hcn:∀i,cnt (withN t.nodes n') i=cnt t.nodes i:=by
  intro i
  have:=cnt_withN h.srt.asc n' i
  simp only [nodeN,i1,hnew,Option.getD_none,Node.zero,i5,cntE_nil] at this
  omega
 have hc0:cnt t.nodes t.next=0:=by
  rcases Nat.eq_zero_or_pos (cnt t.nodes t.next) with h0|h0
  ·exact h0
  ·obtain ⟨m,e,e1,e2,e3⟩:=cnt_pos.1 h0
   obtain ⟨_,_,_,_,k,k1,_⟩:=h.ent _ _ e ((find_iff h.srt.asc).2 ⟨e1,rfl⟩) e2
   rw [e3,hnew] at k1; cases k1
 refine ⟨h.srt.with (n:=n') (by rw [i5]; exact List.Pairwise.nil) _ _,?_,?_,?_,?_,?_,?_,?_,?_,?_,?_,?_,?_,?_,?_,h.cookie⟩
 ·obtain ⟨r,r1,r2⟩:=h.root
  exact ⟨r,(keep _ _ r1).1,r2⟩
 ·intro i m hm
  simp only
  rcases back i m hm with ⟨rfl,rfl⟩|⟨_,hm⟩
  ·omega
  ·have:=h.num _ _ hm; omega
 ·intro i m hm
  rcases back i m hm with ⟨rfl,rfl⟩|⟨_,hm⟩
  ·rw [i2]; exact hk
  ·exact h.kind _ _ hm
 ·intro i m hm hk1
  rcases back i m hm with ⟨rfl,rfl⟩|⟨_,hm⟩
  ·rw [i2] at hk1
   exact ⟨i5,by rw [i6,hk1]; rfl,by rw [i4]; simp⟩
  ·exact h.file _ _ hm hk1
 ·intro i m hm hk1
  rcases back i m hm with ⟨rfl,rfl⟩|⟨_,hm⟩
  ·exact i4
  ·exact h.dir _ _ hm hk1
 ·intro i m e hm hem
  rcases back i m hm with ⟨rfl,rfl⟩|⟨_,hm⟩
  ·rw [i5] at hem; cases hem
  ·obtain ⟨a1,a2,a3,a4,q,a5,a6⟩:=h.ent _ _ e hm hem
   exact ⟨a1,a2,a3,a4,q,(keep _ _ a5).1,a6⟩
 ·intro i m hm
  rcases back i m hm with ⟨rfl,rfl⟩|⟨_,hm⟩
  ·rw [i5]; exact List.Pairwise.nil
  ·exact h.cook _ _ hm
 ·intro i m hm
  simp only [hcn]
  rcases back i m hm with ⟨rfl,rfl⟩|⟨hne,hm⟩
  ·rw [hc0,i3]; simp
  ·rw [if_neg hne]
   have:=h.links _ _ hm
   rw [if_neg (by have:=(h.num _ _ hm).1; omega)] at this
   exact this
 ·intro i m hm hk1 hi1
  rcases back i m hm with ⟨rfl,rfl⟩|⟨_,hm⟩
  ·exact i3
  ·exact h.one _ _ hm hk1 hi1
 ·show (if (1:Int)=t.next then dep d+1 else dep 1)=0
  rw [if_neg (by omega)]; exact h.dep1
 ·intro i m hm hk1 hi1
  show (if i=t.next then dep d+1 else dep i)=(if m.up=t.next then dep d+1 else dep m.up)+1∧_
  rcases back i m hm with ⟨rfl,rfl⟩|⟨hne,hm⟩
  ·rw [i2] at hk1
   have hu:m.up=d:=by rw [i6,hk1]; rfl
   rw [hu,if_pos rfl,if_neg (keep _ _ hp).2]
   exact ⟨rfl,p,(keep _ _ hp).1,hpk⟩
  ·obtain ⟨a,q,b,c⟩:=h.deps _ _ hm hk1 hi1
   rw [if_neg hne,if_neg (keep _ _ b).2]
   exact ⟨a,q,(keep _ _ b).1,c⟩
 ·intro i m hm hk1
  show (if i=t.next then dep d+1 else dep i)≤12∧((if i=t.next then dep d+1 else dep i)=12→_)
  rcases back i m hm with ⟨rfl,rfl⟩|⟨hne,hm⟩
  ·rw [if_pos rfl]; exact ⟨by omega,fun _=>i5⟩
  ·rw [if_neg hne]; exact h.deep _ _ hm hk1
 ·have:=withN_len t.nodes n'
  simp only; omega
 ·simp only; omega
end Go.Proofs.YtannopdcbocngaaGreatDoor
namespace Go.Proofs.YtannopdcbocngaaGreatDoor
open Go Go.Abs
theorem cover:∀(k:Nat) (l:List Nat),(∀j,j<k→j∈l)→k≤l.length
 |0,_,_=>Nat.zero_le _
 |k+1,l,h=>by
  have hk:=h k (by omega)
  have:=cover k (l.erase k) (fun j hj=>(List.mem_erase_of_ne (by omega)).2 (h j (by omega)))
  rw [List.length_erase_of_mem hk] at this
  have:=List.length_pos_of_mem hk
  omega
theorem GInv.up_at {t:Tree} {dep:Int→Nat} {x:Int} (h:GInv t dep x):∀(m:Nat) (i:Int) (n:Node),find t.nodes i=some n→n.kind=2→dep i=m→∀k,k≤m→∃j p,find t.nodes j=some p∧dep j=k:=by
 intro m
 induction m with
 |zero=>intro i n hi _ hm k hk; exact ⟨i,n,hi,by omega⟩
 |succ m ih =>
  intro i n hi hk2 hm k hk
  rcases Nat.eq_or_lt_of_le hk with rfl|hlt
  ·exact ⟨i,n,hi,hm⟩
  ·have h1:i≠1:=fun hh=>by subst hh; have:=h.dep1; omega
   obtain ⟨a,p,b,c⟩:=h.deps _ _ hi hk2 h1
   exact ih _ p b c (by omega) k (by omega)
theorem GInv.dep_lt {t:Tree} {dep:Int→Nat} {x:Int} (h:GInv t dep x) {i:Int} {n:Node} (hi:find t.nodes i=some n) (hk:n.kind=2):dep i<t.nodes.length:=by
 have:=cover (dep i+1) (t.nodes.map fun n=>dep n.ino) (fun j hj=>by
  obtain ⟨a,p,h1,h2⟩:=h.up_at _ _ _ hi hk rfl j (by omega)
  rw [List.mem_map]
  exact ⟨p,(find_mem h1).1,by rw [(find_mem h1).2,h2]⟩)
 rw [List.length_map] at this
 omega
theorem GInv.depthGo_eq {t:Tree} {dep:Int→Nat} {x:Int} (h:GInv t dep x):∀(m:Nat) (i:Int) (d:Nat) (n:Node),find t.nodes i=some n→n.kind=2→dep i≤m→depthGo t.nodes m i d=d+dep i:=by
 intro m
 induction m with
 |zero=>intro i d n _ _ hd; simp only [depthGo]; omega
 |succ m ih =>
  intro i d n hi hk hd
  simp only [depthGo]
  split
  ·rename_i h1; subst h1; have:=h.dep1; omega
  ·rename_i h1
   obtain ⟨a,p,b,c⟩:=h.deps _ _ hi hk h1
   have hu:upOf t.nodes i=n.up:=by simp [upOf,hi]
   rw [hu,ih _ _ p b c (by omega)]
   omega
theorem GInv.depthN_eq {t:Tree} {dep:Int→Nat} {x:Int} (h:GInv t dep x) {i:Int} {n:Node} (hi:find t.nodes i=some n) (hk:n.kind=2):depthN t.nodes i=dep i:=by
 have:=h.depthGo_eq 201 i 0 n hi hk (by have:=(h.deep _ _ hi hk).1; omega)
 simp only [depthN,this]; omega
theorem GInv.up_of {t:Tree} {dep:Int→Nat} {x:Int} (_:GInv t dep x) {i:Int} {n:Node} (hi:find t.nodes i=some n):upOf t.nodes i=n.up:=by simp [upOf,hi]
theorem GInv.below_fuel {t:Tree} {dep:Int→Nat} {x:Int} (h:GInv t dep x) (of:Int):∀(m:Nat) (i:Int) (n:Node),find t.nodes i=some n→n.kind=2→dep i<m→belowGo t.nodes of m i=belowGo t.nodes of (dep i+1) i:=by
 intro m
 induction m with
 |zero=>intro i n _ _ hd; omega
 |succ m ih =>
  intro i n hi hk hd
  by_cases h1:i=1
  ·subst h1; simp only [belowGo]; split<;>rfl
  ·obtain ⟨a,p,b,c⟩:=h.deps _ _ hi hk h1
   simp only [belowGo,h1,↓reduceIte,h.up_of hi]
   rw [ih _ p b c (by omega),a]
theorem GInv.below_self {t:Tree} (i:Int):belowN t.nodes i i=true:=by simp [belowN,belowGo]
theorem GInv.below_root {t:Tree} {of:Int} (h1:of≠1):belowN t.nodes 1 of=false:=by
 simp only [belowN,belowGo]
 rw [if_neg (fun hh=>h1 hh.symm)]
 rfl
theorem GInv.below_up {t:Tree} {dep:Int→Nat} {x:Int} (h:GInv t dep x) {of i:Int} {n:Node} (hi:find t.nodes i=some n) (hk:n.kind=2) (h1:i≠1) (ho:i≠of):belowN t.nodes i of=belowN t.nodes n.up of:=by
 obtain ⟨a,p,b,c⟩:=h.deps _ _ hi hk h1
 have d1:=h.dep_lt b c
 have d2:=h.dep_lt hi hk
 simp only [belowN]
 rw [h.below_fuel of _ _ p b c (by omega)]
 rw [h.below_fuel of _ _ n hi hk (by omega)]
 conv=>lhs; rw [belowGo]
 simp only [ho,h1,↓reduceIte,h.up_of hi]
 rw [a]
theorem GInv.below_dep {t:Tree} {dep:Int→Nat} {x:Int} (h:GInv t dep x) {of:Int}:∀(m:Nat) (i:Int) (n:Node),find t.nodes i=some n→n.kind=2→dep i=m→belowN t.nodes i of=true→dep of≤dep i:=by
 intro m
 induction m with
 |zero =>
  intro i n hi hk hm hb
  by_cases h1:i=1
  ·by_cases h2:of=1
   ·subst h1; subst h2; exact Nat.le_refl _
   ·subst h1; rw [GInv.below_root h2] at hb; cases hb
  ·obtain ⟨a,_⟩:=h.deps _ _ hi hk h1
   omega
 |succ m ih =>
  intro i n hi hk hm hb
  have h1:i≠1:=fun hh=>by subst hh; have:=h.dep1; omega
  obtain ⟨a,p,b,c⟩:=h.deps _ _ hi hk h1
  by_cases ho:i=of
  ·subst ho; exact Nat.le_refl _
  ·rw [h.below_up hi hk h1 ho] at hb
   have:=ih _ p b c (by omega) hb
   omega
end Go.Proofs.YtannopdcbocngaaGreatDoor
namespace Go.Proofs.YtannopdcbocngaaGreatDoor
open Go Go.Abs
theorem nodup_le {α:Type} [DecidableEq α]:∀(l k:List α),l.Nodup→(∀x,x∈l→x∈k)→l.length≤k.length
 | [],_,_,_=>Nat.zero_le _
 |a::l,k,h,hs=>by
  have ha:=hs a List.mem_cons_self
  obtain ⟨h1,h2⟩:=List.nodup_cons.1 h
  have:=nodup_le l (k.erase a) h2 (fun x hx=>(List.mem_erase_of_ne (by rintro rfl; exact h1 hx)).2 (hs x (List.mem_cons_of_mem _ hx)))
  rw [List.length_erase_of_mem ha] at this
  have:=List.length_pos_of_mem ha
  simp only [List.length_cons]
  omega
theorem nm_len {l:List Ent} (h:AscE l) (hn:∀e,e∈l→Nm e.name):l.length≤5:=by
 have:=nodup_le (l.map Ent.name) [[97],[98],[99],[100],[101]] (by
  unfold List.Nodup
  rw [List.pairwise_map]
  refine List.Pairwise.imp ?_ h
  intro a b hab he
  rw [he,strLt_irrefl] at hab; cases hab) (by
  intro x hx
  obtain ⟨e,he,rfl⟩:=List.mem_map.1 hx
  rcases hn e he with h|h|h|h|h<;>rw [h]<;>simp)
 simpa using this
theorem GInv.few {t:Tree} {dep:Int→Nat} {x:Int} (h:GInv t dep x) {i:Int} {n:Node} (hi:find t.nodes i=some n):n.ents.length≤5 :=
 nm_len (h.srt.ents n (find_mem hi).1) (fun e he=>(h.ent _ _ e hi he).2.2.2.1)
theorem cnt_le (i:Int):∀(ns:List Node),(∀n,n∈ns→n.ents.length≤5)→cnt ns i≤5*ns.length
 | [],_=>Nat.zero_le _
 |n::ns,h=>by
  have h1:=cnt_le i ns (fun m hm=>h m (List.mem_cons_of_mem _ hm))
  have h2:cntE n.ents i≤n.ents.length:=List.countP_le_length
  have h3:=h n List.mem_cons_self
  rw [cnt_cons,List.length_cons]
  omega
theorem GInv.cnt_lt {t:Tree} {dep:Int→Nat} {x:Int} (h:GInv t dep x) (i:Int):cnt t.nodes i≤1000:=by
 have:=cnt_le i t.nodes (fun n hn=>h.few ((find_iff h.srt.asc).2 ⟨hn,rfl⟩))
 have:=h.nodes
 omega
theorem GInv.ent_ne {t:Tree} {dep:Int→Nat} {x:Int} (h:GInv t dep x) {i:Int} {n:Node} (hi:find t.nodes i=some n) {e:Ent} (he:e∈n.ents):e.ino≠i:=by
 intro hh
 obtain ⟨_,_,h1,_,m,hm,hu⟩:=h.ent _ _ e hi he
 rw [hh,hi] at hm; injection hm with hm; subst hm
 have hk:n.kind=2:=by
  rcases h.kind _ _ hi with hk|hk
  ·rw [(h.file _ _ hi hk).1] at he; cases he
  ·exact hk
 have:=(h.deps _ _ hi hk (by omega)).1
 rw [hu hk] at this
 omega
theorem nameOf_nm (n:Nat) (h:nameOk (nameOf n)=true):Nm (nameOf n):=by
 unfold nameOf at h ⊢
 unfold Nm
 split
 ·simp
 ·simp
 ·simp
 ·simp
 ·simp
 ·rename_i h0 h1 h2 h3 h4
  split at h
  ·exact absurd (by assumption) h0
  ·exact absurd (by assumption) h1
  ·exact absurd (by assumption) h2
  ·exact absurd (by assumption) h3
  ·exact absurd (by assumption) h4
  ·exact absurd h (by decide)
theorem enter_ok {t:Tree} {ino:Int} {s:Bytes} (h:(enterErr t ino s != 0)=false):∃d,find t.nodes ino=some d∧d.kind=2∧nameOk s=true∧findE d.ents s=none∧d.ents.length<64∧depthN t.nodes ino<12∧t.cookie<1099511627776:=by
 have h0:enterErr t ino s=0:=by simpa using h
 unfold enterErr at h0
 split at h0
 ·rename_i h1; exact absurd h0 h1
 ·rename_i h1
  obtain ⟨d,d1,d2,d3⟩:=dir_ok (show (dirN t.nodes ino).2=0 by omega)
  rw [d3] at h0
  split at h0
  ·cases h0
  ·rename_i h2
   split at h0
   ·cases h0
   ·rename_i h3
    split at h0
    ·cases h0
    ·rename_i h4
     simp only [fullN,(find_mem d1).2,Bool.or_eq_true,decide_eq_true_eq,not_or] at h4
     refine ⟨d,d1,d2,by simpa using h2,by simpa using h3,by omega,by omega,by omega⟩
theorem GInv.cw {t:Tree} {dep:Int→Nat} {x:Int} (h:GInv t dep x) (hn:t.next<1099511627776):w64 (t.next+1)=t.next+1:=wrapS (by
 obtain ⟨r,r1,_⟩:=h.root
 have:=h.num _ _ r1; omega) (by omega)
theorem addN_inv {t:Tree} {dep:Int→Nat} (h:GInv t dep 0) (ino:Int) (s:Bytes) (kind:Int) (hs:nameOk s=true→Nm s):∃dep',GInv (addN t ino s kind).1 dep' 0:=by
 unfold addN
 split
 ·exact ⟨dep,h⟩
 ·rename_i hk
  split
  ·exact ⟨dep,h⟩
  ·rename_i he
   split
   ·exact ⟨dep,h⟩
   ·rename_i hb
    obtain ⟨d,d1,d2,d3,d4,d5,d6,d7⟩:=enter_ok (by simpa using he)
    simp only [Bool.or_eq_true,decide_eq_true_eq,not_or] at hb
    have hn:t.next<1099511627776:=by omega
    rw [h.depthN_eq d1 d2] at d6
    have hk':kind=1∨kind=2:=by
     simp only [Bool.and_eq_true,bne_iff_ne,ne_eq,not_and,Decidable.not_not] at hk
     by_cases h1:kind=1
     ·exact .inl h1
     ·exact .inr (hk h1)
    have hm:=h.made d1 d2 hk' d6 (by omega) hn
    rw [h.cw hn]
    have hlt:=(h.num _ _ d1).2
    have hne:ino≠t.next:=by omega
    refine ⟨_,hm.entered (d:=ino) (n:=d) (m:=⟨t.next,kind,1,[],[],if (kind==2)=true then ino else 0⟩) ?_ d2 d4 (hs d3) ?_ ?_ ?_ ?_ d7⟩
    ·simp only; rw [find_withN h.srt.asc]; simp only [hne,↓reduceIte]; exact d1
    ·simp only; rw [find_withN h.srt.asc]; simp only [↓reduceIte]
    ·have:=(h.num _ _ d1).1; omega
    ·intro h2
     simp only at h2
     simp [h2]
    ·simp only [hne,↓reduceIte]; exact d6
theorem lnN_inv {t:Tree} {dep:Int→Nat} (h:GInv t dep 0) (ino to:Int) (s:Bytes) (hs:nameOk s=true→Nm s):GInv (lnN t ino to s).1 dep 0:=by
 unfold lnN
 split
 ·exact h
 ·rename_i hf
  split
  ·exact h
  ·rename_i hk
   split
   ·exact h
   ·rename_i he
    obtain ⟨d,d1,d2,d3,d4,d5,d6,d7⟩:=enter_ok (by simpa using he)
    rw [h.depthN_eq d1 d2] at d6
    cases hi:find t.nodes ino with
    |none=>simp [hi] at hf
    |some n =>
     simp only [nodeN,hi,Option.getD_some] at hk ⊢
     have hk1:n.kind=1:=by
      rcases h.kind _ _ hi with h1|h1
      ·exact h1
      ·simp [h1] at hk
     have hlk:=h.links _ _ hi
     rw [if_neg (by have:=(h.num _ _ hi).1; omega)] at hlk
     have hcl:=h.cnt_lt ino
     have hw:w64 (n.links+1)=n.links+1:=wrapS (by omega) (by omega)
     rw [hw]
     obtain ⟨f1,f2,f3⟩:=h.file _ _ hi hk1
     have hg:=h.file' (n':={ n with links:=n.links+1 }) (x':=ino) hi hk1 (find_mem hi).2 hk1 rfl rfl f3 (fun i h0=>by
      simp only
      rw [if_neg (show i≠0 by omega)]
      split<;>omega)
     have hne:to≠ino:=fun hh=>by subst hh; rw [hi] at d1; injection d1 with d1; subst d1; omega
     refine hg.entered (d:=to) (n:=d) (m:={ n with links:=n.links+1 }) ?_ d2 d4 (hs d3) ?_ ?_ ?_ d6 d7
     ·simp only; rw [find_withN h.srt.asc]; simp only [h.ino hi,hne,↓reduceIte]; exact d1
     ·simp only; rw [find_withN h.srt.asc]; simp only [h.ino hi,↓reduceIte]
     ·intro hh; subst hh
      obtain ⟨r,r1,r2,_⟩:=h.root
      rw [hi] at r1; injection r1 with r1; subst r1; omega
     ·intro h2; simp only at h2; omega
theorem GInv.unnamed {t:Tree} {dep:Int→Nat} {k:Int} {n:Node} (h:GInv t dep k) (hk:find t.nodes k=some n) (he:n.ents=[]) (h1:k≠1):GInv ⟨unnamedN t.nodes k,t.next,t.cookie⟩ dep 0:=by
 unfold unnamedN
 simp only [nodeN,hk,Option.getD_some]
 have hl:=h.links _ _ hk
 simp only [↓reduceIte] at hl
 split
 ·rename_i h2
  have:=h.one _ _ hk (by simpa using h2) h1
  exact h.drop (.inl rfl) hk he h1 (by omega)
 ·rename_i h2
  have hk1:n.kind=1:=by
   rcases h.kind _ _ hk with h1|h1
   ·exact h1
   ·simp [h1] at h2
  have hcl:=h.cnt_lt k
  have hw:w64 (n.links-1)=n.links-1:=wrapS (by omega) (by omega)
  rw [hw]
  obtain ⟨f1,f2,f3⟩:=h.file _ _ hk hk1
  exact h.file' (n':={ n with links:=n.links-1 }) (x':=0) hk hk1 (find_mem hk).2 hk1 rfl rfl f3 (fun i h0=>by
   simp only
   rw [if_neg (show i≠0 by omega)]
   split<;>omega)
theorem GInv.un {t:Tree} {dep:Int→Nat} (h:GInv t dep 0) {d:Int} {n m:Node} {s:Bytes} {e:Ent} (hd:find t.nodes d=some n) (he:findE n.ents s=some e) (hm:find t.nodes e.ino=some m) (hm0:m.ents=[]):GInv ⟨unnamedN (leftN t.nodes d s) e.ino,t.next,t.cookie⟩ dep 0:=by
 have hem:=(findE_mem he).1
 have hl:=h.left hd he
 refine hl.unnamed (n:=m) ?_ hm0 (h.ent _ _ e hd hem).2.2.1
 simp only
 rw [find_leftN h.srt.asc hd,if_neg (h.ent_ne hd hem)]
 exact hm
theorem unN_inv {t:Tree} {dep:Int→Nat} (h:GInv t dep 0) (ino:Int) (s:Bytes):GInv (unN t ino s).1 dep 0:=by
 unfold unN
 split
 ·exact h
 ·rename_i hl
  obtain ⟨d,e,d1,d2,d3,d4,d5⟩:=look_ok (by simpa using hl)
  rw [d5]
  split
  ·exact h
  ·rename_i h0
   obtain ⟨_,_,_,_,m,hm,_⟩:=h.ent _ _ e d1 (findE_mem d4).1
   simp only [nodeN,hm,Option.getD_some,decide_eq_true_eq] at h0
   exact h.un d1 d4 hm (List.length_eq_zero_iff.1 (by omega))
theorem putN_inv {t:Tree} {dep:Int→Nat} (h:GInv t dep 0) (ino:Int) (data:Bytes):GInv (putN t ino data).1 dep 0:=by
 unfold putN
 split
 ·exact h
 ·rename_i hf
  split
  ·exact h
  ·rename_i hk
   split
   ·exact h
   ·rename_i hd
    cases hi:find t.nodes ino with
    |none=>simp [hi] at hf
    |some n =>
     simp only [nodeN,hi,Option.getD_some] at hk ⊢
     have hk1:n.kind=1:=by
      rcases h.kind _ _ hi with h1|h1
      ·exact h1
      ·simp [h1] at hk
     simp only [decide_eq_true_eq] at hd
     exact h.file' (n':={ n with data:=data }) (x':=0) hi hk1 (find_mem hi).2 hk1 rfl rfl (by simp only; omega) (fun i h0=>by
      simp only
      rw [if_neg (show i≠0 by omega)]
      split<;>omega)
theorem freeN_inv {t:Tree} {dep:Int→Nat} (h:GInv t dep 0) (ino:Int):GInv (freeN t ino).1 dep 0:=by
 unfold freeN
 split
 ·exact h
 ·rename_i hf
  split
  ·exact h
  ·rename_i hk
   split
   ·exact h
   ·rename_i hd
    cases hi:find t.nodes ino with
    |none=>simp [hi] at hf
    |some n =>
     simp only [nodeN,hi,Option.getD_some] at hk hd
     have hk1:n.kind=1:=by
      rcases h.kind _ _ hi with h1|h1
      ·exact h1
      ·simp [h1] at hk
     simp only [decide_eq_true_eq] at hd
     have hl:=h.links _ _ hi
     rw [if_neg (by have:=(h.num _ _ hi).1; omega)] at hl
     refine h.drop (.inr rfl) hi (h.file _ _ hi hk1).1 ?_ (by omega)
     intro hh; subst hh
     obtain ⟨r,r1,r2,_⟩:=h.root
     rw [hi] at r1; injection r1 with r1; subst r1; omega
end Go.Proofs.YtannopdcbocngaaGreatDoor
namespace Go.Proofs.YtannopdcbocngaaGreatDoor
open Go Go.Abs
theorem asc_ext:∀ {a b:List Node},Asc a→Asc b→(∀m,m∈a↔m∈b)→a=b
 | [],[],_,_,_=>rfl
 | [],y::b,_,_,h=>by have:=(h y).2 List.mem_cons_self; cases this
 |x::a,[],_,_,h=>by have:=(h x).1 List.mem_cons_self; cases this
 |x::a,y::b,ha,hb,h=>by
  obtain ⟨a1,a2⟩:=List.pairwise_cons.1 ha
  obtain ⟨b1,b2⟩:=List.pairwise_cons.1 hb
  have hxy:x=y:=by
   rcases List.mem_cons.1 ((h x).1 List.mem_cons_self) with h1|h1
   ·exact h1
   ·rcases List.mem_cons.1 ((h y).2 List.mem_cons_self) with h2|h2
    ·exact h2.symm
    ·have:=b1 x h1; have:=a1 y h2; omega
  subst hxy
  rw [asc_ext a2 b2 (fun m=>?_)]
  constructor
  ·intro hm
   rcases List.mem_cons.1 ((h m).1 (List.mem_cons_of_mem _ hm)) with h1|h1
   ·subst h1; have:=a1 m hm; omega
   ·exact h1
  ·intro hm
   rcases List.mem_cons.1 ((h m).2 (List.mem_cons_of_mem _ hm)) with h1|h1
   ·subst h1; have:=b1 m hm; omega
   ·exact h1
theorem find_ext {a b:List Node} (ha:Asc a) (hb:Asc b) (h:∀i,find a i=find b i):a=b :=
 asc_ext ha hb fun m=>by
  constructor
  ·intro hm
   have:=(find_iff ha).2 ⟨hm,rfl⟩
   rw [h] at this
   exact (find_mem this).1
  ·intro hm
   have:=(find_iff hb).2 ⟨hm,rfl⟩
   rw [←h] at this
   exact (find_mem this).1
theorem unnamedN_asc {nodes:List Node} (h:Asc nodes) (k:Int):Asc (unnamedN nodes k):=by
 unfold unnamedN
 split
 ·exact withoutN_asc h _
 ·exact withN_asc h _
theorem leftN_asc {nodes:List Node} (h:Asc nodes) (k:Int) (s:Bytes):Asc (leftN nodes k s):=withN_asc h _
def lessN (n:Node):Option Node:=if (n.kind==2)=true then none else some { n with links:=w64 (n.links-1) }
theorem find_unnamedN {nodes:List Node} (h:Asc nodes) {k:Int} {n:Node} (hk:find nodes k=some n) (i:Int):find (unnamedN nodes k) i=if i=k then lessN n else find nodes i:=by
 unfold unnamedN lessN
 simp only [nodeN,hk,Option.getD_some]
 split
 ·rw [find_withoutN h]
 ·rw [find_withN h]
  simp only [(find_mem hk).2]
theorem dropE_comm (l:List Ent) (a b:Bytes):dropE (dropE l a) b=dropE (dropE l b) a:=by
 simp only [dropE,List.filter_filter]
 congr 1
 funext e
 rw [Bool.and_comm]
theorem un_first {nodes:List Node} (h:Asc nodes) {f to y:Int} {s nm:Bytes} {dF dT m:Node} (hF:find nodes f=some dF) (hT:find nodes to=some dT) (hy:find nodes y=some m) (h1:y≠f) (h2:y≠to) :
  unnamedN (leftN (leftN nodes f s) to nm) y=leftN (unnamedN (leftN nodes to nm) y) f s:=by
 have a1:=leftN_asc h f s
 have a2:=leftN_asc h to nm
 have a3:=leftN_asc a1 to nm
 have a4:=unnamedN_asc a2 y
 have f1:=find_leftN h hF (s:=s)
 have f2:=find_leftN h hT (s:=nm)
 have hy1:find (leftN nodes to nm) y=some m:=by rw [f2,if_neg h2]; exact hy
 have f4:=find_unnamedN a2 hy1
 obtain ⟨dT',hT'⟩:∃dT',find (leftN nodes f s) to=some dT':=by rw [f1]; split<;>simp_all
 have f3:=find_leftN a1 hT' (s:=nm)
 have hy3:find (leftN (leftN nodes f s) to nm) y=some m:=by rw [f3,if_neg h2,f1,if_neg h1]; exact hy
 have f5:=find_unnamedN a3 hy3
 obtain ⟨dF',hF'⟩:∃dF',find (unnamedN (leftN nodes to nm) y) f=some dF':=by rw [f4,if_neg (fun hh=>h1 hh.symm),f2]; split<;>simp_all
 have f6:=find_leftN a4 hF' (s:=s)
 refine find_ext (unnamedN_asc a3 y) (leftN_asc a4 f s) (fun i=>?_)
 rw [f5,f6,f4,f3]
 rw [f1] at hT'
 rw [f4,if_neg (fun hh=>h1 hh.symm),f2] at hF'
 by_cases i1:i=y
 ·subst i1; simp [h1]
 ·simp only [i1,↓reduceIte]
  by_cases i2:i=to
  ·subst i2
   simp only [↓reduceIte]
   by_cases i3:i=f
   ·subst i3
    simp only [↓reduceIte] at hT' hF' ⊢
    injection hT' with hT'; injection hF' with hF'
    rw [←hT',←hF']
    rw [hF] at hT; injection hT with hT; subst hT
    simp only [dropE_comm]
   ·simp only [i3,↓reduceIte] at hT' ⊢
    rw [f2]; simp only [↓reduceIte]
    rw [hT] at hT'; injection hT' with hT'; rw [hT']
  ·simp only [i2,↓reduceIte]
   rw [f1,f2]
   by_cases i3:i=f
   ·subst i3
    simp only [↓reduceIte,i2] at hF' ⊢
    rw [hF] at hF'; injection hF' with hF'; rw [hF']
   ·simp only [i3,i2,↓reduceIte]
theorem GInv.move0 {t:Tree} {dep dep':Int→Nat} {f to:Int} {s nm:Bytes} {dF dT m:Node} {e:Ent} (h:GInv t dep 0) (hF:find t.nodes f=some dF) (he:findE dF.ents s=some e) (hT:find t.nodes to=some dT) (hTk:dT.kind=2) (hfree:findE dT.ents nm=none) (hnm:Nm nm)
  (hm:find t.nodes e.ino=some m) (hne:e.ino≠to) (hd12:dep' to<12) (hck:t.cookie<1099511627776)
  (hcase:(m.kind=1∧dep'=dep)∨(m.kind=2∧dep' 1=0∧(∀i n,find t.nodes i=some n→n.kind=2→i≠1→i≠e.ino→dep' i=dep' n.up+1)∧dep' e.ino=dep' to+1 ∧
   ∀i n,find t.nodes i=some n→n.kind=2→dep' i≤12∧(dep' i=12→n.ents=[]))):GInv (moveN t f s to nm e.ino 0) dep' 0:=by
 have hem:=(findE_mem he).1
 have hnf:e.ino≠f:=h.ent_ne hF hem
 have h1:e.ino≠1:=(h.ent _ _ e hF hem).2.2.1
 have hl:=h.left hF he
 have fl:=find_leftN h.srt.asc hF (s:=s)
 have hmx:find (leftN t.nodes f s) e.ino=some m:=by rw [fl,if_neg hnf]; exact hm
 obtain ⟨d1,g1,g2,g3⟩:∃d1,find (leftN t.nodes f s) to=some d1∧d1.kind=2∧findE d1.ents nm=none:=by
  rw [fl]
  split
  ·rename_i hh
   subst hh
   rw [hF] at hT; injection hT with hT; subst hT
   exact ⟨_,rfl,hTk,findE_dropE_none hfree⟩
  ·exact ⟨dT,hT,hTk,hfree⟩
 have hnode:nodeN t.nodes e.ino=m:=by simp [nodeN,hm]
 unfold moveN
 simp only [hnode,bne_self_eq_false,Bool.false_eq_true,↓reduceIte]
 rcases hcase with ⟨hk,rfl⟩|⟨hk,c1,c2,c3,c4⟩
 ·rw [if_neg (by simp [hk])]
  exact hl.entered g1 g2 g3 hnm hmx h1 (fun h2=>by omega) hd12 hck
 ·rw [if_pos (by simp [hk])]
  have hs:=hl.setUp (dep':=dep') hmx hk h1 g1 g2 c1 (fun i n hi hk2 hi1 hie=>by
    simp only [fl] at hi
    split at hi
    ·rename_i hh; subst hh
     injection hi with hi; subst hi
     exact c2 i dF hF hk2 hi1 hie
    ·exact c2 _ _ hi hk2 hi1 hie) c3 (fun i n hi hk2=>by
    simp only [fl] at hi
    split at hi
    ·rename_i hh; subst hh
     injection hi with hi; subst hi
     obtain ⟨q1,q2⟩:=c4 i dF hF hk2
     exact ⟨q1,fun h12=>by simp [q2 h12,dropE]⟩
    ·exact c4 _ _ hi hk2)
  have hmi:m.ino=e.ino:=(find_mem hm).2
  have fw:=find_withN (leftN_asc h.srt.asc f s) { m with up:=to }
  refine hs.entered (n:=d1) (m:={ m with up:=to }) ?_ g2 g3 hnm ?_ h1 (fun _=>rfl) hd12 hck
  ·simp only
   rw [fw]
   rw [if_neg (show ¬to=m.ino from fun hh=>hne (by omega))]
   exact g1
  ·simp only
   rw [fw]
   simp only [hmi,↓reduceIte]
end Go.Proofs.YtannopdcbocngaaGreatDoor
namespace Go.Proofs.YtannopdcbocngaaGreatDoor
open Go Go.Abs
def highAt (nodes:List Node) (at' d:Int) (n:Node):Int :=
 if decide ((0:Int)<n.ents.length)=true then w64 (w64 (w64 (at'+depthN nodes n.ino)-d)+1) else w64 (w64 (at'+depthN nodes n.ino)-d)
theorem highStep_ge (nodes:List Node) (ino at' d:Int) (n:Node) (most:Int):most≤highStep nodes ino at' d n most∧((n.kind==2&&belowN nodes n.ino ino)=true→highAt nodes at' d n≤highStep nodes ino at' d n most):=by
 have e:highStep nodes ino at' d n most=if (n.kind==2&&belowN nodes n.ino ino)=true then (if highAt nodes at' d n>most then highAt nodes at' d n else most) else most:=rfl
 rw [e]
 split
 ·split
  ·exact ⟨by omega,fun _=>Int.le_refl _⟩
  ·exact ⟨Int.le_refl _,fun _=>by omega⟩
 ·rename_i h; exact ⟨Int.le_refl _,fun hh=>absurd hh h⟩
theorem highGo_ge (nodes:List Node) (ino at' d:Int):∀(l:List Node) (most:Int),most≤highGo nodes ino at' d l most∧∀n,n∈l→(n.kind==2&&belowN nodes n.ino ino)=true→highAt nodes at' d n≤highGo nodes ino at' d l most
 | [],most=>⟨Int.le_refl _,fun n hn=>by cases hn⟩
 |m::l,most=>by
  obtain ⟨h1,h2⟩:=highGo_ge nodes ino at' d l (highStep nodes ino at' d m most)
  obtain ⟨h3,h4⟩:=highStep_ge nodes ino at' d m most
  rw [highGo]
  refine ⟨by omega,fun n hn hb=>?_⟩
  rcases List.mem_cons.1 hn with rfl|hn
  ·have:=h4 hb; omega
  ·exact h2 n hn hb
def redep (nodes:List Node) (dep:Int→Nat) (x to:Int):Int→Nat:=fun i=>if belowN nodes i x=true then dep i+(dep to+1)-dep x else dep i
theorem GInv.highAt_eq {t:Tree} {dep:Int→Nat} (h:GInv t dep 0) {x to i:Int} {m n:Node} (hx:find t.nodes x=some m) (hk:m.kind=2) (hd:dep to<12) (hi:find t.nodes i=some n) (hk2:n.kind=2) (hb:belowN t.nodes i x=true) :
  highAt t.nodes (((dep to+1:Nat):Int)) (dep x) n=((redep t.nodes dep x to i+(if 0<n.ents.length then 1 else 0):Nat):Int):=by
 have d1:=(h.deep _ _ hi hk2).1
 have d2:=(h.deep _ _ hx hk).1
 have d3:=h.below_dep _ i n hi hk2 rfl hb
 have hdn:depthN t.nodes n.ino=dep i:=by rw [h.ino hi]; exact h.depthN_eq hi hk2
 have w1:w64 ((((dep to+1:Nat):Int))+(dep i:Nat))=(((dep to+1:Nat):Int))+(dep i:Nat):=wrapS (by omega) (by omega)
 have w2:w64 ((((dep to+1:Nat):Int))+(dep i:Nat)-(dep x:Nat))=(((dep to+1:Nat):Int))+(dep i:Nat)-(dep x:Nat):=wrapS (by omega) (by omega)
 have w3:w64 ((((dep to+1:Nat):Int))+(dep i:Nat)-(dep x:Nat)+1)=(((dep to+1:Nat):Int))+(dep i:Nat)-(dep x:Nat)+1:=wrapS (by omega) (by omega)
 unfold highAt redep
 rw [if_pos hb,hdn,w1,w2,w3]
 by_cases hl:0<n.ents.length
 ·rw [if_pos (by simpa using hl),if_pos hl]; omega
 ·rw [if_neg (by simpa using hl),if_neg hl]; omega
theorem GInv.redeps {t:Tree} {dep:Int→Nat} (h:GInv t dep 0) {x to:Int} {m dT:Node} (hx:find t.nodes x=some m) (hk:m.kind=2) (hx1:x≠1) (hT:find t.nodes to=some dT) (hTk:dT.kind=2) (hnb:belowN t.nodes to x=false) (hd:dep to<12)
  (hh:highN t.nodes x (((dep to+1:Nat):Int))≤12) :
  redep t.nodes dep x to 1=0∧(∀i n,find t.nodes i=some n→n.kind=2→i≠1→i≠x→redep t.nodes dep x to i=redep t.nodes dep x to n.up+1)∧redep t.nodes dep x to x=redep t.nodes dep x to to+1 ∧
   (∀i n,find t.nodes i=some n→n.kind=2→redep t.nodes dep x to i≤12∧(redep t.nodes dep x to i=12→n.ents=[]))∧redep t.nodes dep x to to=dep to:=by
 have hto:redep t.nodes dep x to to=dep to:=by unfold redep; rw [if_neg (by simp [hnb])]
 refine ⟨?_,?_,?_,?_,hto⟩
 ·unfold redep
  rw [if_neg (by simp [GInv.below_root hx1])]
  exact h.dep1
 ·intro i n hi hk2 hi1 hix
  obtain ⟨a,p,b,c⟩:=h.deps _ _ hi hk2 hi1
  have hb:=h.below_up hi hk2 hi1 hix
  unfold redep
  rw [hb]
  split
  ·rename_i hb2
   have:=h.below_dep _ _ p b c rfl hb2
   omega
  ·exact a
 ·rw [hto]
  unfold redep
  rw [if_pos (GInv.below_self x)]
  omega
 ·intro i n hi hk2
  by_cases hb:belowN t.nodes i x=true
  ·have h1:=(highGo_ge t.nodes x (((dep to+1:Nat):Int)) (depthN t.nodes x) t.nodes 0).2 n (find_mem hi).1 (by rw [hk2,h.ino hi,hb]; rfl)
   rw [h.depthN_eq hx hk,h.highAt_eq hx hk hd hi hk2 hb] at h1
   unfold highN at hh
   rw [h.depthN_eq hx hk] at hh
   have h2:=Int.le_trans h1 hh
   split at h2
   ·rename_i hl
    exact ⟨by omega,fun h12=>by omega⟩
   ·rename_i hl
    exact ⟨by omega,fun _=>List.length_eq_zero_iff.1 (by omega)⟩
  ·have:redep t.nodes dep x to i=dep i:=by unfold redep; rw [if_neg hb]
   rw [this]
   exact h.deep _ _ hi hk2
theorem findE_dropE_ne {l:List Ent} {s r:Bytes} (h:r≠s):findE (dropE l s) r=findE l r:=by
 unfold findE dropE
 rw [List.find?_filter]
 congr 1
 funext e
 by_cases he:e.name=r
 ·have hn:e.name≠s:=he▸h
  simp [he,h]
 ·simp [he]
structure MvOk (t:Tree) (dep:Int→Nat) (f:Int) (s:Bytes) (to:Int) (nm:Bytes) (dF dT m:Node) (e:Ent):Prop where
 hF:find t.nodes f=some dF
 kF:dF.kind=2
 he:findE dF.ents s=some e
 hT:find t.nodes to=some dT
 kT:dT.kind=2
 hn:nameOk nm=true
 hm:find t.nodes e.ino=some m
 ne:e.ino≠to
 nf:e.ino≠f
 loop:m.kind=2→belowN t.nodes to e.ino=false
 deep:dep to<12
 high:m.kind=2→highN t.nodes e.ino (((dep to+1:Nat):Int))≤12
 cookie:t.cookie<1099511627776
 room:findE dT.ents nm=none→to≠f→dT.ents.length<64
 onto:∀e2,findE dT.ents nm=some e2→e2.ino≠e.ino∧∃y,find t.nodes e2.ino=some y∧y.ents=[]∧(m.kind=2↔y.kind=2)∧e2.ino≠f∧e2.ino≠to
theorem GInv.mv {t:Tree} {dep:Int→Nat} (h:GInv t dep 0) {f:Int} {s:Bytes} {to:Int} {nm:Bytes} {dF dT m:Node} {e:Ent} (hs:nameOk nm=true→Nm nm) (k:MvOk t dep f s to nm dF dT m e):∃dep',GInv (moveN t f s to nm e.ino (underN dT.ents nm)) dep' 0:=by
 have hem:=(findE_mem k.he).1
 have hx1:=(h.ent _ _ e k.hF hem).2.2.1
 have hcase:∃dep':Int→Nat,dep' to<12∧((m.kind=1∧dep'=dep)∨(m.kind=2∧dep' 1=0∧(∀i n,find t.nodes i=some n→n.kind=2→i≠1→i≠e.ino→dep' i=dep' n.up+1)∧dep' e.ino=dep' to+1 ∧
   ∀i n,find t.nodes i=some n→n.kind=2→dep' i≤12∧(dep' i=12→n.ents=[]))):=by
  rcases h.kind _ _ k.hm with hk|hk
  ·exact ⟨dep,k.deep,.inl ⟨hk,rfl⟩⟩
  ·obtain ⟨c1,c2,c3,c4,c5⟩:=h.redeps k.hm hk hx1 k.hT k.kT (k.loop hk) k.deep (k.high hk)
   exact ⟨redep t.nodes dep e.ino to,by rw [c5]; exact k.deep,.inr ⟨hk,c1,c2,c3,c4⟩⟩
 obtain ⟨dep',hd12,hcase⟩:=hcase
 refine ⟨dep',?_⟩
 cases hfr:findE dT.ents nm with
 |none =>
  have hu:underN dT.ents nm=0:=by simp [underN,hfr]
  rw [hu]
  exact h.move0 k.hF k.he k.hT k.kT hfr (hs k.hn) k.hm k.ne hd12 k.cookie hcase
 |some e2 =>
  have hu:underN dT.ents nm=e2.ino:=by simp [underN,hfr]
  rw [hu]
  obtain ⟨q1,y,q2,q3,q4,q5,q6⟩:=k.onto e2 hfr
  have h1:=h.un k.hT hfr q2 q3
  have a2:=leftN_asc h.srt.asc to nm
  have f2:=find_leftN h.srt.asc k.hT (s:=nm)
  have hy1:find (leftN t.nodes to nm) e2.ino=some y:=by rw [f2,if_neg q6]; exact q2
  have f4:∀i,find (unnamedN (leftN t.nodes to nm) e2.ino) i=if i=e2.ino then lessN y else if i=to then some { dT with ents:=dropE dT.ents nm } else find t.nodes i:=by
   intro i
   rw [find_unnamedN a2 hy1,f2]
  have hnn:nodeN (unnamedN (leftN t.nodes to nm) e2.ino) e.ino=nodeN t.nodes e.ino:=by
   simp only [nodeN]
   rw [f4,if_neg (fun hh=>q1 hh.symm),if_neg k.ne]
  have hy0:=(h.num _ _ q2).1
  have hmv:moveN t f s to nm e.ino e2.ino=moveN ⟨unnamedN (leftN t.nodes to nm) e2.ino,t.next,t.cookie⟩ f s to nm e.ino 0:=by
   unfold moveN
   simp only [hnn]
   rw [un_first h.srt.asc k.hF k.hT q2 q5 q6]
   have e1:(e2.ino != 0)=true:=by simp; omega
   simp only [e1,bne_self_eq_false,Bool.false_eq_true,↓reduceIte]
  rw [hmv]
  have hsn:to=f→s≠nm:=fun hh hsn=>by
   subst hh; subst hsn
   have:=k.hF; rw [k.hT] at this; injection this with this; subst this
   have:=k.he; rw [hfr] at this; injection this with this; subst this
   exact q1 rfl
  obtain ⟨dF',g1,g2⟩:∃dF',find (unnamedN (leftN t.nodes to nm) e2.ino) f=some dF'∧findE dF'.ents s=some e:=by
   rw [f4,if_neg (fun hh=>q5 hh.symm)]
   split
   ·rename_i hh
    refine ⟨_,rfl,?_⟩
    rw [findE_dropE_ne (hsn hh.symm)]
    subst hh
    have:=k.hF; rw [k.hT] at this; injection this with this; subst this
    exact k.he
   ·exact ⟨dF,k.hF,k.he⟩
  have back:∀i n,find (unnamedN (leftN t.nodes to nm) e2.ino) i=some n→n.kind=2→∃n0,find t.nodes i=some n0∧n0.kind=2∧n0.up=n.up∧(n0.ents=[]→n.ents=[]):=by
   intro i n hi hk
   rw [f4] at hi
   split at hi
   ·unfold lessN at hi
    split at hi
    ·cases hi
    ·rename_i hh
     injection hi with hi; subst hi
     simp only at hk
     simp [hk] at hh
   ·split at hi
    ·rename_i hh; subst hh
     injection hi with hi; subst hi
     exact ⟨dT,k.hT,hk,rfl,fun h0=>by simp [h0,dropE]⟩
    ·exact ⟨n,hi,hk,rfl,fun h0=>h0⟩
  refine h1.move0 (dep':=dep') g1 g2 (dT:={ dT with ents:=dropE dT.ents nm }) ?_ k.kT (findE_dropE _ _) (hs k.hn) (m:=m) ?_ k.ne hd12 k.cookie ?_
  ·simp only; rw [f4,if_neg (fun hh=>q6 hh.symm),if_pos rfl]
  ·simp only; rw [f4,if_neg (fun hh=>q1 hh.symm),if_neg k.ne]; exact k.hm
  ·rcases hcase with hc|⟨hk,c1,c2,c3,c4⟩
   ·exact .inl hc
   ·refine .inr ⟨hk,c1,?_,c3,?_⟩
    ·intro i n hi hk2 hi1 hie
     obtain ⟨n0,b1,b2,b3,_⟩:=back i n hi hk2
     rw [←b3]; exact c2 i n0 b1 b2 hi1 hie
    ·intro i n hi hk2
     obtain ⟨n0,b1,b2,_,b4⟩:=back i n hi hk2
     exact ⟨(c4 i n0 b1 b2).1,fun h12=>b4 ((c4 i n0 b1 b2).2 h12)⟩
end Go.Proofs.YtannopdcbocngaaGreatDoor
namespace Go.Proofs.YtannopdcbocngaaGreatDoor
open Go Go.Abs
theorem GInv.zero {t:Tree} {dep:Int→Nat} {x:Int} (h:GInv t dep x):find t.nodes 0=none:=by
 cases hz:find t.nodes 0 with
 |none=>rfl
 |some m=>have:=h.num _ _ hz; omega
theorem mvN_cases {t:Tree} {dep:Int→Nat} (h:GInv t dep 0) (f:Int) (s:Bytes) (to:Int) (nm:Bytes) :
  ((mvN t f s to nm).1=t∧(mvN t f s to nm).2.1=0∧(mvN t f s to nm).2.2≠0) ∨
  (mvN t f s to nm=(t,0,0)∧∃dF dT e e2,find t.nodes f=some dF∧dF.kind=2∧nameOk s=true∧findE dF.ents s=some e∧lookN t.nodes f s=(e.ino,0)∧find t.nodes to=some dT∧dT.kind=2∧nameOk nm=true∧findE dT.ents nm=some e2∧e2.ino=e.ino) ∨
  ∃dF dT m e,MvOk t dep f s to nm dF dT m e∧nameOk s=true∧lookN t.nodes f s=(e.ino,0)∧mvN t f s to nm=(moveN t f s to nm e.ino (underN dT.ents nm),underN dT.ents nm,0):=by
 unfold mvN
 split
 ·rename_i c1; exact .inl ⟨rfl,rfl,by simpa using c1⟩
 rename_i c1
 split
 ·rename_i c2; exact .inl ⟨rfl,rfl,by simpa using c2⟩
 rename_i c2
 split
 ·exact .inl ⟨rfl,rfl,by simp⟩
 rename_i c3
 obtain ⟨dF,e,e1,e2,e3,e4,e5⟩:=look_ok (by simpa using c1)
 obtain ⟨dT,g1,g2,g3⟩:=dir_ok (show (dirN t.nodes to).2=0 by simpa using c2)
 have hem:=(findE_mem e4).1
 obtain ⟨_,_,x1,_,m,hm,hup⟩:=h.ent _ _ e e1 hem
 have hnode:nodeN t.nodes e.ino=m:=by simp [nodeN,hm]
 simp only [e5,g3,hnode]
 split
 ·rename_i c4
  right; left
  refine ⟨rfl,dF,dT,e,?_⟩
  have c4':underN dT.ents nm=e.ino:=by simpa using c4
  cases hfr:findE dT.ents nm with
  |none=>simp only [underN,hfr] at c4'; have:=(h.num _ _ hm).1; omega
  |some e2'=>simp only [underN,hfr] at c4'; exact ⟨e2',e1,e2,e3,e4,rfl,g1,g2,by simpa using c3,rfl,c4'⟩
 rename_i c4
 split
 ·exact .inl ⟨rfl,rfl,by simp⟩
 rename_i c5
 split
 ·rename_i c6; exact .inl ⟨rfl,rfl,by simpa using c6⟩
 rename_i c6
 split
 ·exact .inl ⟨rfl,rfl,by simp⟩
 rename_i c7
 right; right
 have hdt:=h.depthN_eq g1 g2
 simp only [manyN,hdt,Bool.or_eq_true,Bool.and_eq_true,beq_iff_eq,decide_eq_true_eq,not_or,not_and,bne_iff_ne] at c7
 obtain ⟨r1,r2,r3,r4⟩:=c7
 have hw:w64 (((dep to:Nat):Int)+1)=((dep to+1:Nat):Int):=by
  have:=(h.deep _ _ g1 g2).1
  rw [show (((dep to:Nat):Int)+1)=((dep to+1:Nat):Int) by omega]
  exact wrapS (by omega) (by omega)
 rw [hw] at r3
 have hnf:=h.ent_ne e1 hem
 have hne:e.ino≠to:=fun hh=>by
  rw [hh,g1] at hm; injection hm with hm; subst hm
  simp only [g2,beq_self_eq_true,Bool.true_and] at c5
  rw [hh,GInv.below_self] at c5
  exact c5 rfl
 refine ⟨dF,dT,m,e,⟨e1,e2,e4,g1,g2,by simpa using c3,hm,hne,hnf,?_,by omega,?_,by omega,?_,?_⟩,e3,rfl,rfl⟩
 ·intro hk
  simpa [hk] using c5
 ·intro hk
  have:=r3 hk; omega
 ·intro hfr hne
  have hu:underN dT.ents nm=0:=by simp [underN,hfr]
  have:=r1 ⟨hu,hne⟩
  omega
 ·intro e2' hfr
  have hu:underN dT.ents nm=e2'.ino:=by simp [underN,hfr]
  rw [hu] at c4 c6
  obtain ⟨_,_,_,_,y,hy,_⟩:=h.ent _ _ e2' g1 (findE_mem hfr).1
  have hny:nodeN t.nodes e2'.ino=y:=by simp [nodeN,hy]
  have hto:=h.ent_ne g1 (findE_mem hfr).1
  simp only [clashN,hy,Option.isSome_some,Bool.not_true,Bool.false_eq_true,↓reduceIte,hny,bne_iff_ne,ne_eq,Decidable.not_not] at c6
  split at c6
  ·cases c6
  ·rename_i k1
   split at c6
   ·cases c6
   ·rename_i k2
    split at c6
    ·cases c6
    ·rename_i k3
     have hy0:y.ents=[]:=List.length_eq_zero_iff.1 (by simpa using k3)
     refine ⟨by simpa using c4,y,hy,hy0,?_,?_,hto⟩
     ·simp at k1 k2
      constructor
      ·exact k1
      ·intro hy2
       rcases h.kind _ _ hm with hk|hk
       ·exact absurd hy2 (k2 (by omega))
       ·exact hk
     ·intro hh
      rw [hh,e1] at hy; injection hy with hy; subst hy
      rw [hy0] at hem; cases hem
theorem mvN_inv {t:Tree} {dep:Int→Nat} (h:GInv t dep 0) (f:Int) (s:Bytes) (to:Int) (nm:Bytes) (hs:nameOk nm=true→Nm nm):∃dep',GInv (mvN t f s to nm).1 dep' 0:=by
 rcases mvN_cases h f s to nm with ⟨h1,_⟩|⟨h1,_⟩|⟨dF,dT,m,e,k,_,_,hk⟩
 ·rw [h1]; exact ⟨dep,h⟩
 ·rw [h1]; exact ⟨dep,h⟩
 ·rw [hk]; exact h.mv hs k
theorem doneN_inv {t:Tree} {dep:Int→Nat} (h:GInv t dep 0) (s:Step):∃dep',GInv (doneN t s).1 dep' 0:=by
 unfold doneN
 split
 ·exact addN_inv h _ _ _ (nameOf_nm _)
 split
 ·exact ⟨dep,lnN_inv h _ _ _ (nameOf_nm _)⟩
 split
 ·exact ⟨dep,unN_inv h _ _⟩
 split
 ·exact mvN_inv h _ _ _ _ (nameOf_nm _)
 split
 ·exact ⟨dep,putN_inv h _ _⟩
 ·exact ⟨dep,freeN_inv h _⟩
theorem newN_inv:GInv newN (fun _=>0) 0:=by
 have hf:∀i n,find newN.nodes i=some n→i=1∧n=⟨1,2,0,[],[],1⟩:=by
  intro i n hi
  obtain ⟨h1,h2⟩:=find_mem hi
  simp [newN] at h1
  subst h1
  exact ⟨h2.symm,rfl⟩
 refine ⟨⟨?_,?_⟩,⟨_,rfl,rfl,rfl⟩,?_,?_,?_,?_,?_,?_,?_,?_,rfl,?_,?_,by simp [newN],by simp [newN],by simp [newN]⟩
 ·simp [newN,Asc]
 ·intro n hn; simp [newN] at hn; subst hn; exact List.Pairwise.nil
 ·intro i n hi; obtain ⟨rfl,rfl⟩:=hf i n hi; simp [newN]
 ·intro i n hi; obtain ⟨rfl,rfl⟩:=hf i n hi; simp
 ·intro i n hi; obtain ⟨rfl,rfl⟩:=hf i n hi; simp
 ·intro i n hi; obtain ⟨rfl,rfl⟩:=hf i n hi; simp
 ·intro i n e hi he; obtain ⟨rfl,rfl⟩:=hf i n hi; cases he
 ·intro i n hi; obtain ⟨rfl,rfl⟩:=hf i n hi; exact List.Pairwise.nil
 ·intro i n hi; obtain ⟨rfl,rfl⟩:=hf i n hi; simp [newN,cnt,cntE]
 ·intro i n hi _ h1; exact absurd (hf i n hi).1 h1
 ·intro i n hi _ h1; exact absurd (hf i n hi).1 h1
 ·intro i n hi; obtain ⟨rfl,rfl⟩:=hf i n hi; simp
theorem madeN_inv (l:List Step):∃dep,GInv (madeN l) dep 0:=by
 have key:∀(l:List Step) (t:Tree),(∃dep,GInv t dep 0)→∃dep,GInv (l.foldl (fun t s=>(doneN t s).1) t) dep 0:=by
  intro l
  induction l with
  |nil=>intro t h; exact h
  |cons s l ih =>
   rintro t ⟨dep,h⟩
   exact ih _ (doneN_inv h s)
 exact key l _ ⟨_,newN_inv⟩
end Go.Proofs.YtannopdcbocngaaGreatDoor
namespace Go.Proofs.YtannopdcbocngaaGreatDoor
open Go Go.Abs
attribute [local irreducible] exK opsK opK gK forkK kr acall callOp owhen obind
theorem great_ok {l:List Step} (h:greatN l=false) (ho:∀s,s∈l→s.kind<256∧s.a<256∧s.b<256∧s.n<256∧s.m<256):l.length≤60∧∀s,s∈l→s.Ok:=by
 simp only [greatN,Bool.or_eq_false_iff,decide_eq_false_iff_not] at h
 refine ⟨by omega,fun s hs=>?_⟩
 obtain ⟨h1,h2,h3,h4,h5⟩:=ho s hs
 have:=List.any_eq_false.1 h.2 s hs
 simp only [decide_eq_true_eq] at this
 exact ⟨h1,h2,h3,h4,h5,by omega⟩
end Go.Proofs.YtannopdcbocngaaGreatDoor
namespace Go.Proofs.YtannopdcbocngaaGreatDoor
open Go Go.Abs
def wLinks:Bytes:=[108,105,110,107,115]
def wDir:Bytes:=[32,100,105,114,32]
def wFile:Bytes:=[32,102,105,108,101,32]
def dirLine (p:Bytes) (ino:Int):Bytes:=escN p++wDir++Lib.itoa ino++[10]
def fileLine (pre:Bytes) (n:Node):Bytes:=pre++wFile++Lib.itoa n.ino++fldN ⟨wLinks,n.links,[]⟩++fldN ⟨wData,0,escN n.data⟩++[10]
def entT (ns:List Node) (rec:Int→Bytes→Bytes) (path:Bytes) (e:Ent):Bytes :=
 let n:=nodeN ns e.ino
 let p:=path++[47]++e.name
 if n.kind=2 then dirLine p n.ino++rec n.ino p else fileLine (escN p) n
def belowT (ns:List Node):Nat→Int→Bytes→Bytes
 |0,_,_=>[]
 |f+1,i,path=>(nodeN ns i).ents.flatMap (entT ns (belowT ns f) path)
def orphT (n:Node):Bytes:=if n.kind=1∧n.links=0 then fileLine [45] n else []
def treeT (ns:List Node) (f:Nat):Bytes:=[47,32,100,105,114,32,49,10]++belowT ns f 1 []++ns.flatMap orphT
def FinB (ns:List Node):Nat→Int→Prop
 |0,i=>(nodeN ns i).ents=[]
 |f+1,i=>(nodeN ns i).ents.length≤5∧∀e,e∈(nodeN ns i).ents→e.name.length≤50∧((nodeN ns e.ino).kind=2→FinB ns f (nodeN ns e.ino).ino)
structure NdOk (n:Node):Prop where
 ino:okI n.ino
 links:okI n.links
 data:n.data.length≤5000
theorem dirLine_le {p:Bytes} {i:Int} (h:okI i):(dirLine p i).length≤3*p.length+30:=by
 have h1:=escN_le p
 have h2:=itoa_le h
 unfold dirLine wDir
 simp; omega
theorem fileLine_le {pre:Bytes} {n:Node} (h:NdOk n):(fileLine pre n).length≤pre.length+15200:=by
 have h1:=itoa_le h.ino
 have h2:=fldN_le' (f:=⟨wLinks,n.links,[]⟩) h.links
 have h3:=fldN_le' (f:=⟨wData,0,escN n.data⟩) okI_zero
 have h4:=escN_le n.data
 have h5:=h.data
 simp only [wLinks,wData,List.length_cons,List.length_nil] at h2 h3
 unfold fileLine wFile
 simp only [wLinks,wData,List.length_append,List.length_cons,List.length_nil]
 omega
def bB:Nat→Nat
 |0=>0
 |f+1=>5*(20000+bB f)
theorem flat_le {α:Type} (g:α→Bytes) (b:Nat):∀l:List α,(∀x,x∈l→(g x).length≤b)→(l.flatMap g).length≤b*l.length
 | [],_=>by simp
 |x::r,h=>by
  have h1:=h x (by simp)
  have h2:=flat_le g b r (fun y hy=>h y (by simp [hy]))
  simp only [List.flatMap_cons,List.length_append,List.length_cons,Nat.mul_add,Nat.mul_one]
  omega
theorem entT_le {ns:List Node} (hn:∀i,NdOk (nodeN ns i)) {f:Nat} {path:Bytes} {e:Ent} (hp:path.length+51≤1500) (hen:e.name.length≤50) (hr:(nodeN ns e.ino).kind=2→(belowT ns f (nodeN ns e.ino).ino (path++[47]++e.name)).length≤bB f):(entT ns (belowT ns f) path e).length≤20000+bB f:=by
 unfold entT
 simp only
 have hl:(path++[47]++e.name).length≤1500:=by simp; omega
 split
 ·rename_i hk
  have h1:=dirLine_le (p:=path++[47]++e.name) (hn e.ino).ino
  have h2:=hr hk
  rw [List.length_append]
  omega
 ·have h1:=fileLine_le (pre:=escN (path++[47]++e.name)) (hn e.ino)
  have h2:=escN_le (path++[47]++e.name)
  omega
theorem belowT_le {ns:List Node} (hn:∀i,NdOk (nodeN ns i)):∀(f:Nat) (i:Int) (path:Bytes),FinB ns f i→path.length+51*f≤1500→(belowT ns f i path).length≤bB f
 |0,i,path,_,_=>by simp [belowT,bB]
 |f+1,i,path,h,hp=>by
  rw [belowT,bB]
  have h1:=flat_le (entT ns (belowT ns f) path) (20000+bB f) (nodeN ns i).ents (fun e he=>entT_le hn (by omega) (h.2 e he).1 (fun hk=>belowT_le hn f _ _ ((h.2 e he).2 hk) (by have:=(h.2 e he).1; simp; omega)))
  have h2:=h.1
  have h3:(20000+bB f)*(nodeN ns i).ents.length≤(20000+bB f)*5:=Nat.mul_le_mul (Nat.le_refl _) h2
  omega
theorem bB_mono:∀ {f g:Nat},f≤g→bB f≤bB g
 |0,g,_=>Nat.zero_le _
 |f+1,0,h=>by omega
 |f+1,g+1,h=>by
  have:=bB_mono (f:=f) (g:=g) (by omega)
  simp only [bB]; omega
theorem bB12:bB 12=6103515600000:=by decide
theorem nodeN_some {ns:List Node} {i:Int} {n:Node} (h:find ns i=some n):nodeN ns i=n:=by simp [nodeN,h]
theorem nodeN_none {ns:List Node} {i:Int} (h:find ns i=none):nodeN ns i=Node.zero:=by simp [nodeN,h]
theorem find_of_mem:∀ {ns:List Node},Asc ns→∀ {n:Node},n∈ns→find ns n.ino=some n
 | [],_,n,h=>by cases h
 |m::r,ha,n,h=>by
  have h1:=List.pairwise_cons.1 ha
  rcases List.mem_cons.1 h with rfl|h
  ·simp [find]
  ·have hlt:=h1.1 n h
   have ih:=find_of_mem h1.2 h
   unfold find at ih ⊢
   rw [List.find?_cons_of_neg (by simp; omega)]
   exact ih
theorem GInv.nd {t:Tree} {dep:Int→Nat} (h:GInv t dep 0) (i:Int):NdOk (nodeN t.nodes i):=by
 cases hf:find t.nodes i with
 |none=>rw [nodeN_none hf]; exact ⟨okI_zero,okI_zero,by simp [Node.zero]⟩
 |some n =>
  rw [nodeN_some hf]
  have h1:=h.num i n hf
  have h2:=h.ino hf
  have h3:=h.links i n hf
  have h4:=cnt_le i t.nodes (fun m hm=>nm_len (h.srt.ents m hm) (fun e he=>(h.ent _ _ e (find_of_mem h.srt.asc hm) he).2.2.2.1))
  have h5:=h.nodes
  have h6:=h.next
  refine ⟨by unfold okI; omega,?_,?_⟩
  ·unfold okI
   rw [h3]
   split<;>omega
  ·rcases h.kind i n hf with hk|hk
   ·have:=(h.file i n hf hk).2.2; omega
   ·rw [h.dir i n hf hk]; simp
theorem GInv.fin {t:Tree} {dep:Int→Nat} (h:GInv t dep 0):∀(f:Nat) (i:Int) (n:Node),find t.nodes i=some n→n.kind=2→dep i+f=12→FinB t.nodes f i
 |0,i,n,hf,hk,hd=>by
  show (nodeN t.nodes i).ents=[]
  rw [nodeN_some hf]
  exact (h.deep i n hf hk).2 (by omega)
 |f+1,i,n,hf,hk,hd=>by
  have h1:=h.few hf
  refine ⟨by rw [nodeN_some hf]; exact h1,fun e he=>?_⟩
  rw [nodeN_some hf] at he
  obtain ⟨_,_,he1,hnm,m,hm,hup⟩:=h.ent i n e hf he
  refine ⟨by rcases hnm with h|h|h|h|h<;>rw [h]<;>decide,fun hk2=>?_⟩
  rw [nodeN_some hm] at hk2 ⊢
  have hi:=h.ino hm
  rw [hi]
  have hd2:=(h.deps e.ino m hm hk2 he1).1
  rw [hup hk2] at hd2
  exact GInv.fin h f e.ino m hm hk2 (by omega)
end Go.Proofs.YtannopdcbocngaaGreatDoor
namespace Go.Proofs.YtannopdcbocngaaGreatDoor
open Go Go.Abs
attribute [local irreducible] exK opsK opK gK forkK kr acall callOp owhen obind
structure TrOk (t:Tree):Prop where
 len:t.nodes.length≤1000
 nd:∀i,NdOk (nodeN t.nodes i)
 mem:∀x,x∈t.nodes→NdOk x
 fin:FinB t.nodes 12 1
end Go.Proofs.YtannopdcbocngaaGreatDoor
namespace Go.Proofs.YtannopdcbocngaaGreatDoor
open Go Go.Abs
attribute [local irreducible] exK opsK opK gK forkK kr acall callOp owhen obind
abbrev mapB (ns:List Node):ABox := .map (ns.map fun n=>eI n.ino) (ns.map eNode)
abbrev wr (p k m:Nat) (l:Bytes):ABox := .cells [.bself p 96,.obuf k 5 false l,.mref m]
abbrev wrM (ns:List Node) (l:Bytes):AMem:=[wr 0 1 2 l,.tick 1 l.length,mapB ns]
theorem mapB_ids (ns:List Node):(mapB ns).ids=[]:=by
 simp only [ABox.ids]
 induction ns with
 |nil=>rfl
 |cons n r ih =>
  rw [List.map_cons,List.flatMap_cons,ih]
  rfl
theorem mapB_flat (ns:List Node):(mapB ns).flat=true:=by
 simp only [ABox.flat,List.all_eq_true]
 intro x hx
 obtain ⟨n,_,rfl⟩:=List.mem_map.1 hx
 rfl
theorem mapB_ren (ns:List Node) (ρ:Nat→Nat):(mapB ns).ren ρ=mapB ns:=by
 simp only [ABox.ren,List.map_map]
 congr 1
theorem callOpW {C:CallF} {f p k m:Nat} {vs:List AVal} {r:AVal} {M:AMem} {l:Bytes} {b':AVal} {n':Nat} {ns:List Node} (hp:nth M p=some (wr p k m l)) (hk:nth M k=some (.tick 1 l.length)) (hm:nth M m=some (mapB ns)) (hpk:p≠k) (hpm:p≠m) (hkm:k≠m)
  (h:C f (.ptr 0 0::vs) (wrM ns l)=some (r,[.cells [.bself 0 96,b',.mref 2],.tick 1 n',mapB ns])) (h1:vs.all AVal.flat=true) (h2:vs.flatMap AVal.ids=[])
  (h4:vs.map (AVal.ren (idxN [p,k,m]))=vs) (h5:r.renR (atN [p,k,m])=r) (h3:r.flatR=true) (hb:b'.flat1=true) :
  callOp C f (.ptr p 0::vs) M=some (r,setN (setN (setN M p (.cells [.bself p 96,b'.ren1 (atN [p,k,m]),.mref m])) k (.tick 1 n')) m (mapB ns)):=by
 have hids:(AVal.ptr p 0::vs).flatMap AVal.ids=[p]:=by simp [AVal.ids,AVal.ids1,AVal.ids0,h2]
 have hi:idsAt M [p]=[p,k,m]:=by simp [idsAt,hp,ABox.ids,AVal.ids1,AVal.ids0]
 have hmi:=mapB_ids ns
 have hi2:idsAt M [p,k,m]=[p,k,m]:=by
  simp only [idsAt,hp,hk,hm,hmi]
  simp [ABox.ids,AVal.ids1,AVal.ids0]
 have n1:=Ne.symm hpk
 have n2:=Ne.symm hpm
 have n3:=Ne.symm hkm
 have e0:reach1 M [p]=[p,k,m]:=by simp [reach1,hi,addAll,n1,n2,n3]
 have e2:reach1 M [p,k,m]=[p,k,m]:=by simp [reach1,hi2,addAll]
 have e1:reach M [p]=[p,k,m]:=by
  have ea:addAll [] [p]=[p]:=rfl
  simp only [reach,ea,e0,e2]
 have hfl:(AVal.ptr p 0::vs).all AVal.flat=true:=by simp only [List.all_cons,h1,Bool.and_true]; rfl
 unfold callOp
 rw [if_pos hfl,hids,e1]
 have i0:idxN [p,k,m] p=0:=by simp [idxN]
 have i1:idxN [p,k,m] k=1:=by simp [idxN,hpk]
 have i2:idxN [p,k,m] m=2:=by simp [idxN,hpm,hkm]
 have hpkm:pickM M (idxN [p,k,m]) [p,k,m]=some (wrM ns l):=by
  simp only [pickM,hp,hk,hm,mapB_flat ns,mapB_ren ns,if_true,obind_some]
  simp [ABox.flat,AVal.flat1,AVal.flat0,ABox.ren,AVal.ren1,AVal.ren0,i0,i1,i2]
 rw [hpkm]
 simp only [obind_some]
 rw [if_pos e2]
 have hrn:(AVal.ptr p 0::vs).map (AVal.ren (idxN [p,k,m])) = .ptr 0 0::vs:=by
  simp only [List.map_cons,h4]
  simp [AVal.ren,AVal.ren1,AVal.ren0,i0]
 rw [hrn,h]
 simp only [obind_some]
 rw [if_pos ⟨rfl,h3,by
  simp only [List.all_cons,mapB_flat ns]
  simp [ABox.flat,AVal.flat1,AVal.flat0] at hb ⊢
  exact hb⟩,h5]
 simp only [wback,mapB_ren ns]
 simp [ABox.ren,AVal.ren1,AVal.ren0,atN,nth]
theorem back_nodes (B:Nat) (M:AMem) (ns:List Node):List.map (AVal.back2 B M) (List.map eNode ns)=List.map eNode ns:=by
 rw [List.map_map]
 exact List.map_congr_left fun n _=>rfl
theorem roomW {a:Nat} (h:a≤17592186044416):roomOk a 1=True:=by
 simp only [eq_iff_iff,iff_true]
 unfold roomOk
 omega
theorem c91w (ns:List Node) (l:Bytes):acall tabT 91 [.ptr 0 0] (wrM ns l)=some (.tuple [],wrM ns l):=acall_prim (g:=pCheck) rfl rfl
theorem k91w (ns:List Node) (l:Bytes):callOp (acall tabT) 91 [.ptr 0 0] (wrM ns l)=some (.tuple [],wrM ns l) :=
 callOpW (p:=0) (k:=1) (m:=2) rfl rfl rfl (by decide) (by decide) (by decide) (c91w ns l) rfl rfl rfl rfl rfl rfl
theorem c50w (ns:List Node) (l s:Bytes) (h:l.length+s.length≤17592186044416):acall tabT 50 [.ptr 0 0,.str s] (wrM ns l)=some (.tuple [eI s.length,.raw .nilIface],wrM ns (l++s)):=by
 refine acall_ex rfl rfl rfl ?_
 have hr:=roomW h
 have h91:=k91w ns l
 simp only [wrM,wr,mapB] at h91
 simp only [fn50,E50,h91,hr,back_nodes,EVT,EVD,↓reduceIte,Nat.reduceEqDiff,reduceCtorEq,Nat.reduceAdd,Nat.reduceLeDiff,ne_eq,Nat.reduceLT,Int.reduceLT,Int.reduceLE,Int.reduceNeg]
 simp
theorem k50w {p k m:Nat} {M:AMem} {l:Bytes} {ns:List Node} (s:Bytes) (hp:nth M p=some (wr p k m l)) (hk:nth M k=some (.tick 1 l.length)) (hm:nth M m=some (mapB ns)) (hpk:p≠k) (hpm:p≠m) (hkm:k≠m) (h:l.length+s.length≤17592186044416) :
  callOp (acall tabT) 50 [.ptr p 0,.str s] M=some (.tuple [eI s.length,.raw .nilIface],setN (setN (setN M p (wr p k m (l++s))) k (.tick 1 (l++s).length)) m (mapB ns)):=by
 have:=callOpW (vs:=[.str s]) hp hk hm hpk hpm hkm (c50w ns l s h) rfl rfl rfl rfl rfl rfl
 rw [this]
 simp [AVal.ren1,AVal.ren0,atN,nth]
theorem c53 (ns:List Node) (l pre:Bytes) (n:Node) (hn:NdOk n) (hp:pre.length≤10000) (h:l.length+40000≤17592186044416):acall tabT 53 [.ptr 0 0,.str pre,eNode n] (wrM ns l)=some (.tuple [],wrM ns (l++fileLine pre n)):=by
 refine acall_ex rfl rfl rfl ?_
 have hil:=itoa_le hn.ino
 have hdl:=hn.data
 have hfl:=fileLine_le (pre:=pre) hn
 have h42:=fun M=>kT0 (k42 n.ino hn.ino M)
 have h44:=fun M=>kT0 (k44 n.data (by omega) M)
 have hel:=escN_le n.data
 obtain ⟨q,hq⟩:∃q,pre++[32,102,105,108,101,32]++Lib.itoa n.ino=q:=⟨_,rfl⟩
 have hql:q.length≤20000:=by rw [←hq]; simp; omega
 have h43:=fun M=>kT0 (k43 q (by omega) [⟨wLinks,n.links,[]⟩,⟨wData,0,escN n.data⟩] (by
  intro f hf
  simp only [List.mem_cons,List.not_mem_nil,or_false] at hf
  rcases hf with rfl|rfl
  ·exact ⟨by simp [wLinks],hn.links,by simp⟩
  ·exact ⟨by simp [wData],okI_zero,by simp only; omega⟩) (by simp) M)
 obtain ⟨z,hz⟩:∃z,lineN q [⟨wLinks,n.links,[]⟩,⟨wData,0,escN n.data⟩]=z:=⟨_,rfl⟩
 have hfz:fileLine pre n=z++[10]:=by
  rw [←hz,←hq]
  simp [fileLine,lineN,fldsN,wFile]
 rw [hfz] at hfl ⊢
 rw [hz] at h43
 simp only [List.length_append,List.length_cons,List.length_nil] at hfl
 simp only [List.map_cons,List.map_nil,eFld,eFldC,wLinks,wData] at h43
 have x1:=max_lt (pre.length+6) (by omega)
 have x2:=max_lt (pre.length+6+(Lib.itoa n.ino).length) (by omega)
 have x3:=max_lt (z.length+1) (by omega)
 have h50:=fun c=>k50w (p:=0) (k:=1) (m:=2) (M:=[wr 0 1 2 l,.tick 1 l.length,mapB ns,.cells c]) (z++[10]) rfl rfl rfl (by decide) (by decide) (by decide) (by simp; omega)
 simp only [wr,mapB] at h50
 simp only [fn53,E53,eNode,eNodeC,wr,mapB,h42,h44,h43,h50,x1,x2,x3,bytes_u8,hq,back_nodes,EVN,EVT,EVD,↓reduceIte,Nat.reduceEqDiff,reduceCtorEq,Nat.reduceAdd,Nat.reduceLeDiff,ne_eq,Nat.reduceLT,Int.reduceLT,Int.reduceLE,Int.reduceNeg]
 simp
theorem k53 {M:AMem} {l:Bytes} {ns:List Node} (pre:Bytes) (n:Node) {p k m:Nat} (hp:nth M p=some (wr p k m l)) (hk:nth M k=some (.tick 1 l.length)) (hm:nth M m=some (mapB ns)) (hpk:p≠k) (hpm:p≠m) (hkm:k≠m) (hn:NdOk n) (hpl:pre.length≤10000) (h:l.length+40000≤17592186044416) :
  callOp (acall tabT) 53 [.ptr p 0,.str pre,eNode n] M=some (.tuple [],setN (setN (setN M p (wr p k m (l++fileLine pre n))) k (.tick 1 (l++fileLine pre n).length)) m (mapB ns)):=by
 have:=callOpW (vs:=[.str pre,eNode n]) hp hk hm hpk hpm hkm (c53 ns l pre n hn hpl h) rfl rfl rfl rfl rfl rfl
 rw [this]
 simp [AVal.ren1,AVal.ren0,atN,nth]
theorem look_map (i:Int):∀ns:List Node,mapGet .i (eI i) (ns.map fun n=>eI n.ino) (ns.map eNode)=some ((find ns i).map eNode)
 | []=>rfl
 |n::r=>by
  rw [List.map_cons,List.map_cons,mapGet]
  have he:eqCell .i (eI i) (eI n.ino)=some (i==n.ino):=by simp [eqCell]
  rw [he,obind_some]
  by_cases h:n.ino=i
  ·have hb:(i==n.ino)=true:=by simp [h]
   rw [hb,oif_true]
   simp [find,h]
  ·have hb:(i==n.ino)=false:=by simpa using fun e=>h e.symm
   rw [hb,oif_false,look_map i r]
   simp [find,h]
structure TrOk2 (t:Tree):Prop where
 ok:TrOk t
 root:∃r,find t.nodes 1=some r
 ents:∀i d e,find t.nodes i=some d→e∈d.ents→∃m,find t.nodes e.ino=some m∧m.ino=e.ino
 asc:Asc t.nodes
theorem loop52 (ns:List Node) (hn:∀i,NdOk (nodeN ns i)) (d:Node) (path:Bytes) (f:Nat) (hp:path.length+51≤1500) (hde:d.ents.length≤5) (hf:bB f≤17000000000000)
  (hfind:∀e,e∈d.ents→∃m,find ns e.ino=some m)
  (hent:∀e,e∈d.ents→e.name.length≤50∧((nodeN ns e.ino).kind=2→(belowT ns f (nodeN ns e.ino).ino (path++[47]++e.name)).length≤bB f∧∀l:Bytes,l.length+bB f+40000≤17592186044416→acall tabT 52 [.ptr 0 0,eI (nodeN ns e.ino).ino,.str (path++[47]++e.name)] (wrM ns l)=some (.tuple [],wrM ns (l++belowT ns f (nodeN ns e.ino).ino (path++[47]++e.name)))))
  (C:CallF) (hC:C=acall tabT):∀(r pre:List Ent),d.ents=pre++r→∀(l:Bytes),l.length+(20000+bB f)*r.length+40000≤17592186044416→∀(fn:List ARes) (base:Nat) (k:List K),
  exK C fn base (.block 0::k) (.loop [0,2,16,17,18] lb52_0) [(0,.ptr 0 0),(2,.str path),(16,eEnts d.ents),(17,eI d.ents.length),(18,eI pre.length)] (wrM ns l) =
  kr C fn base k ⟨.normal,[(0,.ptr 0 0),(2,.str path),(16,eEnts d.ents),(17,eI d.ents.length),(18,eI d.ents.length),(19,.bool false)],wrM ns (l++r.flatMap (entT ns (belowT ns f) path))⟩
 | [],pre,he,l,hl,fn,base,k=>by
  subst hC
  have hpre:pre=d.ents:=by simpa using he.symm
  have hlt':decide ((d.ents.length:Int)<d.ents.length)=false:=by simp
  have hq:(eI pre.length)=eI d.ents.length:=by rw [hpre]
  rw [exK_loop]
  simp only [E52,hlt',hq,List.flatMap_nil,List.append_nil,EVN,EVT,EVD,↓reduceIte,Nat.reduceEqDiff,reduceCtorEq,Nat.reduceAdd,Nat.reduceLeDiff,ne_eq,Nat.reduceLT,Int.reduceLT,Int.reduceLE,Int.reduceNeg]
 |e::r,pre,he,l,hl,fn,base,k=>by
  subst hC
  have hl':pre.length<d.ents.length:=by rw [he]; simp
  have hlt:decide ((pre.length:Int)<d.ents.length)=true:=by simpa using hl'
  have hix:d.ents[pre.length]?=some e:=by rw [he]; simp
  have hi0:(0:Int)≤pre.length:=by omega
  have hwr:IntKind.i64.wrap ((pre.length:Int)+1)=((pre.length+1:Nat):Int):=by rw [wrapS (by omega) (by omega)]; simp
  obtain ⟨he1,he2⟩:=hent e (by rw [he]; simp)
  obtain ⟨m,hm⟩:=hfind e (by rw [he]; simp)
  have hnd:=hn e.ino
  have hlook:=look_map e.ino ns
  rw [hm,Option.map_some] at hlook
  rw [List.length_cons,Nat.mul_add,Nat.mul_one] at hl
  have hle:=entT_le (f:=f) (path:=path) (e:=e) hn hp he1 (fun hk=>(he2 hk).1)
  have ih:=loop52 ns hn d path f hp hde hf hfind hent (acall tabT) rfl r (pre++[e]) (by simpa using he) (l++entT ns (belowT ns f) path e) (by simp; omega) fn base k
  have hfr:l++entT ns (belowT ns f) path e++r.flatMap (entT ns (belowT ns f) path)=l++(e::r).flatMap (entT ns (belowT ns f) path):=by simp
  rw [hfr] at ih
  generalize l++(e::r).flatMap (entT ns (belowT ns f) path)=u at ih ⊢
  have x1:=max_lt (path.length+1) (by omega)
  have x2:=max_lt (path.length+1+e.name.length) (by omega)
  have hpl:(path++[47]++e.name).length≤1500:=by simp; omega
  obtain ⟨p,hpp⟩:∃p,path++[47]++e.name=p:=⟨_,rfl⟩
  have hee:entT ns (belowT ns f) path e=if m.kind=2 then dirLine p m.ino++belowT ns f m.ino p else fileLine (escN p) m:=by unfold entT; simp only [hpp,nodeN_some hm]
  rw [hpp] at he2 hpl
  rw [hee] at ih hle
  rw [nodeN_some hm] at he2 hnd
  have h44:=fun M=>kT0 (k44 p (by omega) M)
  have h42:=fun M=>kT0 (k42 m.ino hnd.ino M)
  have hel:=escN_le p
  have hil:=itoa_le hnd.ino
  simp only [List.length_append,List.length_cons,List.length_nil,Nat.zero_add] at ih
  simp only [eI] at hlook
  rw [exK_loop]
  simp only [E52,wrM,wr,mapB,eNode,eNodeC,eEnt,eEntC,List.length_map,hlt,hix,hi0,hlook,x1,x2,hpp,mapOf,nth,lookRes,Option.getD_some,EVN,EVT,EVD,↓reduceIte,Nat.reduceEqDiff,reduceCtorEq,Nat.reduceAdd,Nat.reduceLeDiff,ne_eq,Nat.reduceLT,Int.reduceLT,Int.reduceLE,Int.reduceNeg]
  by_cases hk:m.kind=2
  ·have hb:(m.kind==2)=true:=by simpa using hk
   rw [if_pos hk] at ih hle
   obtain ⟨hb1,hb2⟩:=he2 hk
   rw [List.length_append] at hle
   have hdl:dirLine p m.ino=escN p++[32,100,105,114,32]++Lib.itoa m.ino++[10]:=rfl
   have y1:=max_lt ((escN p).length+5) (by omega)
   have y2:=max_lt ((escN p).length+5+(Lib.itoa m.ino).length) (by omega)
   have y3:=max_lt ((escN p).length+5+(Lib.itoa m.ino).length+1) (by omega)
   have hDl:=dirLine_le (p:=p) hnd.ino
   obtain ⟨D,hD⟩:∃D,dirLine p m.ino=D:=⟨_,rfl⟩
   rw [hD] at ih hdl hle hDl
   have hbf:bB f+40000≤17592186044416:=by omega
   have hb3:=hb2 (l++D) (by simp; omega)
   generalize belowT ns f m.ino p=B at *
   have h50:=fun c c'=>k50w (p:=0) (k:=1) (m:=2) (M:=[wr 0 1 2 l,.tick 1 l.length,mapB ns,.cells c,.cells c']) D rfl rfl rfl (by decide) (by decide) (by decide) (by omega)
   have h52:=fun c c'=>callOpW (p:=0) (k:=1) (m:=2) (M:=[wr 0 1 2 (l++D),.tick 1 (l++D).length,mapB ns,.cells c,.cells c']) (vs:=[eI m.ino,.str p]) rfl rfl rfl (by decide) (by decide) (by decide) hb3 rfl rfl rfl rfl rfl rfl
   have hcat:l++(D++B)=l++D++B:=by simp
   rw [hcat] at ih
   simp only [wrM,wr,mapB,List.length_append] at h50 h52 ih
   simp only [E52,hb,h44,h42,y1,y2,y3,←hdl,h50,EVN,EVT,EVD,↓reduceIte,Nat.reduceEqDiff,reduceCtorEq,Nat.reduceAdd,Nat.reduceLeDiff,ne_eq,Nat.reduceLT,Int.reduceLT,Int.reduceLE,Int.reduceNeg]
   simp only [E52,h52,hwr,back_nodes,AVal.ren1,AVal.ren0,atN,nth,Option.getD_some,EVN,EVT,EVD,↓reduceIte,Nat.reduceEqDiff,reduceCtorEq,Nat.reduceAdd,Nat.reduceLeDiff,ne_eq,Nat.reduceLT,Int.reduceLT,Int.reduceLE,Int.reduceNeg]
   exact ih
  ·have hb:(m.kind==2)=false:=by simpa using hk
   rw [if_neg hk] at ih hle
   have h53:=fun c c'=>k53 (p:=0) (k:=1) (m:=2) (M:=[wr 0 1 2 l,.tick 1 l.length,mapB ns,.cells c,.cells c']) (escN p) m rfl rfl rfl (by decide) (by decide) (by decide) hnd (by omega) (by omega)
   simp only [wrM,wr,mapB,List.length_append,eNode,eNodeC] at h53 ih
   simp only [E52,hb,h44,h53,EVN,EVT,EVD,↓reduceIte,Nat.reduceEqDiff,reduceCtorEq,Nat.reduceAdd,Nat.reduceLeDiff,ne_eq,Nat.reduceLT,Int.reduceLT,Int.reduceLE,Int.reduceNeg]
   simp only [E52,hwr,back_nodes,EVN,EVT,EVD,↓reduceIte,Nat.reduceEqDiff,reduceCtorEq,Nat.reduceAdd,Nat.reduceLeDiff,ne_eq,Nat.reduceLT,Int.reduceLT,Int.reduceLE,Int.reduceNeg]
   exact ih
theorem c52 (t:Tree) (h:TrOk2 t):∀(f:Nat) (i:Int) (path:Bytes) (d:Node),f≤12→find t.nodes i=some d→FinB t.nodes f i→path.length+51*f≤1400→∀l:Bytes,l.length+bB f+40000≤17592186044416 →
  acall tabT 52 [.ptr 0 0,eI i,.str path] (wrM t.nodes l)=some (.tuple [],wrM t.nodes (l++belowT t.nodes f i path))
 |f,i,path,d,hf12,hfd,hfin,hp,l,hl=>by
  refine acall_ex rfl rfl rfl ?_
  have hlook:=look_map i t.nodes
  rw [hfd,Option.map_some] at hlook
  have hres:∃g,g≤12∧d.ents.length≤5∧(20000+bB g)*d.ents.length≤bB f∧belowT t.nodes f i path=d.ents.flatMap (entT t.nodes (belowT t.nodes g) path)∧(∀e,e∈d.ents→e.name.length≤50∧((nodeN t.nodes e.ino).kind=2→(belowT t.nodes g (nodeN t.nodes e.ino).ino (path++[47]++e.name)).length≤bB g∧∀l:Bytes,l.length+bB g+40000≤17592186044416→acall tabT 52 [.ptr 0 0,eI (nodeN t.nodes e.ino).ino,.str (path++[47]++e.name)] (wrM t.nodes l)=some (.tuple [],wrM t.nodes (l++belowT t.nodes g (nodeN t.nodes e.ino).ino (path++[47]++e.name))))):=by
   match f,hf12,hfin,hp with
   |0,_,hfin,hp =>
    have h0:d.ents=[]:=by rw [←nodeN_some hfd]; exact hfin
    exact ⟨0,by omega,by rw [h0]; simp,by rw [h0]; simp,by rw [h0]; rfl,by rw [h0]; intro e he; cases he⟩
   |g+1,hf12,hfin,hp =>
    have h5:=hfin.1
    rw [nodeN_some hfd] at h5
    refine ⟨g,by omega,h5,?_,by rw [belowT,nodeN_some hfd],fun e he=>?_⟩
    ·have:(20000+bB g)*d.ents.length≤(20000+bB g)*5:=Nat.mul_le_mul (Nat.le_refl _) h5
     simp only [bB]; omega
    ·have h1:=(hfin.2 e (by rw [nodeN_some hfd]; exact he)).1
     refine ⟨h1,fun hk=>?_⟩
     have h2:=(hfin.2 e (by rw [nodeN_some hfd]; exact he)).2 hk
     obtain ⟨m,hm,hmi⟩:=h.ents i d e hfd he
     refine ⟨belowT_le h.ok.nd g _ _ h2 (by simp; omega),fun l' hl'=>?_⟩
     rw [nodeN_some hm] at h2 ⊢
     exact c52 t h g m.ino _ m (by omega) (by rw [hmi]; exact hm) h2 (by simp; omega) l' hl'
  obtain ⟨g,hg,h5,hbf,hb,hent⟩:=hres
  have hbg:=bB_mono hg
  rw [bB12] at hbg
  have h0:=fun fn base k=>loop52 t.nodes h.ok.nd d path g (by omega) h5 (by omega) (fun e he=>by obtain ⟨m,hm,_⟩:=h.ents i d e hfd he; exact ⟨m,hm⟩) hent (acall tabT) rfl d.ents [] rfl l (by omega) fn base k
  simp only [List.length_nil,wrM,wr,mapB] at h0
  rw [←hb] at h0
  simp only [eI] at hlook
  simp only [fn52,E52,wrM,wr,mapB,hlook,mapOf,nth,lookRes,Option.getD_some,eNode,eNodeC,EVN,EVT,EVD,↓reduceIte,Nat.reduceEqDiff,reduceCtorEq,Nat.reduceAdd,Nat.reduceLeDiff,ne_eq,Nat.reduceLT,Int.reduceLT,Int.reduceLE,Int.reduceNeg]
  refine (h0 _ _ _).trans ?_
  simp only [E52,back_nodes,EVN,EVT,EVD,↓reduceIte,Nat.reduceEqDiff,reduceCtorEq,Nat.reduceAdd,Nat.reduceLeDiff,ne_eq,Nat.reduceLT,Int.reduceLT,Int.reduceLE,Int.reduceNeg]
end Go.Proofs.YtannopdcbocngaaGreatDoor
namespace Go.Proofs.YtannopdcbocngaaGreatDoor
open Go Go.Abs
attribute [local irreducible] exK opsK opK gK forkK kr acall callOp owhen obind
theorem put_map (n:Node):∀pre:List Node,(∀x,x∈pre→x.ino≠n.ino)→mapPut .i (eI n.ino) (eNode n) (pre.map fun n=>eI n.ino) (pre.map eNode)=some ((pre++[n]).map (fun n=>eI n.ino),(pre++[n]).map eNode)
 | [],_=>by
  rw [List.map_nil,List.map_nil,mapPut]
  have he:eqCell .i (eI n.ino) (eI n.ino)=some (n.ino==n.ino):=by simp [eqCell]
  rw [he,obind_some]
  rfl
 |x::r,h=>by
  have h1:=h x (by simp)
  have ih:=put_map n r (fun y hy=>h y (by simp [hy]))
  rw [List.map_cons,List.map_cons,mapPut]
  have he:eqCell .i (eI n.ino) (eI x.ino)=some (n.ino==x.ino):=by simp [eqCell]
  have hb:(n.ino==x.ino)=false:=by simpa using fun e=>h1 e.symm
  rw [he,obind_some,hb,oif_false,ih,obind_some]
  rfl
theorem c51w (ns:List Node) (l:Bytes) (h:l.length≤17592186044416) (h0:l≠[]):acall tabT 51 [.ptr 0 0] (wrM ns l)=some (.str l,[.cells [.bself 0 96,.any,.mref 2],.tick 1 (l.length+1),mapB ns]):=by
 refine acall_prim (g:=pString) rfl ?_
 unfold pString
 simp only [nth]
 rw [if_pos ⟨trivial,trivial,trivial,by omega,.inl h0⟩]
 rfl
theorem loop22a (t:Tree) (hasc:Asc t.nodes) (hl:t.nodes.length≤100000) (C:CallF) (hC:C=acall tabT):∀(r pre:List Node),t.nodes=pre++r→∀(fn:List ARes) (base:Nat) (k:List K),
  exK C fn base (.block 0::k) (.loop [1,3,12,13,14] lb22_0) [(1,.ptr 0 0),(3,.ptr 3 0),(12,eNodes t.nodes),(13,eI t.nodes.length),(14,eI pre.length)] [.cells (eTreeC t),mapB pre,.tick 1 0,wr 3 2 1 []] =
  kr C fn base k ⟨.normal,[(1,.ptr 0 0),(3,.ptr 3 0),(12,eNodes t.nodes),(13,eI t.nodes.length),(14,eI t.nodes.length),(15,.bool false)],[.cells (eTreeC t),mapB t.nodes,.tick 1 0,wr 3 2 1 []]⟩
 | [],pre,he,fn,base,k=>by
  subst hC
  have hpre:pre=t.nodes:=by simpa using he.symm
  have hlt':decide ((t.nodes.length:Int)<t.nodes.length)=false:=by simp
  rw [hpre,exK_loop]
  simp only [E22,eTreeC,hlt',EVN,EVT,EVD,↓reduceIte,Nat.reduceEqDiff,reduceCtorEq,Nat.reduceAdd,Nat.reduceLeDiff,ne_eq,Nat.reduceLT,Int.reduceLT,Int.reduceLE,Int.reduceNeg]
 |n::r,pre,he,fn,base,k=>by
  subst hC
  have hl':pre.length<t.nodes.length:=by rw [he]; simp
  have hlt:decide ((pre.length:Int)<t.nodes.length)=true:=by simpa using hl'
  have hix:t.nodes[pre.length]?=some n:=by rw [he]; simp
  have hi0:(0:Int)≤pre.length:=by omega
  have hwr:IntKind.i64.wrap ((pre.length:Int)+1)=((pre.length+1:Nat):Int):=by rw [wrapS (by omega) (by omega)]; simp
  have hne:∀x,x∈pre→x.ino≠n.ino:=fun x hx=>by
   have h1:Asc (pre++n::r):=by rw [←he]; exact hasc
   have:=(List.pairwise_append.1 h1).2.2 x hx n (by simp)
   omega
  have hput:=put_map n pre hne
  simp only [eI,eNode,eNodeC] at hput
  have ih:=loop22a t hasc hl (acall tabT) rfl r (pre++[n]) (by simpa using he) fn base k
  simp only [List.length_append,List.length_cons,List.length_nil,Nat.zero_add,mapB,eI,eTreeC] at ih
  rw [exK_loop]
  simp only [E22,eTreeC,eNode,eNodeC,List.length_map,hlt,hix,hi0,hput,mapB,wr,nth,EVN,EVT,EVD,↓reduceIte,Nat.reduceEqDiff,reduceCtorEq,Nat.reduceAdd,Nat.reduceLeDiff,ne_eq,Nat.reduceLT,Int.reduceLT,Int.reduceLE,Int.reduceNeg]
  simp only [E22,hwr,back_nodes,EVN,EVT,EVD,↓reduceIte,Nat.reduceEqDiff,reduceCtorEq,Nat.reduceAdd,Nat.reduceLeDiff,ne_eq,Nat.reduceLT,Int.reduceLT,Int.reduceLE,Int.reduceNeg]
  exact ih
theorem loop22b (t:Tree) (hl:t.nodes.length≤1000) (hnn:∀x,x∈t.nodes→NdOk x) (C:CallF) (hC:C=acall tabT):∀(r pre:List Node),t.nodes=pre++r→∀(l:Bytes),l.length+20000*r.length+50000≤17592186044416→∀(fn:List ARes) (base:Nat) (k:List K),
  exK C fn base (.block 2::k) (.loop [3,33,34,35] lb22_1) [(3,.ptr 3 0),(33,eNodes t.nodes),(34,eI t.nodes.length),(35,eI pre.length)] [.cells (eTreeC t),mapB t.nodes,.tick 1 l.length,wr 3 2 1 l] =
  kr C fn base k ⟨.normal,[(3,.ptr 3 0),(33,eNodes t.nodes),(34,eI t.nodes.length),(35,eI t.nodes.length),(36,.bool false)],[.cells (eTreeC t),mapB t.nodes,.tick 1 (l++r.flatMap orphT).length,wr 3 2 1 (l++r.flatMap orphT)]⟩
 | [],pre,he,l,hll,fn,base,k=>by
  subst hC
  have hpre:pre=t.nodes:=by simpa using he.symm
  have hlt':decide ((t.nodes.length:Int)<t.nodes.length)=false:=by simp
  rw [hpre,exK_loop]
  simp only [E22,eTreeC,hlt',List.flatMap_nil,List.append_nil,EVN,EVT,EVD,↓reduceIte,Nat.reduceEqDiff,reduceCtorEq,Nat.reduceAdd,Nat.reduceLeDiff,ne_eq,Nat.reduceLT,Int.reduceLT,Int.reduceLE,Int.reduceNeg]
 |n::r,pre,he,l,hll,fn,base,k=>by
  subst hC
  have hl':pre.length<t.nodes.length:=by rw [he]; simp
  have hlt:decide ((pre.length:Int)<t.nodes.length)=true:=by simpa using hl'
  have hix:t.nodes[pre.length]?=some n:=by rw [he]; simp
  have hi0:(0:Int)≤pre.length:=by omega
  have hwr:IntKind.i64.wrap ((pre.length:Int)+1)=((pre.length+1:Nat):Int):=by rw [wrapS (by omega) (by omega)]; simp
  have hnd:=hnn n (by rw [he]; simp)
  rw [List.length_cons] at hll
  have hfr:(n::r).flatMap orphT=orphT n++r.flatMap orphT:=by simp
  rw [hfr]
  by_cases h:n.kind=1∧n.links=0
  ·have hb1:(n.kind==1)=true:=by simpa using h.1
   have hb2:(n.links==0)=true:=by simpa using h.2
   have ho:orphT n=fileLine [45] n:=by unfold orphT; rw [if_pos h]
   have hfl:=fileLine_le (pre:=[45]) hnd
   rw [ho]
   simp only [List.length_cons,List.length_nil] at hfl
   have h53:=fun c=>k53 (p:=3) (k:=2) (m:=1) (M:=[.cells (eTreeC t),mapB t.nodes,.tick 1 l.length,wr 3 2 1 l,.cells c]) [45] n rfl rfl rfl (by decide) (by decide) (by decide) hnd (by simp) (by omega)
   have ih:=loop22b t hl hnn (acall tabT) rfl r (pre++[n]) (by simpa using he) (l++fileLine [45] n) (by simp; omega) fn base k
   have hcat:l++fileLine [45] n++r.flatMap orphT=l++(fileLine [45] n++r.flatMap orphT):=by simp
   rw [hcat] at ih
   generalize l++(fileLine [45] n++r.flatMap orphT)=u at ih ⊢
   simp only [List.length_append,List.length_cons,List.length_nil,Nat.zero_add,mapB,wr,eTreeC,eI] at ih
   simp only [eTreeC,mapB,wr,eNode,eNodeC,List.length_append,eI] at h53
   rw [exK_loop]
   simp only [E22,eTreeC,eNode,eNodeC,List.length_map,hlt,hix,hi0,hb1,hb2,mapB,wr,EVN,EVT,EVD,↓reduceIte,Nat.reduceEqDiff,reduceCtorEq,Nat.reduceAdd,Nat.reduceLeDiff,ne_eq,Nat.reduceLT,Int.reduceLT,Int.reduceLE,Int.reduceNeg]
   simp only [E22,h53,hwr,back_nodes,EVN,EVT,EVD,↓reduceIte,Nat.reduceEqDiff,reduceCtorEq,Nat.reduceAdd,Nat.reduceLeDiff,ne_eq,Nat.reduceLT,Int.reduceLT,Int.reduceLE,Int.reduceNeg]
   exact ih
  ·have ho:orphT n=[]:=by unfold orphT; rw [if_neg h]
   have ih:=loop22b t hl hnn (acall tabT) rfl r (pre++[n]) (by simpa using he) l (by omega) fn base k
   rw [ho,List.nil_append]
   generalize l++r.flatMap orphT=u at ih ⊢
   simp only [List.length_append,List.length_cons,List.length_nil,Nat.zero_add,mapB,wr,eTreeC,eI] at ih
   rw [exK_loop]
   by_cases h1:n.kind=1
   ·have hb1:(n.kind==1)=true:=by simpa using h1
    have hb2:(n.links==0)=false:=by simpa using fun h2=>h ⟨h1,h2⟩
    simp only [E22,eTreeC,eNode,eNodeC,List.length_map,hlt,hix,hi0,hb1,hb2,mapB,wr,EVN,EVT,EVD,↓reduceIte,Nat.reduceEqDiff,reduceCtorEq,Nat.reduceAdd,Nat.reduceLeDiff,ne_eq,Nat.reduceLT,Int.reduceLT,Int.reduceLE,Int.reduceNeg]
    simp only [E22,hwr,back_nodes,EVN,EVT,EVD,↓reduceIte,Nat.reduceEqDiff,reduceCtorEq,Nat.reduceAdd,Nat.reduceLeDiff,ne_eq,Nat.reduceLT,Int.reduceLT,Int.reduceLE,Int.reduceNeg]
    exact ih
   ·have hb1:(n.kind==1)=false:=by simpa using h1
    simp only [E22,eTreeC,eNode,eNodeC,List.length_map,hlt,hix,hi0,hb1,mapB,wr,EVN,EVT,EVD,↓reduceIte,Nat.reduceEqDiff,reduceCtorEq,Nat.reduceAdd,Nat.reduceLeDiff,ne_eq,Nat.reduceLT,Int.reduceLT,Int.reduceLE,Int.reduceNeg]
    simp only [E22,hwr,back_nodes,EVN,EVT,EVD,↓reduceIte,Nat.reduceEqDiff,reduceCtorEq,Nat.reduceAdd,Nat.reduceLeDiff,ne_eq,Nat.reduceLT,Int.reduceLT,Int.reduceLE,Int.reduceNeg]
    exact ih
theorem flat_orph (l:List Node) (h:∀x,x∈l→NdOk x):(l.flatMap orphT).length≤20000*l.length :=
 flat_le orphT 20000 l fun x hx=>by
  unfold orphT
  split
  ·have:=fileLine_le (pre:=[45]) (h x hx)
   simp only [List.length_cons,List.length_nil] at this
   omega
  ·simp
theorem c22 (t:Tree) (h:TrOk2 t):acall tabT 22 [eTree t] []=some (.str (treeT t.nodes 12),[]):=by
 refine acall_ex rfl rfl rfl ?_
 have hl:=h.ok.len
 obtain ⟨r0,hr0⟩:=h.root
 have hb:=belowT_le h.ok.nd 12 1 [] h.ok.fin (by simp)
 have ho:=flat_orph t.nodes h.ok.mem
 have h52:=c52 t h 12 1 [] r0 (by omega) hr0 h.ok.fin (by simp) [47,32,100,105,114,32,49,10] (by rw [bB12]; simp)
 rw [bB12] at hb
 obtain ⟨B,hB⟩:∃B,belowT t.nodes 12 1 []=B:=⟨_,rfl⟩
 rw [hB] at h52 hb
 have ht:treeT t.nodes 12=[47,32,100,105,114,32,49,10]++B++t.nodes.flatMap orphT:=by unfold treeT; rw [hB]
 rw [ht]
 obtain ⟨L,hL⟩:∃L,[47,32,100,105,114,32,49,10]++B=L:=⟨_,rfl⟩
 have hLl:L.length=B.length+8:=by rw [←hL]; simp
 rw [hL] at h52 ⊢
 have ha:=loop22a t h.asc (by omega) (acall tabT) rfl t.nodes [] rfl
 have hb2:=loop22b t hl h.ok.mem (acall tabT) rfl t.nodes [] rfl L (by omega)
 obtain ⟨U,hU⟩:∃U,L++t.nodes.flatMap orphT=U:=⟨_,rfl⟩
 have hUl:U.length≤17592186044416:=by rw [←hU,List.length_append]; omega
 have hU0:U≠[]:=by rw [←hU,←hL]; simp
 rw [hU] at hb2 ⊢
 have k50:=k50w (p:=3) (k:=2) (m:=1) (M:=[.cells (eTreeC t),mapB t.nodes,.tick 1 0,wr 3 2 1 []]) [47,32,100,105,114,32,49,10] rfl rfl rfl (by decide) (by decide) (by decide) (by simp)
 have k52:=callOpW (p:=3) (k:=2) (m:=1) (M:=[.cells (eTreeC t),mapB t.nodes,.tick 1 8,wr 3 2 1 [47,32,100,105,114,32,49,10]]) (vs:=[eI 1,.str []]) rfl rfl rfl (by decide) (by decide) (by decide) h52 rfl rfl rfl rfl rfl rfl
 have k51:=callOpW (p:=3) (k:=2) (m:=1) (M:=[.cells (eTreeC t),mapB t.nodes,.tick 1 U.length,wr 3 2 1 U]) (vs:=[]) rfl rfl rfl (by decide) (by decide) (by decide) (c51w t.nodes U hUl hU0) rfl rfl rfl rfl rfl rfl
 simp only [List.length_nil,List.map_nil,eTreeC,mapB,wr,eI] at ha hb2
 simp only [eTreeC,mapB,wr,eI,List.nil_append,List.length_cons,List.length_nil] at k50 k52 k51
 simp only [fn22,E22,eTree,eTreeC,EVN,EVT,EVD,↓reduceIte,Nat.reduceEqDiff,reduceCtorEq,Nat.reduceAdd,Nat.reduceLeDiff,ne_eq,Nat.reduceLT,Int.reduceLT,Int.reduceLE,Int.reduceNeg]
 refine (ha _ _ _).trans ?_
 simp only [E22,k50,nth,EVN,EVT,EVD,↓reduceIte,Nat.reduceEqDiff,reduceCtorEq,Nat.reduceAdd,Nat.reduceLeDiff,ne_eq,Nat.reduceLT,Int.reduceLT,Int.reduceLE,Int.reduceNeg]
 simp only [E22,k52,AVal.ren1,AVal.ren0,atN,nth,Option.getD_some,EVN,EVT,EVD,↓reduceIte,Nat.reduceEqDiff,reduceCtorEq,Nat.reduceAdd,Nat.reduceLeDiff,ne_eq,Nat.reduceLT,Int.reduceLT,Int.reduceLE,Int.reduceNeg]
 refine (hb2 _ _ _).trans ?_
 simp only [E22,k51,EVN,EVT,EVD,↓reduceIte,Nat.reduceEqDiff,reduceCtorEq,Nat.reduceAdd,Nat.reduceLeDiff,ne_eq,Nat.reduceLT,Int.reduceLT,Int.reduceLE,Int.reduceNeg]
theorem k22 (t:Tree) (h:TrOk2 t) (M:AMem):callOp (acall tabT) 22 [eTree t] M=some (.str (treeT t.nodes 12),M):=callOp0 (c22 t h) rfl rfl rfl rfl rfl M
end Go.Proofs.YtannopdcbocngaaGreatDoor
namespace Go.Proofs.YtannopdcbocngaaGreatDoor
open Go Go.Abs
def Lb (c:UInt8):Prop:=plainE c=true∨c=37∨c=61∨c=44
theorem num_plain:∀c:UInt8,(c=45∨(48≤c.toNat∧c.toNat≤57))→plainE c=true:=all_bytes (by decide +kernel)
theorem lb_facts:∀c:UInt8,Lb c→c≠32∧c≠10∧c≠58:=by
 intro c h
 have h1:=(plain_facts c).1
 rcases h with h|rfl|rfl|rfl
 ·exact ⟨(h1 h).2.1,(h1 h).2.2.2.2.1,(h1 h).2.2.2.2.2⟩
 ·decide
 ·decide
 ·decide
theorem itoa_lb {n:Int}:∀c,c∈Lib.itoa n→Lb c:=fun c h => .inl (num_plain c (itoa_byte c h))
theorem escN_lb {s:Bytes}:∀c,c∈escN s→Lb c:=fun c h=>(escN_byte c h).elim .inl (fun h => .inr (.inl h))
def RowLb (p:Bytes×Bytes):Prop:=(∀c,c∈p.1→Lb c)∧∀c,c∈p.2→Lb c
theorem body_lb {p:Bytes×Bytes} (h:RowLb p):bodyR p≠[]∧∀c,c∈bodyR p→Lb c:=by
 refine ⟨by simp [bodyR],fun c hc=>?_⟩
 unfold bodyR at hc
 rcases List.mem_append.1 hc with hc|hc
 ·exact h.1 c hc
 ·rcases List.mem_cons.1 hc with rfl|hc
  ·exact .inr (.inr (.inl rfl))
  ·exact h.2 c hc
theorem rowsF_lb {l:List Fld} (h:∀f,f∈l→(∀c,c∈f.word→Lb c)∧∀c,c∈f.s→Lb c):∀p,p∈rowsF l→RowLb p:=by
 intro p hp
 obtain ⟨f,hf,rfl⟩:=List.mem_map.1 hp
 have h1:=h f (List.mem_filter.1 hf).1
 refine ⟨h1.1,fun c hc=>?_⟩
 simp only [valF] at hc
 split at hc
 ·exact itoa_lb c hc
 ·exact h1.2 c hc
theorem fld_words:∀w,w∈[wClient,wPath,wTo,wN,wM,wHandle,wData,wIno,wKind,wNames]→∀c,c∈w→plainE c=true:=by decide +kernel
theorem word_lb {w:Bytes} (h:w∈[wClient,wPath,wTo,wN,wM,wHandle,wData,wIno,wKind,wNames]) {n:Int} {s:Bytes} (hs:∀c,c∈s→Lb c):(∀c,c∈(⟨w,n,s⟩:Fld).word→Lb c)∧∀c,c∈(⟨w,n,s⟩:Fld).s→Lb c:=⟨fun c hc => .inl (fld_words w h c hc),hs⟩
theorem no_lb:∀c:UInt8,c∈([]:Bytes)→Lb c:=fun c h=>by cases h
end Go.Proofs.YtannopdcbocngaaGreatDoor
namespace Go.Proofs.YtannopdcbocngaaGreatDoor
open Go Go.Abs
attribute [local irreducible] exK opsK opK gK forkK kr acall callOp owhen obind
theorem c11g (steps:List Step):acall tabT 11 [.slice .sh (steps.map eStep)] []=some (.bool (greatN steps),[]):=by
 by_cases h:steps.length≤100000
 ·exact c11 steps h
 ·refine acall_ex rfl rfl rfl ?_
  have hb:decide ((60:Int)<((steps.length:Nat):Int))=true:=by simp; omega
  have hg:greatN steps=true:=by unfold greatN; rw [hb]; rfl
  rw [hg]
  simp only [fn11,E11,List.length_map,hb,EVN,EVT,EVD,↓reduceIte,Nat.reduceEqDiff,reduceCtorEq,Nat.reduceAdd,Nat.reduceLeDiff,ne_eq,Nat.reduceLT,Int.reduceLT,Int.reduceLE,Int.reduceNeg]
theorem k11g (steps:List Step) (M:AMem):callOp (acall tabT) 11 [.slice .sh (steps.map eStep)] M=some (.bool (greatN steps),M):=callOp0 (c11g steps) rfl rfl rfl rfl rfl M
theorem GInv.tr {t:Tree} {dep:Int→Nat} (h:GInv t dep 0):TrOk2 t:=by
 obtain ⟨r,hr,hrk,_⟩:=h.root
 have hn:=h.nodes
 refine ⟨⟨by omega,h.nd,fun x hx=>?_,h.fin 12 1 r hr hrk (by rw [h.dep1])⟩,⟨r,hr⟩,fun i d e hf he=>?_,h.srt.asc⟩
 ·have hf:=find_of_mem h.srt.asc hx
  have:=h.nd x.ino
  rw [nodeN_some hf] at this
  exact this
 ·obtain ⟨_,_,_,_,m,hm,_⟩:=h.ent i d e hf he
  exact ⟨m,hm,h.ino hm⟩
def stepB (s:Step):Prop:=s.kind<256∧s.a<256∧s.b<256∧s.n<256∧s.m<256
theorem kT10 (M:AMem):callOp (acall tabT) 10 [] M=some (.bool true,M):=kT (kS10 M)
end Go.Proofs.YtannopdcbocngaaGreatDoor
namespace Go.Proofs.YtannopdcbocngaaGreatDoor
open Go Go.Abs Go.ChangeShapes Go.WideShapes Go.RowKit Go.Deep
section
variable {H:Type} {enc:TypeId×Value→H}
theorem u8n_rep {w:World} {fuel t:Nat} {v:Value} {x:DataW H×List MemPlace} (ht:Tryz.prog.underlying t=some (.int .u8)) (h:DataW.trod enc Tryz.prog w 0 (fun _=>true) true fuel t [v]=some x):∃n:Nat,n<256∧RepP w (SafW w) (.int .u8 n) v:=by
 obtain ⟨b,hb⟩:=u8_rep ht h
 exact ⟨b.toNat,b.toNat_lt,hb⟩
set_option maxRecDepth 100000 in
theorem step_rep {w:World} {fuel:Nat} {cs:List Value} {x:DataW H×List MemPlace} (h:DataW.trod enc Tryz.prog w 0 (fun _=>true) true fuel 74 cs=some x):∃o:Step,stepB o∧CellsRep w (eStepC o) cs:=by
 obtain ⟨xs,n,_,_,hl,hxl,hf⟩:=DataW.trod_struct Tryz.underlying74 h
 have h0:cs.length=6:=by rw [hl]; kernel_rfl
 match cs,h0 with
 | [v0,v1,v2,v3,v4,v5],_ =>
  match xs,hxl with
  | [y0,y1,y2,y3,y4,y5],_ =>
   have e0:DataW.trod enc Tryz.prog w 0 (fun _=>true) true n 5 ((List.drop 0 [v0,v1,v2,v3,v4,v5]).take (Tryz.prog.cellsOf 5))=some y0:=hf 0 _ rfl
   have e1:DataW.trod enc Tryz.prog w 0 (fun _=>true) true n 5 ((List.drop 1 [v0,v1,v2,v3,v4,v5]).take (Tryz.prog.cellsOf 5))=some y1:=hf 1 _ rfl
   have e2:DataW.trod enc Tryz.prog w 0 (fun _=>true) true n 5 ((List.drop 2 [v0,v1,v2,v3,v4,v5]).take (Tryz.prog.cellsOf 5))=some y2:=hf 2 _ rfl
   have e3:DataW.trod enc Tryz.prog w 0 (fun _=>true) true n 5 ((List.drop 3 [v0,v1,v2,v3,v4,v5]).take (Tryz.prog.cellsOf 5))=some y3:=hf 3 _ rfl
   have e4:DataW.trod enc Tryz.prog w 0 (fun _=>true) true n 5 ((List.drop 4 [v0,v1,v2,v3,v4,v5]).take (Tryz.prog.cellsOf 5))=some y4:=hf 4 _ rfl
   have e5:DataW.trod enc Tryz.prog w 0 (fun _=>true) true n 22 ((List.drop 5 [v0,v1,v2,v3,v4,v5]).take (Tryz.prog.cellsOf 22))=some y5:=hf 5 _ rfl
   rw [c_one.2.2.2.1] at e0 e1 e2 e3 e4
   rw [c_one.2.2.2.2.1] at e5
   obtain ⟨a0,i0,r0⟩:=u8n_rep (v:=v0) u_u8 e0
   obtain ⟨a1,i1,r1⟩:=u8n_rep (v:=v1) u_u8 e1
   obtain ⟨a2,i2,r2⟩:=u8n_rep (v:=v2) u_u8 e2
   obtain ⟨a3,i3,r3⟩:=u8n_rep (v:=v3) u_u8 e3
   obtain ⟨a4,i4,r4⟩:=u8n_rep (v:=v4) u_u8 e4
   obtain ⟨a5,r5⟩:=bytes_rep (v:=v5) u_bytes u_u8 c_one.2.2.2.1 e5
   exact ⟨⟨a0,a1,a2,a3,a4,a5⟩,⟨i0,i1,i2,i3,i4⟩,(CellsRep.app (.one r0) (CellsRep.app (.one r1) (CellsRep.app (.one r2) (CellsRep.app (.one r3) (CellsRep.app (.one r4) (.one r5))))))⟩
theorem u_steps:Tryz.prog.underlying 30=some (.slice 74):=by kernel_rfl
theorem c_step:Tryz.prog.cellsOf 74=6:=by kernel_rfl
set_option maxRecDepth 100000 in
theorem steps_val {w:World} {r:Reach} {b:Nat} {v:Value} {d:DataW H} {ps:List MemPlace} (h:DataW.Trod enc Tryz.prog w 0 (fun _=>true) true 30 v d ps) (hv:Value.okWide Tryz.prog w r b 30 v):∃l:List Step,(∀e,e∈l→stepB e)∧Rep jX0 [] w (.slice .sh (l.map eStep)) v:=by
 obtain ⟨a,len,cap,rfl⟩:=okWide_slice u_steps hv
 obtain ⟨fuel,hf⟩:=h
 obtain ⟨l,h1,h2⟩:=rows_rep (eC:=eStepC) (mk:=eStep) (P:=stepB) u_steps c_step (by omega) (fun _=>rfl) (fun _=>rfl) (fun n cs y _ hy=>step_rep hy) hf
 exact ⟨l,h1,.plain h2⟩
end
end Go.Proofs.YtannopdcbocngaaGreatDoor
namespace Go.Proofs.YtannopdcbocngaaGreatDoor
open Go Go.Abs
abbrev Lin:=Bytes×Node
def tailB (n:Node):Bytes:=if n.kind=2 then [] else fldN ⟨wLinks,n.links,[]⟩++fldN ⟨wData,0,escN n.data⟩
def kindB (n:Node):Bytes:=if n.kind=2 then [100,105,114] else [102,105,108,101]
def lineB (x:Lin):Bytes:=x.1++32::(kindB x.2++32::(Lib.itoa x.2.ino++tailB x.2))
def linT (l:List Lin):Bytes:=l.flatMap fun x=>lineB x++[10]
def entL (ns:List Node) (rec:Int→Bytes→List Lin) (path:Bytes) (e:Ent):List Lin :=
 (escN (path++[47]++e.name),nodeN ns e.ino)::(if (nodeN ns e.ino).kind=2 then rec (nodeN ns e.ino).ino (path++[47]++e.name) else [])
def belowL (ns:List Node):Nat→Int→Bytes→List Lin
 |0,_,_=>[]
 |f+1,i,path=>(nodeN ns i).ents.flatMap (entL ns (belowL ns f) path)
def orphL (n:Node):List Lin:=if n.kind=1∧n.links=0 then [([45],n)] else []
def allL (ns:List Node) (f:Nat):List Lin:=([47],nodeN ns 1)::(belowL ns f 1 []++ns.flatMap orphL)
theorem linT_app (a b:List Lin):linT (a++b)=linT a++linT b:=by simp [linT]
theorem linT_cons (x:Lin) (b:List Lin):linT (x::b)=lineB x++10::linT b:=by simp [linT]
theorem dirLine_lin {p:Bytes} {n:Node} (h:n.kind=2):dirLine p n.ino=lineB (escN p,n)++[10]:=by
 simp [dirLine,lineB,kindB,tailB,h,wDir]
theorem fileLine_lin {p:Bytes} {n:Node} (h:¬n.kind=2):fileLine p n=lineB (p,n)++[10]:=by
 simp [fileLine,lineB,kindB,tailB,h,wFile]
theorem flat_lin {α:Type} (g:α→Bytes) (k:α→List Lin):∀l:List α,(∀x,x∈l→g x=linT (k x))→l.flatMap g=linT (l.flatMap k)
 | [],_=>rfl
 |x::r,h=>by
  rw [List.flatMap_cons,List.flatMap_cons,linT_app,h x (by simp),flat_lin g k r (fun y hy=>h y (by simp [hy]))]
theorem belowT_lin (ns:List Node):∀(f:Nat) (i:Int) (path:Bytes),belowT ns f i path=linT (belowL ns f i path)
 |0,_,_=>rfl
 |f+1,i,path=>by
  rw [belowT,belowL]
  refine flat_lin _ _ _ (fun e _=>?_)
  unfold entT entL
  simp only
  split
  ·rename_i h
   rw [linT_cons,dirLine_lin h,belowT_lin ns f]
   simp
  ·rename_i h
   rw [linT_cons,fileLine_lin h]
   rfl
theorem treeT_lin {ns:List Node} {f:Nat} (h:(nodeN ns 1).kind=2) (h1:(nodeN ns 1).ino=1):treeT ns f=linT (allL ns f):=by
 have h2:lineB ([47],nodeN ns 1)=[47,32,100,105,114,32,49]:=by
  simp only [lineB,kindB,tailB,h,h1,↓reduceIte]
  decide +kernel
 have h3:ns.flatMap orphT=linT (ns.flatMap orphL):=by
  refine flat_lin _ _ _ (fun n _=>?_)
  unfold orphT orphL
  split
  ·rename_i hk
   rw [fileLine_lin (by omega)]
   simp [linT]
  ·rfl
 unfold treeT allL
 rw [linT_cons,linT_app,h2,h3,belowT_lin]
 simp
theorem rows_two (n:Node):∃R:List (Bytes×Bytes),tailB n=R.flatMap (fun p=>32::bodyR p)∧∀p,p∈R→RowLb p:=by
 by_cases h:n.kind=2
 ·exact ⟨[],by simp [tailB,h],fun p hp=>by cases hp⟩
 ·refine ⟨rowsF [⟨wLinks,n.links,[]⟩,⟨wData,0,escN n.data⟩],?_,?_⟩
  ·rw [←fldsN_rows]
   simp [tailB,h,fldsN]
  ·refine rowsF_lb (fun f hf=>?_)
   simp only [List.mem_cons,List.not_mem_nil,or_false] at hf
   rcases hf with rfl|rfl
   ·exact ⟨fun c hc => .inl ((show ∀c,c∈wLinks→plainE c=true by decide +kernel) c hc),no_lb⟩
   ·exact word_lb (by simp) (fun c hc=>escN_lb c hc)
theorem kind_lb (n:Node):∀c,c∈kindB n→plainE c=true:=by
 unfold kindB
 split
 ·decide +kernel
 ·decide +kernel
theorem lineB_words {x:Lin} (h:∀c,c∈x.1→Lb c):(10:UInt8)∉lineB x∧∃R,cutL 32 (lineB x)=x.1::kindB x.2::Lib.itoa x.2.ino::R:=by
 obtain ⟨R,h1,h2⟩:=rows_two x.2
 have hno:∀ {s:Bytes},(∀c,c∈s→Lb c)→(32:UInt8)∉s:=fun hs hc=>(lb_facts _ (hs _ hc)).1 rfl
 have hk:∀c,c∈kindB x.2→Lb c:=fun c hc => .inl (kind_lb _ c hc)
 have e:(R.flatMap fun p=>32::bodyR p)=(R.map bodyR).flatMap (32 :: ·):=by rw [List.flatMap_map]
 have hb:∀b,b∈R.map bodyR→∀c,c∈b→Lb c:=fun b hb=>by
  obtain ⟨p,hp,rfl⟩:=List.mem_map.1 hb
  exact (body_lb (h2 p hp)).2
 refine ⟨fun hc=>?_,R.map bodyR,?_⟩
 ·have h10:∀ {s:Bytes},(∀c,c∈s→Lb c)→(10:UInt8)∉s:=fun hs hc=>(lb_facts _ (hs _ hc)).2.1 rfl
  unfold lineB at hc
  rw [h1,e] at hc
  simp only [List.mem_append,List.mem_cons,List.mem_flatMap] at hc
  rcases hc with hc|hc|hc|hc|hc|⟨b,hbm,hc|hc⟩
  ·exact h10 h hc
  ·revert hc; decide
  ·exact h10 hk hc
  ·revert hc; decide
  ·exact h10 itoa_lb hc
  ·revert hc; decide
  ·exact h10 (hb b hbm) hc
 ·unfold lineB
  rw [cutL_app _ (hno h),cutL_app _ (hno hk),h1,e,cutL_rows _ _ (hno itoa_lb) (fun b hbm=>hno (hb b hbm))]
theorem cut_linT:∀l:List Lin,(∀x,x∈l→(10:UInt8)∉lineB x)→cutL 10 (linT l)=l.map lineB++[[]]
 | [],_=>rfl
 |x::r,h=>by
  rw [linT_cons,cutL_app _ (h x (by simp)),cut_linT r (fun y hy=>h y (by simp [hy]))]
  rfl
def lenB (ns:List Node):Nat→Int→Nat
 |0,_=>0
 |f+1,i=>((nodeN ns i).ents.map fun e=>1+if (nodeN ns e.ino).kind=2 then lenB ns f (nodeN ns e.ino).ino else 0).sum
theorem belowL_len (ns:List Node):∀(f:Nat) (i:Int) (path:Bytes),(belowL ns f i path).length=lenB ns f i
 |0,_,_=>rfl
 |f+1,i,path=>by
  rw [belowL,lenB,List.length_flatMap]
  congr 1
  refine List.map_congr_left (fun e _=>?_)
  unfold entL
  split
  ·rw [List.length_cons,belowL_len ns f]; omega
  ·simp
theorem sum_add {α:Type} (f g:α→Nat):∀l:List α,(l.map fun x=>f x+g x).sum=(l.map f).sum+(l.map g).sum
 | []=>rfl
 |x::r=>by
  simp only [List.map_cons,List.sum_cons,sum_add f g r]; omega
theorem sum_zero {α:Type} (f:α→Nat):∀l:List α,(∀x,x∈l→f x=0)→(l.map f).sum=0
 | [],_=>rfl
 |x::r,h=>by
  simp only [List.map_cons,List.sum_cons,h x (by simp),sum_zero f r (fun y hy=>h y (by simp [hy]))]
theorem sum_pick (F:Int→Nat):∀ {ns:List Node},Asc ns→∀ {i:Int} {n:Node},find ns i=some n→(ns.map fun m=>if i=m.ino then F m.ino else 0).sum=F i
 | [],_,i,n,h=>by cases h
 |m::r,ha,i,n,h=>by
  have h1:=List.pairwise_cons.1 ha
  simp only [List.map_cons,List.sum_cons]
  by_cases hm:i=m.ino
  ·rw [if_pos hm,sum_zero _ r (fun y hy=>if_neg (by have:=h1.1 y hy; omega)),hm]; rfl
  ·have h2:find r i=some n:=by
    unfold find at h ⊢
    rwa [List.find?_cons_of_neg (by simp; omega)] at h
   rw [if_neg hm,sum_pick F h1.2 h2]; omega
theorem sum_double (F:Int→Nat) {ns:List Node} (ha:Asc ns):∀E:List Ent,(∀e,e∈E→∃n,find ns e.ino=some n)→(E.map fun e=>F e.ino).sum=(ns.map fun m=>cntE E m.ino*F m.ino).sum
 | [],_=>(sum_zero _ ns (fun m _=>by simp [cntE])).symm
 |e::r,h=>by
  obtain ⟨n,hn⟩:=h e (by simp)
  have e1:(fun m:Node=>cntE (e::r) m.ino*F m.ino)=fun m=>cntE r m.ino*F m.ino+(if e.ino=m.ino then F m.ino else 0):=by
   funext m
   rw [cntE_cons,Nat.add_mul]
   split<;>simp
  rw [e1,sum_add,sum_pick F ha hn,←sum_double F ha r (fun x hx=>h x (by simp [hx]))]
  simp only [List.map_cons,List.sum_cons]; omega
theorem cnt_flat:∀(ns:List Node) (i:Int),cntE (ns.flatMap (·.ents)) i=cnt ns i
 | [],_=>rfl
 |n::r,i=>by rw [List.flatMap_cons,cntE_app,cnt_cons,cnt_flat r]
theorem sum_flat (F:Ent→Nat):∀ns:List Node,((ns.flatMap (·.ents)).map F).sum=(ns.map fun n=>(n.ents.map F).sum).sum
 | []=>rfl
 |n::r=>by
  rw [List.flatMap_cons,List.map_append,List.sum_append,sum_flat F r]; rfl
theorem len_sum {α:Type}:∀l:List α,(l.map fun _=>1).sum=l.length
 | []=>rfl
 |x::r=>by simp only [List.map_cons,List.sum_cons,List.length_cons,len_sum r]; omega
theorem sum_le_eq {α:Type} (f g:α→Nat):∀l:List α,(∀x,x∈l→f x=g x)→(l.map f).sum=(l.map g).sum:=fun l h=>by
 rw [List.map_congr_left h]
theorem GInv.lines {t:Tree} {dep:Int→Nat} (h:GInv t dep 0):(belowL t.nodes 12 1 []).length=(t.nodes.map fun n=>n.ents.length).sum:=by
 rw [belowL_len]
 let H:Int→Nat:=fun i=>if (nodeN t.nodes i).kind=2 then lenB t.nodes (12-dep i) i else 0
 have hmem:∀m,m∈t.nodes→find t.nodes m.ino=some m:=fun m hm=>find_of_mem h.srt.asc hm
 -- one node
 have hstep:∀m,m∈t.nodes→H m.ino=m.ents.length+(m.ents.map fun e=>H e.ino).sum:=by
  intro m hm
  have hf:=hmem m hm
  have hent:∀e,e∈m.ents→(∃k,find t.nodes e.ino=some k∧e.ino≠1∧(k.kind=2→k.up=m.ino)):=fun e he=>by
   obtain ⟨_,_,h1,_,k,h2,h3⟩:=h.ent _ _ e hf he
   exact ⟨k,h2,h1,h3⟩
  have hlen:∀l:List Ent,(l.map fun _=>1).sum=l.length:=len_sum
  show (if (nodeN t.nodes m.ino).kind=2 then lenB t.nodes (12-dep m.ino) m.ino else 0)=_
  rw [nodeN_some hf]
  rcases h.kind _ _ hf with hk|hk
  ·rw [if_neg (by omega),(h.file _ _ hf hk).1]; rfl
  ·rw [if_pos hk]
   obtain ⟨hd,hd2⟩:=h.deep _ _ hf hk
   rcases Nat.lt_or_ge (dep m.ino) 12 with hlt|hge
   ·obtain ⟨f,hfe⟩:∃f,12-dep m.ino=f+1:=⟨11-dep m.ino,by omega⟩
    rw [hfe,lenB,nodeN_some hf,sum_add,hlen]
    congr 1
    refine sum_le_eq _ _ _ (fun e he=>?_)
    obtain ⟨k,h2,h1,h3⟩:=hent e he
    show _=if (nodeN t.nodes e.ino).kind=2 then _ else _
    rw [nodeN_some h2]
    split
    ·rename_i hk2
     have hdd:=(h.deps _ _ h2 hk2 h1).1
     rw [h3 hk2] at hdd
     rw [h.ino h2,show f=12-dep e.ino by omega]
    ·rfl
   ·rw [hd2 (by omega),show 12-dep m.ino=0 by omega]; rfl
 have hall:∀e,e∈t.nodes.flatMap (·.ents)→∃n,find t.nodes e.ino=some n:=fun e he=>by
  obtain ⟨m,hm,he⟩:=List.mem_flatMap.1 he
  obtain ⟨_,_,_,_,k,h2,_⟩:=h.ent _ _ e (hmem m hm) he
  exact ⟨k,h2⟩
 obtain ⟨r,r1,r2,_⟩:=h.root
 -- the root is named by nobody,each other directory by one
 have hcnt:∀m,m∈t.nodes→H m.ino=cnt t.nodes m.ino*H m.ino+(if (1:Int)=m.ino then H m.ino else 0):=by
  intro m hm
  have hf:=hmem m hm
  by_cases h1:m.ino=1
  ·have hz:cnt t.nodes m.ino=0:=by
    rw [←cnt_flat]
    refine List.countP_eq_zero.2 (fun e he=>?_)
    obtain ⟨k,hk,he⟩:=List.mem_flatMap.1 he
    have:=(h.ent _ _ e (hmem k hk) he).2.2.1
    simp; omega
   rw [hz,if_pos h1.symm]; omega
  ·rw [if_neg (fun hh=>h1 hh.symm)]
   rcases h.kind _ _ hf with hk|hk
   ·have:H m.ino=0:=by
     show (if (nodeN t.nodes m.ino).kind=2 then _ else _)=0
     rw [nodeN_some hf,if_neg (by omega)]
    rw [this]; simp
   ·have a:=h.links _ _ hf
    have b:=h.one _ _ hf hk h1
    have c:=h.num _ _ hf
    rw [if_neg (by omega)] at a
    have:cnt t.nodes m.ino=1:=by omega
    rw [this]; omega
 have s1:(t.nodes.map fun m=>H m.ino).sum=(t.nodes.map fun n=>n.ents.length).sum+(t.nodes.map fun n=>(n.ents.map fun e=>H e.ino).sum).sum:=by
  rw [←sum_add]; exact sum_le_eq _ _ _ hstep
 have s2:=sum_double H h.srt.asc _ hall
 rw [sum_flat (fun e=>H e.ino)] at s2
 simp only [cnt_flat] at s2
 have s3:(t.nodes.map fun m=>H m.ino).sum=(t.nodes.map fun m=>cnt t.nodes m.ino*H m.ino).sum+H 1:=by
  rw [←sum_pick H h.srt.asc r1,←sum_add]; exact sum_le_eq _ _ _ hcnt
 have s4:H 1=lenB t.nodes 12 1:=by
  show (if (nodeN t.nodes 1).kind=2 then lenB t.nodes (12-dep 1) 1 else 0)=_
  rw [nodeN_some r1,if_pos r2,h.dep1]
 omega
end Go.Proofs.YtannopdcbocngaaGreatDoor
namespace Go.Proofs.YtannopdcbocngaaGreatDoor
open Go Go.Abs Go.RowKit Go.Shelf
def jNone:J:=⟨fun _=>none,fun _ _=>False⟩
theorem rel_none (w:World):Rel jNone [] w where
 inj:=fun _ _ _ h=>by cases h
 lt:=fun _ _ h=>by cases h
 fix:=fun _ _ h=>by cases h
 tick:=fun _ _ _ _ h=>by cases h
 arr:=fun _ _ _ _ h=>by cases h
 xdis:=fun _ _ h=>by cases h
 xlt:=fun _ _ h=>h.elim
@[reducible] def G0:Globs:={ g:=fun _=>none }
theorem ok102z:@compFn G0 Tryz.prog ann102 Tryz.f102=some fn102:=by kernel_rfl
theorem ok143z:@compFn G0 Tryz.prog ann143 Tryz.f143=some fn143:=by kernel_rfl
theorem ok170z:@compFn G0 Tryz.prog ann170 Tryz.f170=some fn170:=by kernel_rfl
theorem ok135z:@compFn G0 Tryz.prog ann135 Tryz.f135=some fn135:=by kernel_rfl
theorem none_no {α:Type} {x:α} {P:Prop} (h:(none:Option α)=some x):P:=by cases h
theorem glob0 (w:World):@Glob G0 jNone [] w:=@Glob.mk G0 _ _ _ (fun b vs k v h=>none_no (show (none:Option (List Value))=some vs from h)) (fun b vs h=>none_no (show (none:Option (List Value))=some vs from h)) (fun b p h=>none_no (show (none:Option (Value→Prop))=some p from h))
def code0:Nat→Option AFn
 |102=>some fn102
 |143=>some fn143
 |170=>some fn170
 |135=>some fn135
 |_=>none
noncomputable def tab0:Tab:=⟨code0,fun _=>none⟩
theorem tab0_ok:@TabOk G0 Tryz.prog tab0:=by
 refine @TabOk.mk G0 _ _ (fun f fn h=>?_) (fun f g h=>by cases h)
 simp only [tab0] at h
 unfold code0 at h
 split at h
 ·injection h with h; subst h; exact ⟨_,_,Tryz.func102,ok102z⟩
 ·injection h with h; subst h; exact ⟨_,_,Tryz.func143,ok143z⟩
 ·injection h with h; subst h; exact ⟨_,_,Tryz.func170,ok170z⟩
 ·injection h with h; subst h; exact ⟨_,_,Tryz.func135,ok135z⟩
 ·cases h
theorem sound0:@SoundC G0 Tryz.prog (acall tab0):=@acall_sound G0 _ (by kernel_rfl) _ tab0_ok
section
attribute [local irreducible] exK opsK opK gK forkK kr acall callOp owhen obind
theorem loop102z {s:Bytes} (hs:s.length≤100000) (ha:Ascii s) {k:List K} {R:Bool→Option (AVal×AMem)}
  (hx:∀e p,kr (acall tab0) [.tmp 2] 0 k ⟨.exit 0,e,[.siter s p]⟩=R true) (hr:∀p,kr (acall tab0) [.tmp 2] 0 k ⟨.ret,[(2,.bool false)],[.siter s p]⟩=R false) :
  ∀(l pre:Bytes),s=pre++l→exK (acall tab0) [.tmp 2] 0 k (.loop [21] lb102_0) [(21,.iref 0)] [.siter s pre.length]=R (l.all okByte):=by
 intro l
 induction l with
 |nil =>
  intro pre h
  rw [exK_loop]
  have hlt:(pre.length<s.length)=False:=by rw [h]; simp
  simp only [E102,hlt,EVN,EVT,EVD,↓reduceIte,Nat.reduceEqDiff,reduceCtorEq,Nat.reduceAdd,Nat.reduceLeDiff,ne_eq,Nat.reduceLT,Int.reduceLT,Int.reduceLE,Int.reduceNeg]
  exact hx _ _
 |cons n r ih =>
  intro pre h
  rw [exK_loop]
  have hlt:(pre.length<s.length)=True:=by rw [h]; simp
  have hd:=dec_mid h ha
  have hi:=ih (pre++[n]) (by rw [h]; simp)
  simp only [List.length_append,List.length_cons,List.length_nil,Nat.zero_add] at hi
  simp only [E102,hlt,hd,EVN,EVT,EVD,↓reduceIte,Nat.reduceEqDiff,reduceCtorEq,Nat.reduceAdd,Nat.reduceLeDiff,ne_eq,Nat.reduceLT,Int.reduceLT,Int.reduceLE,Int.reduceNeg]
  repeat' (first|(refine fork_split (fun hb=>?_) (fun hb=>?_)<;>simp only [hb,EVN,E102,hd,EVT,EVD,↓reduceIte,Nat.reduceEqDiff,reduceCtorEq,Nat.reduceAdd,Nat.reduceLeDiff,ne_eq,Nat.reduceLT,Int.reduceLT,Int.reduceLE,Int.reduceNeg])|(refine guard_split (fun hb=>?_) (fun hb=>?_)<;>simp only [hb,EVN,E102,hd,EVT,EVD,↓reduceIte,Nat.reduceEqDiff,reduceCtorEq,Nat.reduceAdd,Nat.reduceLeDiff,ne_eq,Nat.reduceLT,Int.reduceLT,Int.reduceLE,Int.reduceNeg])|(refine opK_pick (fun hb=>?_) (fun hb=>?_)<;>simp only [hb,EVN,E102,hd,EVT,EVD,↓reduceIte,Nat.reduceEqDiff,reduceCtorEq,Nat.reduceAdd,Nat.reduceLeDiff,ne_eq,Nat.reduceLT,Int.reduceLT,Int.reduceLE,Int.reduceNeg]))
  all_goals first
   |(refine (hr _).trans ?_; congr 1; symm; clear hi ih hx hr hd h; simp_all [okByte]; done)
   |(refine hi.trans ?_; congr 1; symm; clear hi ih hx hr hd h; simp_all [okByte]; done)
theorem c102z (s:Bytes) (hs:s.length≤100000) (ha:Ascii s):acall tab0 102 [.str s] []=some (.bool (nameOk s),[]):=by
 refine acall_ex rfl rfl rfl ?_
 simp only [fn102,E102,EVN,EVT,EVD,↓reduceIte,Nat.reduceEqDiff,reduceCtorEq,Nat.reduceAdd,Nat.reduceLeDiff,ne_eq,Nat.reduceLT,Int.reduceLT,Int.reduceLE,Int.reduceNeg]
 have hl:=fun k hx hr=>loop102z (k:=k) (R:=fun b=>some (AVal.bool b,[])) hs ha hx hr s [] rfl
 have he:(s==[])=decide ((s.length:Int)<1):=by cases s<;>simp; omega
 rw [he]
 repeat' (first|(refine fork_split (fun hb=>?_) (fun hb=>?_)<;>simp only [hb,EVN,E102,EVT,EVD,↓reduceIte,Nat.reduceEqDiff,reduceCtorEq,Nat.reduceAdd,Nat.reduceLeDiff,ne_eq,Nat.reduceLT,Int.reduceLT,Int.reduceLE,Int.reduceNeg])|(refine guard_split (fun hb=>?_) (fun hb=>?_)<;>simp only [hb,EVN,E102,EVT,EVD,↓reduceIte,Nat.reduceEqDiff,reduceCtorEq,Nat.reduceAdd,Nat.reduceLeDiff,ne_eq,Nat.reduceLT,Int.reduceLT,Int.reduceLE,Int.reduceNeg])|(refine opK_pick (fun hb=>?_) (fun hb=>?_)<;>simp only [hb,EVN,E102,EVT,EVD,↓reduceIte,Nat.reduceEqDiff,reduceCtorEq,Nat.reduceAdd,Nat.reduceLeDiff,ne_eq,Nat.reduceLT,Int.reduceLT,Int.reduceLE,Int.reduceNeg]))
 all_goals first
  |(clear hl he; simp_all [nameOk]; done)
  |(refine (hl _ (fun e p=>by simp only [E102,EVN,EVT,EVD,↓reduceIte,Nat.reduceEqDiff,reduceCtorEq,Nat.reduceAdd,Nat.reduceLeDiff,ne_eq,Nat.reduceLT,Int.reduceLT,Int.reduceLE,Int.reduceNeg]) (fun p=>by simp only [E102,EVN,EVT,EVD,↓reduceIte,Nat.reduceEqDiff,reduceCtorEq,Nat.reduceAdd,Nat.reduceLeDiff,ne_eq,Nat.reduceLT,Int.reduceLT,Int.reduceLE,Int.reduceNeg])).trans ?_; clear hl he; simp_all [nameOk]; done)
end
theorem plain_call {f:Nat} {args:List AVal} {r:AVal} (h:acall tab0 f args []=some (r,[])) (w:World) (vs:Array Value) (hl:args.length=vs.size) (hv:∀(i:Nat) (c:AVal) (v:Value),args[i]?=some c→vs[i]?=some v→Rep jNone [] w c v) :
  Calls Tryz.prog f vs w fun e w'=>∃v j',e = .returned v∧w.grownBy w' none∧Rep j' [] w' r v:=by
 refine ((sound0 f args [] _ h).2 jNone w vs (rel_none w) (glob0 w) hl hv).mono ?_
 rintro e w' ⟨v,j',rfl,_,hx,hr⟩
 exact ⟨v,j',rfl,⟨hx.os,hx.tape,hx.output,hx.size,fun k hk _=>(hx.old k hk fun i hi=>by cases hi).1⟩,hr⟩
theorem right102 (s:Bytes) (hs:s.length≤100000) (ha:Ascii s) (w:World):Calls Tryz.prog 102 #[.string (bs s)] w fun e w'=>e = .returned (.bool (nameOk s))∧w.grownBy w' none:=by
 refine (plain_call (c102z s hs ha) w #[.string (bs s)] rfl ?_).mono ?_
 ·intro i c v h1 h2
  match i with
  |0=>cases h1; cases h2; exact .plain (.str _)
  |i+1=>cases h1
 ·rintro e w' ⟨v,j',rfl,hg,hr⟩
  rw [hr.bool_inv]
  exact ⟨rfl,hg⟩
set_option maxHeartbeats 1000000 in
set_option maxRecDepth 100000 in
theorem index98 (a:ByteArray) (c:Int) (w:World) :
  Calls Tryz.prog 98 #[.string a,.int .u8 c] w fun e w'=>e = .returned (.int .i64 (Lib.indexByte a.data.toList c.toNat.toUInt8))∧w'=w:=by
 go_enter Tryz.func98,Tryz.ntmps98
 go_wp2_with (go_at_call 139; refine (index139 _ _ _).mono ?_; rintro e w' ⟨rfl,rfl⟩)
 go_ret
 exact ⟨rfl,rfl⟩
end Go.Proofs.YtannopdcbocngaaGreatDoor
namespace Go.Proofs.YtannopdcbocngaaGreatDoor
open Go Go.Abs Go.RowKit Go.Shelf
section ev
attribute [local irreducible] exK opsK opK gK forkK kr acall callOp owhen obind
def cutS:Bytes→Bytes×Bool
 |b::r=>if b=47 then (r,true) else (b::r,false)
 | []=>([],false)
def hasS:Bytes→Bool
 |b::_=>b==47
 | []=>false
theorem c135p (s:Bytes):acall tab0 135 [.str s,.str [47]] []=some (.bool (hasS s),[]):=by
 refine acall_ex rfl rfl rfl ?_
 cases s with
 |nil =>
  have h0:decide (((1:Nat):Int)≤((0:Nat):Int))=false:=by decide
  simp only [fn135,E135,h0,EVN,EVT,EVD,↓reduceIte,Nat.reduceEqDiff,reduceCtorEq,Nat.reduceAdd,Nat.reduceLeDiff,ne_eq,Nat.reduceLT,Int.reduceLT,Int.reduceLE,Int.reduceNeg]
  simp only [hasS,E135,h0,EVN,EVT,EVD,↓reduceIte,Nat.reduceEqDiff,reduceCtorEq,Nat.reduceAdd,Nat.reduceLeDiff,ne_eq,Nat.reduceLT,Int.reduceLT,Int.reduceLE,Int.reduceNeg]
 |cons b r =>
  have h1:(1:Int)≤(r.length:Int)+1:=by omega
  simp only [fn135,E135,EVN,EVT,EVD,↓reduceIte,Nat.reduceEqDiff,reduceCtorEq,Nat.reduceAdd,Nat.reduceLeDiff,ne_eq,Nat.reduceLT,Int.reduceLT,Int.reduceLE,Int.reduceNeg]
  simp [hasS,h1,boundOf,E135,EVN,EVT,EVD,↓reduceIte,Nat.reduceEqDiff,reduceCtorEq,Nat.reduceAdd,Nat.reduceLeDiff,ne_eq,Nat.reduceLT,Int.reduceLT,Int.reduceLE,Int.reduceNeg]
  try (cases hb:(b==47)<;>simp_all)
theorem k135p (s:Bytes) (M:AMem):callOp (acall tab0) 135 [.str s,.str [47]] M=some (.bool (hasS s),M):=callOp0 (c135p s) rfl rfl rfl rfl rfl M
theorem c170 (s:Bytes):acall tab0 170 [.str s,.str [47]] []=some (.tuple [.str (cutS s).1,.bool (cutS s).2],[]):=by
 refine acall_ex rfl rfl rfl ?_
 simp only [fn170,E170,k135p,EVN,EVT,EVD,↓reduceIte,Nat.reduceEqDiff,reduceCtorEq,Nat.reduceAdd,Nat.reduceLeDiff,ne_eq,Nat.reduceLT,Int.reduceLT,Int.reduceLE,Int.reduceNeg]
 cases s with
 |nil=>simp only [hasS,E170,k135p,EVN,EVT,EVD,↓reduceIte,Nat.reduceEqDiff,reduceCtorEq,Nat.reduceAdd,Nat.reduceLeDiff,ne_eq,Nat.reduceLT,Int.reduceLT,Int.reduceLE,Int.reduceNeg]; rfl
 |cons b r =>
  by_cases hb:b=47
  ·have h1:(1:Int)≤(r.length:Int)+1:=by omega
   have h2:(0:Int)≤(r.length:Int)+1:=by omega
   simp [hasS,hb,E170,cutS,boundOf,h1,h2,EVN,EVT,EVD,↓reduceIte,Nat.reduceEqDiff,reduceCtorEq,Nat.reduceAdd,Nat.reduceLeDiff,ne_eq,Nat.reduceLT,Int.reduceLT,Int.reduceLE,Int.reduceNeg]
  ·have hb':(b==47)=false:=by simpa using hb
   simp only [hasS,hb',E170,EVN,EVT,EVD,↓reduceIte,Nat.reduceEqDiff,reduceCtorEq,Nat.reduceAdd,Nat.reduceLeDiff,ne_eq,Nat.reduceLT,Int.reduceLT,Int.reduceLE,Int.reduceNeg]
   simp [cutS,hb]
theorem k170 (s:Bytes) (M:AMem):callOp (acall tab0) 170 [.str s,.str [47]] M=some (.tuple [.str (cutS s).1,.bool (cutS s).2],M):=callOp0 (c170 s) rfl rfl rfl rfl rfl M
theorem c143 (s:Bytes):acall tab0 143 [.str s,.str [47]] []=some (.tuple [.str (cutS s).1,.bool (cutS s).2],[]):=by
 refine acall_ex rfl rfl rfl ?_
 simp only [fn143,E143,k170,EVN,EVT,EVD,↓reduceIte,Nat.reduceEqDiff,reduceCtorEq,Nat.reduceAdd,Nat.reduceLeDiff,ne_eq,Nat.reduceLT,Int.reduceLT,Int.reduceLE,Int.reduceNeg]
end ev
theorem cut143 (s:Bytes) (w:World):Calls Tryz.prog 143 #[.string (bs s),.string ⟨#[47]⟩] w fun e w'=>e = .returned (.tuple #[.string (bs (cutS s).1),.bool (cutS s).2])∧w.grownBy w' none:=by
 refine (plain_call (c143 s) w #[.string (bs s),.string ⟨#[47]⟩] rfl ?_).mono ?_
 ·intro i c v h1 h2
  match i with
  |0=>cases h1; cases h2; exact .plain (.str _)
  |1=>cases h1; cases h2; exact .plain (.str [47])
  |i+2=>cases h1
 ·rintro e w' ⟨v,j',rfl,hg,hr⟩
  obtain ⟨vs,rfl,hl,hv⟩:=hr.tuple_inv
  obtain ⟨l⟩:=vs
  match l,hl with
  | [u1,u2],_ =>
   rw [(hv 0 _ u1 rfl rfl).str_inv,(hv 1 _ u2 rfl rfl).bool_inv]
   exact ⟨rfl,hg⟩
def endS (s:Bytes):Nat:=if Lib.indexByte s 47<0 then s.length else (Lib.indexByte s 47).toNat
def pieceS (s:Bytes):Bytes×Bool:=((cutS s).1.take (endS (cutS s).1),(cutS s).2)
def restS (s:Bytes):Bytes:=(cutS s).1.drop (endS (cutS s).1)
def piecesN:Nat→Bytes→List (Bytes×Bool)
 |0,_=>[]
 |n+1,s=>match s with
  | []=>[]
  |b::r=>pieceS (b::r)::piecesN n (restS (b::r))
theorem index_le (l:Bytes) (c:UInt8):Lib.indexByte l c≤l.length:=by
 induction l with
 |nil=>simp [Lib.indexByte]
 |cons b r ih =>
  simp only [Lib.indexByte]
  split
  ·simp; omega
  ·split
   ·simp; omega
   ·simp; omega
theorem cutS_len (s:Bytes):(cutS s).1.length≤s.length:=by
 cases s with
 |nil=>simp [cutS]
 |cons b r=>simp only [cutS]; split<;>simp
theorem restS_lt {s:Bytes} (h:s≠[]):(restS s).length<s.length:=by
 cases s with
 |nil=>exact absurd rfl h
 |cons b r =>
  unfold restS
  rw [List.length_drop]
  by_cases hb:b=47
  ·have:cutS (b::r)=(r,true):=by simp [cutS,hb]
   rw [this]; simp; omega
  ·have e:cutS (b::r)=(b::r,false):=by simp [cutS,hb]
   rw [e]
   have:0<endS (b::r):=by
    unfold endS
    have hb':(b==47)=false:=by simpa using hb
    have hg:=Lib.indexByte_ge r 47
    split
    ·simp
    ·rename_i hn
     simp only [Lib.indexByte,hb',Bool.false_eq_true,if_false] at hn ⊢
     split
     ·rename_i he; simp [he] at hn
     ·rename_i he
      have:Lib.indexByte r 47 ≠ -1:=by simpa using he
      omega
   simp only [List.length_cons]
   omega
theorem piecesN_more:∀(n m:Nat) (s:Bytes),s.length≤n→s.length≤m→piecesN n s=piecesN m s:=by
 intro n
 induction n with
 |zero =>
  intro m s h _
  have:s=[]:=by cases s with|nil=>rfl|cons b r=>simp at h
  subst this
  cases m<;>rfl
 |succ n ih =>
  intro m s h h'
  cases s with
  |nil=>cases m<;>rfl
  |cons b r =>
   cases m with
   |zero=>simp at h'
   |succ m =>
    have:=restS_lt (s:=b::r) (by simp)
    simp only [piecesN]
    rw [ih m _ (by omega) (by omega)]
def piecesS (s:Bytes):List (Bytes×Bool):=piecesN s.length s
theorem piecesS_cons {s:Bytes} (h:s≠[]):piecesS s=pieceS s::piecesS (restS s):=by
 cases s with
 |nil=>exact absurd rfl h
 |cons b r =>
  have:=restS_lt (s:=b::r) (by simp)
  unfold piecesS
  rw [show (b::r).length=r.length+1 from rfl,piecesN]
  rw [piecesN_more r.length (restS (b::r)).length _ (by simp at this; omega) (by omega)]
theorem mem_cutS {s:Bytes} {b:UInt8} (h:b∈(cutS s).1):b∈s:=by
 cases s with
 |nil=>exact h
 |cons a r =>
  simp only [cutS] at h
  split at h
  ·exact List.mem_cons_of_mem _ h
  ·exact h
theorem ascii_piece {s:Bytes} (h:Ascii s):Ascii (pieceS s).1:=fun b hb=>h b (mem_cutS (List.mem_of_mem_take hb))
theorem ascii_rest {s:Bytes} (h:Ascii s):Ascii (restS s):=fun b hb=>h b (mem_cutS (List.mem_of_mem_drop hb))
theorem piece_len (s:Bytes):(pieceS s).1.length≤s.length:=by
 have:=cutS_len s
 unfold pieceS
 rw [List.length_take]
 omega
abbrev PA:={ x:Bytes×Bool // Ascii x.1∧x.1.length≤100000 }
abbrev encP (x:PA):Array Value := #[.string (bs x.1.1),.bool x.1.2]
end Go.Proofs.YtannopdcbocngaaGreatDoor
namespace Go.Proofs.YtannopdcbocngaaGreatDoor
open Go Go.Abs Go.RowKit Go.Shelf
attribute [local go_sem] Oper.semAt_some
set_option maxHeartbeats 1000000 in
theorem pieces101 (n:Nat) (s:Bytes) (w:World) :
  CallsIn Fence.wide n Tryz.prog 101 #[.string (bs s)] w fun e w'=>e = .returned (.func (.func 142) #[] #[.pointer (some ⟨w.heap.size,0,none⟩)])∧w'=w.alloc (.cells #[.string (bs s)] 9):=by
 refine callsIn_of_wp Tryz.func101 rfl trivial ?_ rfl
 simp only [Tryz.ntmps101,List.size_toArray,List.length_cons,List.length_nil,Nat.reduceAdd,Nat.reduceSub,Array.replicate_succ,Array.replicate_zero,List.push_toArray,List.append_toArray,List.nil_append,List.cons_append]
 gi_wp2
 go_ret
 exact ⟨rfl,rfl⟩
theorem bs_drop (c:Bytes) (n:Nat):bs (c.drop n)=(bs c).extract n (bs c).size:=by
 rw [bs_extract,show (bs c).size=c.length from rfl,List.take_length]
set_option maxRecDepth 100000 in
set_option maxHeartbeats 1000000 in
theorem iter142 (n:Nat) (hn:3≤n) (l b0 N:Nat) (s0:Bytes) (ha:Ascii s0) (hs:s0.length≤100000) (hN:(piecesS s0).length≤N) (J Jx:List PA→World→Prop) (W:World) (hJ:AbidesFrom W.heap.size J) (hJc:∀s A v,J s A→J s (A.setCell ⟨b0,0,none⟩ v))
  (hY:∀pre x W1,J pre W1→pre.length<N→YieldAt Fence.wide (n-1) Tryz.prog l (encP x) W1 fun e W' =>
   (e = .returned (.bool true)∧J (pre++[x]) W'∧W'.heap[b0]?=W1.heap[b0]?)∨(e = .returned (.bool false)∧Jx (pre++[x]) W'))
  (hB:Boxed W b0 9 (.string (bs s0))) (h0:J [] W) :
  CallsIn Fence.wide n Tryz.prog 142 #[.func (.yield l) #[] #[],.pointer (some ⟨b0,0,none⟩)] W fun e W'=>(∃v,e = .returned v) ∧
   ((∃xs:List PA,xs.map (·.1)=piecesS s0∧J xs W')∨(∃pre:List PA,pre.map (·.1) <+: piecesS s0∧Jx pre W')):=by
 refine callsIn_of_wp Tryz.func142 rfl trivial ?_ rfl
 simp only [Tryz.ntmps142,List.size_toArray,List.length_cons,List.length_nil,Nat.reduceAdd,Nat.reduceSub,Array.replicate_succ,Array.replicate_zero,List.push_toArray,List.append_toArray,List.nil_append,List.cons_append]
 gi_wp2
 gi_loopw [3] (fun _ wr=>∃(pre:List PA) (rest:Bytes),Boxed wr b0 9 (.string (bs rest))∧Ascii rest∧rest.length≤100000∧piecesS s0=pre.map (·.1)++piecesS rest∧J pre wr)
  (fun _ wr=>cellLen b0 wr)
 case atStart =>
  exact ⟨[],s0,hB,ha,hs,rfl,h0⟩
 case round =>
  obtain ⟨pre,rest,hb,hra,hrl,hp,hJs⟩:=hrel
  have hf:=hb.frozen
  cases rest with
  |nil =>
   have hc:wr.cell? ⟨b0,0,none⟩=some (.string ⟨#[]⟩):=hb.cell
   gi_wp2
   go_end0
   exact ⟨⟨_,rfl⟩,.inl ⟨pre,by rw [hp]; simp [piecesS,piecesN],hJs⟩⟩
  |cons x rest =>
   have hc:=hb.cell
   have hne:(!(bs (x::rest)).toList.isEmpty)=true:=by simp [bs]
   gi_wp2
   refine ⟨trivial,fun h=>(by cases h),(callsIn_wide.2 (cut143 _ _)).mono ?_⟩
   rintro e w1 ⟨rfl,hg⟩
   have hb1:Boxed w1 b0 9 (.string (bs (x::rest))):=hb.kept hg (by simp)
   have hJ1:J pre w1:=hJ pre wr w1 none hJs hg (fun r e=>by cases e)
   have hbr:=hb
   clear hb hc hf hJs
   have hc1:=hb1.cell
   have hf1:=hb1.frozen
   gi_wp2
   refine ⟨trivial,fun h=>(by cases h),(callsIn_wide.2 (index98 _ _ _)).mono ?_⟩
   rintro e w2 ⟨rfl,rfl⟩
   have hlen:pre.length<N:=by
    have:=congrArg List.length hp
    rw [piecesS_cons (s:=x::rest) (by simp)] at this
    simp at this
    omega
   have hpl:=piece_len (x::rest)
   have hrest:=restS_lt (s:=x::rest) (by simp)
   obtain ⟨fn,tmps,assign,body,hy,hR⟩:=hY pre ⟨pieceS (x::rest),ascii_piece hra,by omega⟩ w2 hJ1 hlen
   have hpn:piecesS s0=(pre++[⟨pieceS (x::rest),ascii_piece hra,by omega⟩]:List PA).map (·.1)++piecesS (restS (x::rest)):=by
    rw [hp,piecesS_cons (by simp)]; simp
   obtain ⟨c,hc⟩:∃c,(cutS (x::rest)).1=c:=⟨_,rfl⟩
   have hix:=index_le c 47
   by_cases hi:Lib.indexByte c 47<0
   ·have he:pieceS (x::rest)=(c,(cutS (x::rest)).2):=by simp [pieceS,hc,endS,hi]
    have hre:restS (x::rest)=[]:=by simp [restS,hc,endS,hi]
    simp only [encP,he] at hy
    rw [hc]
    have hi':Lib.indexByte (bs c).data.toList 47<0:=hi
    gi_wp2
    refine ⟨fun h=>(by cases h),hR.mono ?_⟩
    rintro e W3 (⟨rfl,hJ3,hk3⟩|⟨rfl,hJx3⟩)
    ·have hb3:Boxed W3 b0 9 (.string (bs (x::rest))):=hk3.trans hb1
     have hc3:=hb3.cell
     have hf3:=hb3.frozen
     gi_wp2
     go_roundw
     case rel =>
      exact ⟨_,restS (x::rest),(by rw [hre]; exact (hb3.set _)),ascii_rest hra,by omega,hpn,hJc _ _ _ hJ3⟩
     case measure =>
      rw [cellLen_of (s:=restS (x::rest)) (by rw [hre]; exact (hb3.set _)),cellLen_of hbr]
      exact hrest
    ·gi_wp2
     refine bodyPost_ret (results_none rfl _ _ _) rfl ?_
     exact ⟨⟨_,rfl⟩,.inr ⟨_,⟨piecesS (restS (x::rest)),hpn.symm⟩,hJx3⟩⟩
   ·have hi0:0≤Lib.indexByte c 47:=by omega
    have he:pieceS (x::rest)=(c.take (Lib.indexByte c 47).toNat,(cutS (x::rest)).2):=by simp [pieceS,hc,endS,hi]
    have hre:restS (x::rest)=c.drop (Lib.indexByte c 47).toNat:=by simp [restS,hc,endS,hi]
    simp only [encP,he] at hy
    rw [show bs (c.take (Lib.indexByte c 47).toNat)=(bs c).extract 0 (Lib.indexByte (bs c).data.toList 47).toNat by rw [bs_extract]; rfl] at hy
    rw [hc]
    have hi':¬Lib.indexByte (bs c).data.toList 47<0:=hi
    have hi2:Lib.indexByte (bs c).data.toList 47≤(bs c).size:=hix
    gi_wp2
    refine ⟨fun h=>(by cases h),hR.mono ?_⟩
    rintro e W3 (⟨rfl,hJ3,hk3⟩|⟨rfl,hJx3⟩)
    ·have hb3:Boxed W3 b0 9 (.string (bs (x::rest))):=hk3.trans hb1
     have hc3:=hb3.cell
     have hf3:=hb3.frozen
     gi_wp2
     go_roundw
     case rel =>
      exact ⟨_,restS (x::rest),(by rw [hre,bs_drop]; exact (hb3.set _)),ascii_rest hra,by omega,hpn,hJc _ _ _ hJ3⟩
     case measure =>
      rw [cellLen_of (s:=restS (x::rest)) (by rw [hre,bs_drop]; exact (hb3.set _)),cellLen_of hbr]
      exact hrest
    ·gi_wp2
     refine bodyPost_ret (results_none rfl _ _ _) rfl ?_
     exact ⟨⟨_,rfl⟩,.inr ⟨_,⟨piecesS (restS (x::rest)),hpn.symm⟩,hJx3⟩⟩
end Go.Proofs.YtannopdcbocngaaGreatDoor
namespace Go.Proofs.YtannopdcbocngaaGreatDoor
open Go Go.Abs Go.RowKit Go.Shelf
attribute [local go_sem] Oper.semAt_some
def badP (x:Bytes×Bool) (n:Nat):Bool := !x.2 || !nameOk x.1||n==12
def splGo:List (Bytes×Bool)→Nat→Option (List Bytes)
 | [],_=>some []
 |x::r,n=>if badP x n=true then none else (splGo r (n+1)).map (x.1 :: ·)
theorem splGo_app:∀(a b:List (Bytes×Bool)) (n:Nat),splGo (a++b) n=(splGo a n).bind fun l=>(splGo b (n+a.length)).map (l ++ ·):=by
 intro a
 induction a with
 |nil=>intro b n; simp [splGo]
 |cons x r ih =>
  intro b n
  simp only [List.cons_append,splGo]
  split
  ·rfl
  ·rw [ih,show n+1+r.length=n+(x::r).length by simp; omega]
   cases splGo r (n+1) with
   |none=>rfl
   |some l=>simp; rfl
def splitN (s:Bytes):List Bytes×Int:=if s=[47] then ([],0) else match splGo (piecesS s) 0 with
 |none=>([],60)
 |some []=>([],60)
 |some l=>(l,0)
def goodP (pre:List PA):Prop:=splGo (pre.map (·.1)) 0=some (pre.map (·.1.1))∧pre.length≤12
theorem goodP_snoc {pre:List PA} {x:PA} (h:goodP pre) (hb:badP x.1 pre.length=false):goodP (pre++[x]):=by
 refine ⟨?_,?_⟩
 ·rw [List.map_append,splGo_app,h.1]
  simp [splGo,hb]
 ·have:pre.length≠12:=by intro e; rw [e] at hb; simp [badP] at hb
  have:=h.2
  simp; omega
theorem badP_snoc {pre:List PA} {x:PA} (h:goodP pre) (hb:badP x.1 pre.length=true):splGo ((pre++[x]).map (·.1)) 0=none:=by
 rw [List.map_append,splGo_app,h.1]
 simp [splGo,hb]
theorem splGo_pre {a l:List (Bytes×Bool)} (h:a <+: l) (hn:splGo a 0=none):splGo l 0=none:=by
 obtain ⟨b,rfl⟩:=h
 rw [splGo_app,hn]; rfl
theorem info9:(Tryz.prog.info? 9).map (fun i=>(i.zero,i.size,i.bytes))=some (some (.string ⟨#[]⟩),1,16):=by kernel_rfl
abbrev encN (b:Bytes):Value := .string (bs b)
theorem appended {W w1:World} {n₀ B:Nat} {v v':Value} {k m:Nat} {xs ys:List Value} {tmp:Obj}
  (hv:Boxed W B 26 v) (hrow:W.ownsRow n₀ 9 1 v k xs) (hown':w1.ownsRow n₀ 9 1 v' m ys) (hgrow:(W.alloc tmp).grownBy w1 v.ownBlock) :
  Boxed w1 B 26 v∧Boxed (w1.setCell ⟨B,0,none⟩ v') B 26 v'∧(w1.setCell ⟨B,0,none⟩ v').ownsRow n₀ 9 1 v' m ys∧KeepsOthers W (w1.setCell ⟨B,0,none⟩ v') ∧
  (w1.setCell ⟨B,0,none⟩ v').os=W.os∧(w1.setCell ⟨B,0,none⟩ v').tape=W.tape∧(w1.setCell ⟨B,0,none⟩ v').output=W.output∧W.heap.size≤(w1.setCell ⟨B,0,none⟩ v').heap.size ∧
  ∀q,q<n₀→q<W.heap.size→q≠B→(w1.setCell ⟨B,0,none⟩ v').heap[q]?=W.heap[q]?:=by
 have hv1:Boxed w1 B 26 v:=(hv.alloc tmp).kept hgrow (hv.not_row (by decide) hrow)
 have hs:=grownBy_setCell' w1 B v'
 refine ⟨hv1,hv1.set v',hown'.kept hs (.inr (hv1.not_row (by decide) hown').symm),?_,?_,?_,?_,?_,?_⟩
 ·refine ((KeepsOthers.alloc W tmp).trans (KeepsOthers.of_grownBy hgrow fun j o ej hj=>?_)).trans (KeepsOthers.setCell _ _ _)
  rcases (hrow.alloc tmp).2 with ⟨rfl,_⟩|⟨g,cap,cur,rfl,_,hgb,_⟩
  ·simp [Value.ownBlock] at ej
  ·obtain rfl:g=j:=by simpa [Value.ownBlock] using ej
   rw [hgb] at hj; cases hj; rfl
 ·exact hs.os.trans hgrow.os
 ·exact hs.tape.trans hgrow.tape
 ·exact hs.output.trans hgrow.output
 ·have h1:=hgrow.size
  have h2:=hs.size
  simp at h1
  omega
 ·intro q hq hqw hqB
  have hlt:q<(W.alloc tmp).heap.size:=by simp; omega
  rw [hs.block q (Nat.lt_of_lt_of_le hlt hgrow.size) (fun e=>hqB (by cases e; rfl)),hgrow.block q hlt ?_]
  ·exact Below.heap_alloc _ _ _ hqw
  ·intro e
   rcases hrow.2 with ⟨rfl,_⟩|⟨g,cap,cur,rfl,hb,_,_⟩
   ·simp [Value.ownBlock] at e
   ·obtain rfl:q=g:=by simpa [Value.ownBlock] using e
    omega
structure InvS (w:World) (pre:List PA) (W:World):Prop where
 good:goodP pre
 r0:Boxed W w.heap.size 26 (.slice none 0 0)
 r1:Boxed W (w.heap.size+1) 25 (.int .i64 0)
 row:∃v,Boxed W (w.heap.size+2) 26 v∧W.ownsRow (w.heap.size+4) 9 1 v pre.length (pre.map fun x=>encN x.1.1)
 below:Below w.heap.size w W
 sz:w.heap.size+4≤W.heap.size
structure OutS (w:World) (c:Code) (pre:List PA) (W:World):Prop where
 ret:c = .ret
 bad:splGo (pre.map (·.1)) 0=none
 r0:Boxed W w.heap.size 26 (.slice none 0 0)
 r1:Boxed W (w.heap.size+1) 25 (.int .i64 60)
 below:Below w.heap.size w W
theorem boxed_keep {W W':World} {row:Option Nat} {B k:Nat} {t:TypeId} {v:Value} (h:Boxed W B t v) (hg:W.grownBy W' row) (hr:∀r,row=some r→k≤r∧∃o:Obj,W.heap[r]?=some o∧o.isCells=false):Boxed W' B t v :=
 h.kept hg fun e=>by obtain ⟨_,o,ho,hc⟩:=hr B e.symm; rw [show W.heap[B]?=_ from h] at ho; cases ho; cases hc
theorem InvS.own {w:World}:OwnFrom (w.heap.size+4) (InvS w):=fun s A B row hs hg hr=>by
 obtain ⟨v,hv,hrow⟩:=hs.row
 exact ⟨hs.good,boxed_keep hs.r0 hg hr,boxed_keep hs.r1 hg hr,⟨v,boxed_keep hv hg hr,((holdsRow_own (β:=Unit) (w.heap.size+4) (w.heap.size+2) 26 9 1 (fun _=>s.length) (fun _=>s.map fun x=>encN x.1.1) (fun _ u=>u=v)) () A B row ⟨v,hv,hrow,rfl⟩ hg (fun r e=>(hr r e).2)).elim fun u hu=>hu.2.2▸hu.2.1⟩,ownFrom_below (β:=Unit) (Nat.le_refl _) (by omega) () A B row hs.below hg hr,Nat.le_trans hs.sz hg.size⟩
theorem OutS.own {w:World} (c:Code):OwnFrom (w.heap.size+4) (OutS w c):=fun s A B row hs hg hr =>
 ⟨hs.ret,hs.bad,boxed_keep hs.r0 hg hr,boxed_keep hs.r1 hg hr,ownFrom_below (β:=Unit) (Nat.le_refl _) (by omega) () A B row hs.below hg hr⟩
theorem InvS.cell {w:World} (s:List PA) (A:World) (u:Value) (hs:InvS w s A):InvS w s (A.setCell ⟨w.heap.size+3,0,none⟩ u):=by
 obtain ⟨v,hv,hrow⟩:=hs.row
 have hg:=grownBy_setCell' A (w.heap.size+3) u
 refine ⟨hs.good,hs.r0.other (by omega) _,hs.r1.other (by omega) _,⟨v,hv.other (by omega) _,hrow.kept hg ?_⟩,hs.below.setCell (p:=⟨w.heap.size+3,0,none⟩) (by simp) _,Nat.le_trans hs.sz hg.size⟩
 rcases hrow.2 with ⟨rfl,_⟩|⟨g,cap,cur,rfl,hb,_,_⟩
 ·exact .inl rfl
 ·refine .inr fun e=>?_
  have:g=w.heap.size+3:=by simpa [Value.ownBlock] using e
  omega
theorem OutS.made {w W:World} {pre:List PA} (h0:Boxed W w.heap.size 26 (.slice none 0 0)) (h1:Boxed W (w.heap.size+1) 25 (.int .i64 0)) (hb:Below w.heap.size w W) (hbad:splGo (pre.map (·.1)) 0=none) :
  KeepsOthers W ((W.setCell ⟨w.heap.size,0,none⟩ (.slice none 0 0)).setCell ⟨w.heap.size+1,0,none⟩ (.int .i64 60))∧OutS w .ret pre ((W.setCell ⟨w.heap.size,0,none⟩ (.slice none 0 0)).setCell ⟨w.heap.size+1,0,none⟩ (.int .i64 60)):=by
 refine ⟨(KeepsOthers.setCell _ _ _).trans (KeepsOthers.setCell _ _ _),rfl,hbad,(h0.set _).other (by omega) _,?_,(hb.setCell (p:=⟨w.heap.size,0,none⟩) (Nat.le_refl _) _).setCell (p:=⟨w.heap.size+1,0,none⟩) (by simp) _⟩
 exact (h1.other (by omega) _).set _
theorem row_shape {W:World} {n₀ k:Nat} {v:Value} {xs:List Value} (h:W.ownsRow n₀ 9 1 v k xs):∃p cap,v = .slice p k cap:=by
 rcases h.2 with ⟨rfl,rfl⟩|⟨g,cap,cur,rfl,_⟩
 ·exact ⟨_,_,rfl⟩
 ·exact ⟨_,_,rfl⟩
theorem row_put {W:World} {n₀ n₁ k D:Nat} {v:Value} {xs:List Value} {x:Option (List Deferred)} {o:Obj} (h:W.ownsRow n₀ 9 1 v k xs) (hn:n₁≤n₀) (hD:W.heap[D]?=some (.deferred x)):(W.putObj D o).ownsRow n₁ 9 1 v k xs:=by
 refine ⟨h.1,?_⟩
 rcases h.2 with h0|⟨g,cap,cur,e,hb,hg,hr⟩
 ·exact .inl h0
 ·refine .inr ⟨g,cap,cur,e,by omega,?_,hr⟩
  exact (World.putObj_heap_other (fun e=>by subst e; rw [hD] at hg; cases hg)).trans hg
theorem row_cell {W:World} {n₀ k B:Nat} {v:Value} {xs:List Value} (h:W.ownsRow n₀ 9 1 v k xs) (hB:B<n₀) (u:Value):(W.setCell ⟨B,0,none⟩ u).ownsRow n₀ 9 1 v k xs:=by
 refine ⟨h.1,?_⟩
 rcases h.2 with h0|⟨g,cap,cur,e,hb,hg,hr⟩
 ·exact .inl h0
 ·exact .inr ⟨g,cap,cur,e,hb,(Below.heap_setCell _ _ _ _ (by show _≠B; omega)).trans hg,hr⟩
theorem mark_cell {W:World} {B D:Nat} {o:Obj} {u:Value} (h:W.heap[D]?=some o) (hB:D≠B):(W.setCell ⟨B,0,none⟩ u).heap[D]?=some o:=(Below.heap_setCell _ _ _ _ (by show _≠B; omega)).trans h
theorem results73 {W:World} {b:Nat} {v u:Value} {tmps:Array Value} (h2:tmps[2]?=some (.pointer (some ⟨b,0,none⟩))) (h3:tmps[3]?=some (.pointer (some ⟨b+1,0,none⟩))) (hv:Boxed W b 26 v) (hu:Boxed W (b+1) 25 u):(results Tryz.f73 tmps).run Tryz.prog W = .ok (.tuple #[v,u]) W:=by
 have c0:=hv.cell
 have c1:=hu.cell
 simp [results,Tryz.f73,go_sem,c0,c1,h2,h3]
set_option maxRecDepth 100000 in
set_option maxHeartbeats 2000000 in
theorem split_in (n:Nat) (hn:6≤n) (s:Bytes) (ha:Ascii s) (hs:s.length≤100000) (w:World) :
  CallsIn Fence.wide n Tryz.prog 73 #[.string (bs s)] w fun e W'=>∃v,e = .returned (.tuple #[v,.int .i64 (splitN s).2])∧W'.ownsRow w.heap.size 9 1 v (splitN s).1.length ((splitN s).1.map encN)∧Below w.heap.size w W':=by
 have h1:1≤n:=by omega
 obtain ⟨i0,hi,hz0,hz1,hz2⟩:=info_parts info9
 refine callsIn_of_wp_marks Tryz.func73 rfl trivial ?_ rfl
 simp only [Tryz.ntmps73,List.size_toArray,List.length_cons,List.length_nil,Nat.reduceAdd,Nat.reduceSub,Array.replicate_succ,Array.replicate_zero,List.push_toArray,List.append_toArray,List.nil_append,List.cons_append]
 have b0:=Boxed.new w 26 (.slice none 0 0)
 have b1:=Boxed.new (w.alloc (.cells #[.slice none 0 0] 26)) 25 (.int .i64 0)
 have b2:=Boxed.new ((w.alloc (.cells #[.slice none 0 0] 26)).alloc (.cells #[.int .i64 0] 25)) 26 (.slice none 0 0)
 have b3:=Boxed.new (((w.alloc (.cells #[.slice none 0 0] 26)).alloc (.cells #[.int .i64 0] 25)).alloc (.cells #[.slice none 0 0] 26)) 9 (.string (bs s))
 simp only [World.size_alloc] at b1 b2 b3
 have hB2:Below w.heap.size w ((w.alloc (.cells #[.slice none 0 0] 26)).alloc (.cells #[.int .i64 0] 25)):=((Below.refl _ w).alloc (Nat.le_refl _) _).alloc (by simp) _
 have hB4:=(hB2.alloc (by simp; omega) (.cells #[.slice none 0 0] 26)).alloc (by simp; omega) (.cells #[.string (bs s)] 9)
 by_cases hs47:s=[47]
 ·subst hs47
  have ht:((bs [47]).toList==[47])=true:=by rw [bs_toList]; rfl
  gi_wp2
  have c0:=(b0.alloc (.cells #[.int .i64 0] 25)).cell
  have c1:=b1.cell
  refine ⟨.tuple #[.slice none 0 0,.int .i64 0],?_,_,rfl,World.ownsRow_nil _ _ _ _,hB2⟩
  simp [results,Tryz.f73,go_sem,c0,c1]
 have ht:((bs s).toList==[47])=false:=by rw [bs_toList]; simpa using hs47
 gi_wp2
 refine ⟨trivial,(pieces101 _ s _).mono ?_⟩
 rintro e w' ⟨rfl,rfl⟩
 gi_wp2
 obtain ⟨W4,hW4⟩:∃W4,(((w.alloc (.cells #[.slice none 0 0] 26)).alloc (.cells #[.int .i64 0] 25)).alloc (.cells #[.slice none 0 0] 26)).alloc (.cells #[.string (bs s)] 9)=W4:=⟨_,rfl⟩
 have hsz:W4.heap.size=w.heap.size+4:=by rw [←hW4]; simp
 have e0:Boxed W4 w.heap.size 26 (.slice none 0 0):=by rw [←hW4]; exact ((b0.alloc _).alloc _).alloc _
 have e1:Boxed W4 (w.heap.size+1) 25 (.int .i64 0):=by rw [←hW4]; exact (b1.alloc _).alloc _
 have e2:Boxed W4 (w.heap.size+2) 26 (.slice none 0 0):=by rw [←hW4]; exact b2.alloc _
 rw [hW4] at b3 hB4 ⊢
 have hseq:SeqStopsC (w.heap.size+3) Fence.wide (n-1) Tryz.prog 142 #[.pointer (some ⟨w.heap.size+3,0,none⟩)] encP (fun A B=>B.heap[w.heap.size+3]?=A.heap[w.heap.size+3]?) (fun xs=>xs.map (·.1)=piecesS s) (fun pre=>pre.map (·.1) <+: piecesS s) (piecesS s).length W4 :=
  fun l J Jx W hW hJ hJx hJc hY h0=>iter142 (n-1) (by omega) l _ _ s ha hs (Nat.le_refl _) J Jx W hJ hJc hY ((hW.block _ (by omega)).trans b3) h0
 refine wpIn_rangeFunc_ownC (b0:=w.heap.size+3) (by omega) rfl h1 (gf:=142) (lb := #[.pointer (some ⟨w.heap.size+3,0,none⟩)]) rfl trivial (enters_of Tryz.func142 (by kernel_rfl) rfl) hseq
  (fun h k=>k.trans h) (fun W l o o' hl _ _ _=>World.putObj_heap_other (by omega)) (Below.refl _ _) (fun _=>rfl)
  (InvS w) (OutS w) (by rw [hsz]; exact InvS.own) (fun c=>by rw [hsz]; exact OutS.own c) InvS.cell
  ⟨⟨rfl,by simp⟩,e0,e1,⟨_,e2,World.ownsRow_nil _ _ _ _⟩,hB4,by omega⟩
  (fun x=>{ tmps := #[.string (bs s),undef,.pointer (some ⟨w.heap.size,0,none⟩),.pointer (some ⟨w.heap.size+1,0,none⟩),.pointer (some ⟨w.heap.size+1+1,0,none⟩),.string (bs x.1.1),.bool x.1.2,.string (bs s),.bool false,.string (bs s),.func (.func 142) #[] #[.pointer (some ⟨w.heap.size+1+1+1,0,none⟩)],.string (bs x.1.1),.bool x.1.2,
   undef,undef,undef,undef,undef,undef,undef,undef,undef,undef,undef,undef,undef,undef,undef,undef,undef,undef,undef,undef],defers:=[] }) ?assign ?body ?done ?stop
 case assign =>
  intro l x W K hK
  gi_wp2
  exact hK
 case body =>
  rintro l pre ⟨⟨nm,ok⟩,hxa,hxl⟩ W hInv hlt
  obtain ⟨v,hv,hrow⟩:=hInv.row
  have hc0:=hInv.r0.cell
  have hf0:=hInv.r0.frozen
  have hc1:=hInv.r1.cell
  have hf1:=hInv.r1.frozen
  cases ok with
  |false =>
   gi_wp2
   refine ⟨trivial,?_⟩
   gi_wp2
   exact OutS.made hInv.r0 hInv.r1 hInv.below (badP_snoc hInv.good (by simp [badP]))
  |true =>
   gi_wp2
   refine ⟨trivial,fun h=>(by cases h),(CallsIn.inRound l (callsIn_wide.2 (right102 nm hxl hxa W))).mono ?_⟩
   rintro e W5 ⟨rfl,hg5⟩
   have hInv5:InvS w pre W5:=InvS.own pre W W5 none hInv hg5 (fun r e=>by cases e)
   have hK5:KeepsOthers W W5:=KeepsOthers.of_grownBy hg5 (fun j o e=>by cases e)
   clear hc0 hf0 hc1 hf1 hrow hv v
   obtain ⟨v,hv,hrow⟩:=hInv5.row
   have hc0:=hInv5.r0.cell
   have hf0:=hInv5.r0.frozen
   have hc1:=hInv5.r1.cell
   have hf1:=hInv5.r1.frozen
   have hc2:W5.cell? ⟨w.heap.size+1+1,0,none⟩=some v:=hv.cell
   have hf2:W5.frozen? ⟨w.heap.size+1+1,0,none⟩=false:=hv.frozen
   cases hnm:nameOk nm with
   |false =>
    gi_wp2
    have:=OutS.made hInv5.r0 hInv5.r1 hInv5.below (badP_snoc (x:=⟨(nm,true),hxa,hxl⟩) hInv5.good (by simp [badP,hnm]))
    exact ⟨hK5.trans this.1,this.2⟩
   |true =>
    obtain ⟨p,cap,rfl⟩:=row_shape hrow
    by_cases hl:pre.length=12
    ·have hl':((pre.length:Int)==12)=true:=by simp [hl]
     gi_wp2
     have:=OutS.made hInv5.r0 hInv5.r1 hInv5.below (badP_snoc (x:=⟨(nm,true),hxa,hxl⟩) hInv5.good (by simp [badP,hnm,hl]))
     exact ⟨hK5.trans this.1,this.2⟩
    ·have hl':((pre.length:Int)==12)=false:=by simp; omega
     gi_wp2_with (gi_at_builtin; generalize hX:wpListIn _ _ _ _ _ _ _ _=X)
     subst hX
     refine wpListIn_append_own _ rfl _ _ 26 rfl (w.heap.size+4) 9 i0 (.string ⟨#[]⟩) 1 16 Tryz.underlying26 hi hz0 hz1 hz2 rfl (by decide) _ _ _ rfl (hrow.alloc _) ⟨W5.heap.size,0,none⟩ 1 1 [encN nm] rfl rfl (cell_one_new _ _ _) (by simp [Value.oneCell']) (by have:=hInv5.good.2; simp [maxLen]; omega) (by have:=hInv5.good.2; omega) (by have:=hv.lt; simp; omega) ?_
     intro v' w1 hown' hgrow hiff
     obtain ⟨q0,q1,q2,q3,q4,q5,q6,q7,q8⟩:=appended hv hrow hown' hgrow
     have hc2':w1.cell? ⟨w.heap.size+1+1,0,none⟩=some (.slice p pre.length cap):=q0.cell
     have hf2':w1.frozen? ⟨w.heap.size+1+1,0,none⟩=false:=q0.frozen
     obtain ⟨p',cap',rfl⟩:=row_shape hown'
     gi_wp2
     refine ⟨hK5.trans q3,(q8 _ (by omega) (by have:=hInv5.sz; omega) (by omega)).trans (hg5.block _ (by have:=hInv.sz; omega) (by simp)),?_⟩
     refine ⟨goodP_snoc hInv5.good (by simp [badP,hnm,hl]),(q8 _ (by omega) hInv5.r0.lt (by omega)).trans hInv5.r0,(q8 _ (by omega) hInv5.r1.lt (by omega)).trans hInv5.r1,⟨_,q1,by simpa using q2⟩,?_,Nat.le_trans hInv5.sz q7⟩
     exact hInv5.below.trans ⟨q4,q5,q6,q7,fun q hq=>q8 q (by omega) (by have:=hInv5.below.size; omega) (by omega)⟩
 case done =>
  rintro D ys W hD hys hInv hK
  obtain ⟨v,hv,hrow⟩:=hInv.row
  have hc0:=hInv.r0.cell
  have hf0:=hInv.r0.frozen
  have hc1:=hInv.r1.cell
  have hf1:=hInv.r1.frozen
  have hc2:W.cell? ⟨w.heap.size+1+1,0,none⟩=some v:=hv.cell
  have hf2:W.frozen? ⟨w.heap.size+1+1,0,none⟩=false:=hv.frozen
  obtain ⟨p,cap,rfl⟩:=row_shape hrow
  by_cases hl:ys.length=0
  ·have hl':((ys.length:Int)==0)=true:=by simp [hl]
   have hy:ys=[]:=List.length_eq_zero_iff.1 hl
   have hsp:splitN s=([],60):=by
    rw [hy] at hys
    simp [splitN,hs47,←hys,splGo]
   gi_wp2
   have hm:=mark_cell (u := .int .i64 60) (mark_cell (u := .slice none 0 0) hK (B:=w.heap.size) (by omega)) (B:=w.heap.size+1) (by omega)
   have k0:Boxed ((W.setCell ⟨w.heap.size,0,none⟩ (.slice none 0 0)).setCell ⟨w.heap.size+1,0,none⟩ (.int .i64 60)) w.heap.size 26 (.slice none 0 0):=(hInv.r0.set _).other (by omega) _
   have k1:Boxed ((W.setCell ⟨w.heap.size,0,none⟩ (.slice none 0 0)).setCell ⟨w.heap.size+1,0,none⟩ (.int .i64 60)) (w.heap.size+1) 25 (.int .i64 60):=(hInv.r1.other (by omega) _).set _
   refine leaves_mark (run_takeDeferred hm) (results73 rfl rfl (boxed_put k0 hm) (boxed_put k1 hm)) ⟨_,rfl,World.ownsRow_nil _ _ _ _,below_put ((hInv.below.setCell (p:=⟨w.heap.size,0,none⟩) (Nat.le_refl _) _).setCell (p:=⟨w.heap.size+1,0,none⟩) (by simp) _) (by omega)⟩
  ·have hl':((ys.length:Int)==0)=false:=by rw [beq_eq_false_iff_ne]; omega
   have hsp:splitN s=(ys.map (·.1.1),0):=by
    have h0:=hInv.good.1
    rw [hys] at h0
    cases ys with
    |nil=>simp at hl
    |cons y ys=>simp [splitN,hs47,h0]
   gi_wp2
   have hm:=mark_cell (u := .int .i64 0) (mark_cell (u := .slice p ys.length cap) hK (B:=w.heap.size) (by omega)) (B:=w.heap.size+1) (by omega)
   have k0:Boxed ((W.setCell ⟨w.heap.size,0,none⟩ (.slice p ys.length cap)).setCell ⟨w.heap.size+1,0,none⟩ (.int .i64 0)) w.heap.size 26 (.slice p ys.length cap):=(hInv.r0.set _).other (by omega) _
   have k1:Boxed ((W.setCell ⟨w.heap.size,0,none⟩ (.slice p ys.length cap)).setCell ⟨w.heap.size+1,0,none⟩ (.int .i64 0)) (w.heap.size+1) 25 (.int .i64 0):=(hInv.r1.other (by omega) _).set _
   refine leaves_mark (run_takeDeferred hm) (results73 rfl rfl (boxed_put k0 hm) (boxed_put k1 hm)) ⟨_,rfl,?_,below_put ((hInv.below.setCell (p:=⟨w.heap.size,0,none⟩) (Nat.le_refl _) _).setCell (p:=⟨w.heap.size+1,0,none⟩) (by simp) _) (by omega)⟩
   have:=row_put (row_cell (row_cell hrow (by omega:w.heap.size<_) (.slice p ys.length cap)) (by omega:w.heap.size+1<_) (.int .i64 0)) (by omega:w.heap.size≤_) hm (o := .deferred none)
   simpa [Function.comp_def] using this
 case stop =>
  rintro D c pre W hD hpre hOut hK
  obtain rfl:=hOut.ret
  have hsp:splitN s=([],60):=by simp [splitN,hs47,splGo_pre hpre hOut.bad]
  gi_wp2
  refine leaves_mark (run_takeDeferred hK) (results73 rfl rfl (boxed_put hOut.r0 hK) (boxed_put hOut.r1 hK)) ⟨_,rfl,World.ownsRow_nil _ _ _ _,below_put hOut.below (by omega)⟩
theorem split73 (s:Bytes) (ha:Ascii s) (hs:s.length≤100000) (w:World) :
  Calls Tryz.prog 73 #[.string (bs s)] w fun e W'=>∃v,e = .returned (.tuple #[v,.int .i64 (splitN s).2])∧W'.ownsRow w.heap.size 9 1 v (splitN s).1.length ((splitN s).1.map encN)∧Below w.heap.size w W' :=
 callsIn_wide.1 (split_in 6 (by omega) s ha hs w)
end Go.Proofs.YtannopdcbocngaaGreatDoor
namespace Go.Proofs.YtannopdcbocngaaGreatDoor
open Go Go.Abs
instance (s:Bytes):Decidable (Ascii s):=inferInstanceAs (Decidable (∀b,b∈s→b.toNat<128))
def pSplit:List AVal→AMem→Option (AVal×AMem)
 | [.str s],M=>if Ascii s∧s.length≤100000 then some (.tuple [.slice .sh ((splitN s).1.map .str),.int .i64 (splitN s).2],M) else none
 |_,_=>none
theorem splits73 {args:List AVal} {M:AMem} {x:AVal×AMem} (h:pSplit args M=some x):SoundCall Tryz.prog 73 args M x:=by
 unfold pSplit at h
 split at h
 ·rename_i s
  split at h
  ·rename_i hs
   injection h with h; subst h
   intro j w vs hr hG hl hv
   obtain ⟨u,rfl⟩:=one_arg hl
   have h1:=(hv 0 _ u rfl rfl).str_inv
   subst h1
   refine (split73 s hs.1 hs.2 w).mono ?_
   rintro e w' ⟨v,rfl,⟨hlen,hown⟩,hb⟩
   refine ⟨_,j,rfl,hr.grow hb.size hb.os hb.tape hb.output hb.block,Ext.grow hb.size hb.os hb.tape hb.output hb.block,.tuple rfl ?_⟩
   intro i c v' hi hv'
   match i with
   |0 =>
    cases hi; cases hv'
    refine .plain ?_
    rcases hown with ⟨rfl,h0⟩|⟨g,cap,cur,rfl,hg,hg',hn1,_,hcs,htk⟩
    ·rw [List.length_eq_zero_iff.1 h0]
     exact RepP.nil _ _ _
    ·refine .slice _ _ _ _ g 0 1 (fun k=>encN ((splitN s).1.getD k [])) (by simp) (by simpa using hn1) (fun _=>rfl) ?_ ?_ ?_
     ·intro x hx
      obtain ⟨b,_,rfl⟩:=List.mem_map.1 hx
      rfl
     ·intro i x k c hx hc
      rw [List.getElem?_map] at hx
      obtain ⟨b,hb',rfl⟩:=Option.map_eq_some_iff.1 hx
      match k with
      |0 =>
       have hi:i<(splitN s).1.length:=(List.getElem?_eq_some_iff.1 hb').1
       refine ⟨?_,?_,?_,?_⟩
       ·have h1:cur.toList[i]?=some (encN b):=by
         have:(cur.toList.take ((splitN s).1.length*1))[i]?=some (encN b):=by rw [htk,List.getElem?_map,hb']; rfl
         rwa [List.getElem?_take_of_lt (by omega)] at this
        have h2:cur[i]?=some (encN b):=by simpa using h1
        have h3:(splitN s).1.getD i []=b:=by simp [List.getD,hb']
        simp only [Nat.mul_one,Nat.add_zero,Nat.zero_add]
        rw [h3]
        simp [World.cell?,hg',h2]
       ·exact lt_of_block hg'
       ·intro id hid hji
        have:=hr.lt id g hid hji; omega
       ·intro hx; have:=hr.xlt g _ hx; omega
      |k+1=>cases hc
     ·intro i x k c hx hc
      rw [List.getElem?_map] at hx
      obtain ⟨b,hb',rfl⟩:=Option.map_eq_some_iff.1 hx
      match k with
      |0 =>
       cases hc
       have h3:(splitN s).1.getD i []=b:=by simp [List.getD,hb']
       simp only [Nat.mul_one,Nat.add_zero]
       rw [h3]
       exact .str _
      |k+1=>cases hc
   |1=>cases hi; cases hv'; exact .plain (.int _ _)
   |i+2=>cases hi
  ·cases h
 ·cases h
end Go.Proofs.YtannopdcbocngaaGreatDoor
namespace Go.Proofs.YtannopdcbocngaaGreatDoor
open Go Go.Abs
def flatP (names:List Bytes):Bytes:=names.flatMap fun s=>47::s
def joinN (names:List Bytes):Bytes:=if names=[] then [47] else flatP names
theorem flatP_cons (s:Bytes) (r:List Bytes):flatP (s::r)=47::(s++flatP r):=by simp [flatP]
theorem nm_one {s:Bytes} (h:Nm s):∃b:UInt8,s=[b]∧b≠47∧b.toNat<128:=by
 rcases h with h|h|h|h|h<;>subst h<;>exact ⟨_,rfl,by decide,by decide⟩
theorem nm_good {s:Bytes} (h:Nm s):nameOk s=true:=by rcases h with h|h|h|h|h<;>subst h<;>decide
theorem endS_one {b:UInt8} (hb:b≠47):∀(r:List Bytes),endS (b::flatP r)=1
 | []=>by
  have:Lib.indexByte ([b]:Bytes) 47 = -1:=by simp [Lib.indexByte,hb]
  simp [endS,flatP,this]
 |s::r=>by
  have:Lib.indexByte (b::flatP (s::r)) 47=1:=by
   rw [flatP_cons]
   simp [Lib.indexByte,hb]
  simp [endS,this]
theorem pieces_flat:∀(names:List Bytes),(∀s,s∈names→Nm s)→piecesS (flatP names)=names.map fun s=>(s,true)
 | [],_=>rfl
 |s::r,h=>by
  obtain ⟨b,rfl,hb,_⟩:=nm_one (h s List.mem_cons_self)
  have hne:flatP ([b]::r)≠[]:=by rw [flatP_cons]; simp
  rw [piecesS_cons hne]
  have hc:cutS (flatP ([b]::r))=(b::flatP r,true):=by rw [flatP_cons]; simp [cutS]
  have h1:pieceS (flatP ([b]::r))=([b],true):=by simp [pieceS,hc,endS_one hb]
  have h2:restS (flatP ([b]::r))=flatP r:=by simp [restS,hc,endS_one hb]
  rw [h1,h2,pieces_flat r (fun s hs=>h s (List.mem_cons_of_mem _ hs))]
  rfl
theorem splGo_good:∀(names:List Bytes) (n:Nat),(∀s,s∈names→Nm s)→n+names.length≤12→splGo (names.map fun s=>(s,true)) n=some names
 | [],_,_,_=>rfl
 |s::r,n,h,hl=>by
  have hb:badP (s,true) n=false:=by
   simp only [List.length_cons] at hl
   simp [badP,nm_good (h s List.mem_cons_self)]; omega
  simp only [List.map_cons,splGo,hb,Bool.false_eq_true,↓reduceIte]
  rw [splGo_good r (n+1) (fun s hs=>h s (List.mem_cons_of_mem _ hs)) (by simp only [List.length_cons] at hl; omega)]
  rfl
theorem split_join (names:List Bytes) (h:∀s,s∈names→Nm s) (hl:names.length≤12):splitN (joinN names)=(names,0):=by
 cases names with
 |nil=>rfl
 |cons s r =>
  have hj:joinN (s::r)=flatP (s::r):=by simp [joinN]
  have hne:flatP (s::r)≠[47]:=by
   obtain ⟨b,rfl,_,_⟩:=nm_one (h s List.mem_cons_self)
   rw [flatP_cons]; simp
  unfold splitN
  rw [hj,if_neg hne,pieces_flat _ h,splGo_good _ 0 h (by omega)]
theorem flatP_ascii:∀(names:List Bytes),(∀s,s∈names→Nm s)→Ascii (flatP names)∧(flatP names).length=2*names.length
 | [],_=>⟨fun b hb=>(by cases hb),rfl⟩
 |s::r,h=>by
  obtain ⟨b,rfl,_,hb⟩:=nm_one (h s List.mem_cons_self)
  obtain ⟨h1,h2⟩:=flatP_ascii r (fun s hs=>h s (List.mem_cons_of_mem _ hs))
  rw [flatP_cons]
  refine ⟨fun c hc=>?_,by simp [h2]; omega⟩
  simp at hc
  rcases hc with rfl|rfl|hc
  ·decide
  ·exact hb
  ·exact h1 c hc
def walkTo (nodes:List Node):Int→List Bytes→Option Int
 |i,[]=>some i
 |i,s::r=>if (lookN nodes i s).2=0 then walkTo nodes (lookN nodes i s).1 r else none
theorem walkTo_app (nodes:List Node):∀(a b:List Bytes) (i:Int),walkTo nodes i (a++b)=(walkTo nodes i a).bind fun j=>walkTo nodes j b
 | [],_,_=>rfl
 |s::a,b,i=>by
  simp only [List.cons_append,walkTo]
  split
  ·exact walkTo_app nodes a b _
  ·rfl
section
variable {t:Tree} {dep:Int→Nat}
end
end Go.Proofs.YtannopdcbocngaaGreatDoor
namespace Go.Proofs.YtannopdcbocngaaGreatDoor
open Go Go.Abs
theorem look_of {nodes:List Node} {dir:Int} {s:Bytes} {d:Node} (hd:find nodes dir=some d) (hk:d.kind=2) (hs:nameOk s=true):lookN nodes dir s=match findE d.ents s with
  |none=>(0,70)
  |some e=>(e.ino,0):=by
 have:dirN nodes dir=(d,0):=by simp [dirN,hd,hk]
 simp only [lookN,this,hs]
 cases findE d.ents s<;>simp
theorem findE_iff {l:List Ent} (h:AscE l) {s:Bytes} {e:Ent}:findE l s=some e↔e∈l∧e.name=s:=by
 refine ⟨findE_mem,fun ⟨h1,h2⟩=>?_⟩
 cases hf:findE l s with
 |none =>
  have:=List.find?_eq_none.1 hf e h1
  simp [h2] at this
 |some x =>
  obtain ⟨x1,x2⟩:=findE_mem hf
  obtain ⟨i,hi⟩:=List.getElem?_of_mem h1
  obtain ⟨k,hk⟩:=List.getElem?_of_mem x1
  have hil:=(List.getElem?_eq_some_iff.1 hi).1
  have hkl:=(List.getElem?_eq_some_iff.1 hk).1
  have e1:l[i]=e:=by rw [List.getElem?_eq_getElem hil] at hi; injection hi
  have e2:l[k]=x:=by rw [List.getElem?_eq_getElem hkl] at hk; injection hk
  rcases Nat.lt_trichotomy i k with hlt|heq|hgt
  ·have:=List.pairwise_iff_getElem.1 h _ _ hil hkl hlt
   rw [e1,e2,h2,x2,strLt_irrefl] at this; cases this
  ·subst heq; rw [←e1,←e2]
  ·have:=List.pairwise_iff_getElem.1 h _ _ hkl hil hgt
   rw [e1,e2,h2,x2,strLt_irrefl] at this; cases this
theorem flatP_snoc (a:List Bytes) (s:Bytes):flatP (a++[s])=flatP a++[47]++s:=by simp [flatP]
structure LinOk (t:Tree) (names:List Bytes) (x:Lin):Prop where
 path:x.1=escN (flatP names)
 ne:names≠[]
 len:names.length≤12
 nm:∀s,s∈names→Nm s
 walk:walkTo t.nodes 1 names=some x.2.ino
 node:find t.nodes x.2.ino=some x.2
theorem GInv.belowL_ok {t:Tree} {dep:Int→Nat} (h:GInv t dep 0):∀(f:Nat) (i:Int) (n:Node) (names:List Bytes),find t.nodes i=some n→n.kind=2→dep i+f=12→names.length+f=12 →
  (∀s,s∈names→Nm s)→walkTo t.nodes 1 names=some i→∀x,x∈belowL t.nodes f i (flatP names)→∃ns,LinOk t ns x
 |0,_,_,_,_,_,_,_,_,_,x,hx=>by cases hx
 |f+1,i,n,names,hf,hk,hd,hl,hnm,hw,x,hx=>by
  rw [belowL,nodeN_some hf] at hx
  obtain ⟨e,he,hx⟩:=List.mem_flatMap.1 hx
  obtain ⟨_,_,he1,hen,m,hm,hup⟩:=h.ent i n e hf he
  have hi:=h.ino hm
  have hnm':∀s,s∈names++[e.name]→Nm s:=fun s hs=>by
   rcases List.mem_append.1 hs with hs|hs
   ·exact hnm s hs
   ·simp only [List.mem_singleton] at hs; subst hs; exact hen
  have hw':walkTo t.nodes 1 (names++[e.name])=some e.ino:=by
   rw [walkTo_app,hw]
   simp only [Option.bind_some,walkTo]
   rw [look_of hf hk (nm_good hen),(findE_iff (h.srt.ents n (find_mem hf).1)).2 ⟨he,rfl⟩]
   simp
  unfold entL at hx
  rw [nodeN_some hm,hi,←flatP_snoc] at hx
  rcases List.mem_cons.1 hx with rfl|hx
  ·exact ⟨names++[e.name],rfl,by simp,by simp; omega,hnm',by rw [hw']; exact congrArg some hi.symm,by show find t.nodes m.ino=some m; rw [hi]; exact hm⟩
  ·split at hx
   ·rename_i hk2
    have hdd:=(h.deps e.ino m hm hk2 he1).1
    rw [hup hk2] at hdd
    exact GInv.belowL_ok h f e.ino m (names++[e.name]) hm hk2 (by omega) (by simp; omega) hnm' hw' x hx
   ·cases hx
end Go.Proofs.YtannopdcbocngaaGreatDoor
