import Derived.RangeFuncBox
import Derived.RangeFuncFrom
import Derived.RangeFuncLeaves
import Derived.Shelf.Abstract
import Derived.WalkKit
import Derived.OwnWalkIn
import Derived.TacticsInMore
import Derived.LoopNIn
import Derived.LoopIn
import Derived.Maps.AppendAt
import Derived.RangeFuncNested
import Derived.Test.YtahkjijkflobhaaGreatDoorFsbC
set_option linter.unusedSimpArgs false
set_option linter.unusedVariables false
set_option linter.unusedSectionVars false
set_option linter.defProp false
namespace Go.Proofs.YtahkjijkflobhaaGreatDoor
open Go Go.Abs
section
attribute [local irreducible] cJ cE gD gK bG kr ai ak aV aF
def fU (_:Bytes):Prop:=True
def all_true {m:Bytes} (h:∀b,b∈m->128<=b.toNat):m.all nc=true:=by
 rw [List.all_eq_true]
 intro b hb
 have:=h b hb
 have h1:¬((b.toNat:Int)<32):=by omega
 have h2:¬((b.toNat:Int)=47):=by omega
 simp [nc,h1,h2]
def N4 {s:Bytes} (hs:s.length<=100000) (ha:fU s) {k:List K} {R:Bool->Option (ae×ag)}
  (hx:∀e p,kr (ai aQ) [.tmp 2] 0 k ⟨.exit 0,e,[.fB s p]⟩=R true) (hr:∀p,kr (ai aQ) [.tmp 2] 0 k ⟨.ret,[(2,.bool false)],[.fB s p]⟩=R false) :
  ∀(q:Nat) (l pre:Bytes),l.length<=q->s=pre++l->cJ (ai aQ) [.tmp 2] 0 k (.loop [21] DJ) [(21,.dp 0)] [.fB s pre.length]=R (l.all nc):=by
 intro q
 induction q with
 |zero =>
  intro l pre hq h
  have h0:l=[]:=List.eq_nil_of_length_eq_zero (by omega)
  subst h0
  rw [aB]
  have hlt:(pre.length<s.length)=False:=by rw [h]; simp
  simp only [nC,hlt,EN,simprocAttr]
  exact hx _ _
 |succ q ih =>
  intro l pre hq h
  cases l with
  |nil =>
   rw [aB]
   have hlt:(pre.length<s.length)=False:=by rw [h]; simp
   simp only [nC,hlt,EN,simprocAttr]
   exact hx _ _
  |cons n r =>
   rw [aB]
   have hlt:(pre.length<s.length)=True:=by rw [h]; simp
   rcases Dm h with ⟨hn,hd⟩|⟨c,m,r',hm,hne,hb,hc,hc2,hd⟩
   ·have hi:=ih r (pre++[n]) (by simp at hq; omega) (by rw [h]; simp)
    simp only [List.length_append,List.length_cons,List.length_nil,Nat.zero_add] at hi
    simp only [nC,hlt,hd,EN,simprocAttr]
    repeat' ((first|refine aC (fun hb=>?_) (fun hb=>?_)|refine bc (fun hb=>?_) (fun hb=>?_)|refine bZ (fun hb=>?_) (fun hb=>?_))<;>simp only [hb,nC,hd,EV,simprocAttr])
    all_goals first
     |(refine (hr _).trans ?_; congr 1; symm; clear hi ih hx hr hd h; simp_all [nc]; done)
     |(refine hi.trans ?_; congr 1; symm; clear hi ih hx hr hd h; simp_all [nc]; done)
   ·have hml:0<m.length:=List.length_pos_iff.2 hne
    have hl2:(n::r).length=m.length+r'.length:=by rw [hm]; simp
    have hi:=ih r' (pre++m) (by simp at hq hl2; omega) (by rw [h,hm]; simp)
    simp only [List.length_append] at hi
    have h32:decide ((c:Int)<32)=false:=by simp; omega
    have h47:((c:Int)==47)=false:=by rw [beq_eq_false_iff_ne]; omega
    rw [hm,List.all_append,all_true hb,Bool.true_and]
    simp only [nC,hlt,hd,h32,h47,EN,simprocAttr]
    exact hi
def aby (s:Bytes) (hs:s.length<=100000) (ha:fU s):ai aQ 207 [.str s] []=some (.bool (cD s),[]):=by
 refine aq ?_
 simp only [wS,nC,EN,simprocAttr]
 have hl:=fun k hx hr=>N4 (k:=k) (R:=fun b=>some (ae.bool b,[])) hs ha hx hr s.length s [] (Nat.le_refl _) rfl
 have he:(s==[])=decide ((s.length:Int)<1):=by cases s<;>simp; omega
 rw [he]
 repeat' ((first|refine aC (fun hb=>?_) (fun hb=>?_)|refine bc (fun hb=>?_) (fun hb=>?_)|refine bZ (fun hb=>?_) (fun hb=>?_))<;>simp only [hb,EN,nC,simprocAttr])
 all_goals first
  |(clear hl he; simp_all [cD]; done)
  |(refine (hl _ (fun e p=>by simp only [nC,EN,simprocAttr]) (fun p=>by simp only [nC,EN,simprocAttr])).trans ?_; clear hl he; simp_all [cD]; done)
def RE (s:Bytes) (hs:s.length<=100000) (ha:fU s) (M:ag):ak (ai aQ) 207 [.str s] M=some (.bool (cD s),M):=cO (aby s hs ha) M
def ac1 (a b:Bytes) (M:ag):ak (ai aQ) 295 [.str a,.str b] M=some (.int .i64 (Lib.compareBytes a b),M) :=
 cO (bz (g:=rr) rfl rfl) M
def ab0 (a b:Bytes):ai aQ 263 [.str a,.str b] []=some (.int .i64 (Lib.compareBytes a b),[]):=by
 refine aq ?_
 simp only [Ig,aaq,ac1,EN,simprocAttr]
def acW (a b:Bytes) (M:ag):ak (ai aQ) 263 [.str a,.str b] M=some (.int .i64 (Lib.compareBytes a b),M):=cO (ab0 a b) M
def Dk:∀(a b:Bytes),(Lib.compareBytes a b<0)=(strLt a b=true)
 | [],[]=>by simp [Lib.compareBytes,strLt]
 | [],_::_=>by simp [Lib.compareBytes,strLt]
 |_::_,[]=>by simp [Lib.compareBytes,strLt]
 |a::x,b::y=>by
  rw [Lib.compareBytes,strLt]
  by_cases h1:a<b
  ·simp [h1]
  ·by_cases h2:b<a
   ·have h3:¬a=b:=by rintro rfl; exact UInt8.lt_irrefl _ h2
    simp [h1,h2,h3]
   ·have h3:a=b:=by rw [<-UInt8.toNat_inj]; simp only [UInt8.lt_iff_toNat_lt] at h1 h2; omega
    subst h3
    simp [h1,Dk x y]
def Dj:∀(a b:Bytes),(Lib.compareBytes a b==0)=(a==b)
 | [],[]=>by simp [Lib.compareBytes]
 | [],_::_=>by simp [Lib.compareBytes]
 |_::_,[]=>by simp [Lib.compareBytes]
 |a::x,b::y=>by
  rw [Lib.compareBytes]
  by_cases h1:a<b
  ·have h3:¬a=b:=by rintro rfl; exact UInt8.lt_irrefl _ h1
   simp [h1,h3]
  ·by_cases h2:b<a
   ·have h3:¬a=b:=by rintro rfl; exact UInt8.lt_irrefl _ h2
    simp [h1,h2,h3]
   ·have h3:a=b:=by rw [<-UInt8.toNat_inj]; simp only [UInt8.lt_iff_toNat_lt] at h1 h2; omega
    subst h3
    simp only [h1,if_false,Dj x y]
    simp
def abZ (e:b9) (s:Bytes):ai aQ 262 [cQ e,.str s] []=some (.int .i64 (Lib.compareBytes e.name s),[]):=by
 refine aq ?_
 simp only [Ie,aap,cQ,cI,acW,EN,simprocAttr]
def Xg (e:b9) (s:Bytes) (M:ag):ak (ai aQ) 262 [.agg (cI e),.str s] M=some (.int .i64 (Lib.compareBytes e.name s),M):=cO (abZ e s) M
structure ze (av:List b9) (s:Bytes) (b:Nat):Prop where
 le:b<=av.length
 lt:∀h n,av[h]?=some n->(strLt n.name s=true↔h<b)
def Og {av:List b9} {s:Bytes} {b:Nat} (hb:ze av s b) (hn:av.length<=100000) {k:List K} {r:Option (ae×ag)}
  (hx:∀v q,kr (ai aQ) [.tmp 6,.tmp 7] 0 k ⟨.exit 0,[(0,fa av),(1,.str s),(2,.func 262 []),(8,.int .i64 av.length),(9,.int .i64 b),(10,v),(17,q)],[]⟩=r) :
  ∀(f i j:Nat),j-i<=f->i<=b->b<=j->j<=av.length->cJ (ai aQ) [.tmp 6,.tmp 7] 0 k (.loop [0,1,2,8,9,10] NL) [(0,fa av),(1,.str s),(2,.func 262 []),(8,.int .i64 av.length),(9,.int .i64 i),(10,.int .i64 j)] []=r:=by
 intro f
 induction f with
 |zero =>
  intro i j h1 h2 h3 h4
  obtain rfl:i=b:=by omega
  rw [aB]
  have hlt:((i:Int)<(j:Int))=False:=by simp; omega
  simp only [zc,hlt,EN,simprocAttr]
  exact hx _ _
 |succ f ih =>
  intro i j h1 h2 h3 h4
  rw [aB]
  by_cases hij:i<j
  ·have hlt:((i:Int)<(j:Int))=True:=by simp; omega
   obtain ⟨m1,m2,m3,m4,m5⟩:=vz i j (by omega) (by omega)
   have hmid:(i+j) / 2<av.length:=by omega
   have hx:=List.getElem?_eq_getElem hmid
   have hl:=hb.lt _ _ hx
   simp only [zc,hlt,m1,m2,m3,m4,hx,Xg,Dk,TS,TK,EN,simprocAttr]
   refine aC (fun hq=>?_) (fun hq=>?_)
   ·have hq:strLt av[(i+j) / 2].name s=true:=by simpa using hq
    simp only [zc,m5,EN,simprocAttr]
    exact ih ((i+j) / 2+1) j (by omega) (hl.1 hq) h3 h4
   ·have hq:¬strLt av[(i+j) / 2].name s=true:=by simpa using hq
    simp only [zc,EN,simprocAttr]
    exact ih i ((i+j) / 2) (by omega) h2 (Nat.not_lt.1 fun h=>hq (hl.2 h)) (by omega)
  ·obtain rfl:i=b:=by omega
   have hlt:((i:Int)<(j:Int))=False:=by simp; omega
   simp only [zc,hlt,EN,simprocAttr]
   exact hx _ _
def rm (av:List b9) (s:Bytes) (b:Nat):Bool:=match av[b]? with
 |some n=>n.name==s
 |none=>false
def abY (av:List b9) (s:Bytes) (b:Nat) (hb:ze av s b) (hn:av.length<=100000):ai aQ 261 [fa av,.str s,.func 262 []] []=some (.tuple [.int .i64 b,.bool (rm av s b)],[]):=by
 refine aq ?_
 simp only [Ic,zc,EN,simprocAttr]
 refine Og hb hn (fun v q=>?_) av.length 0 av.length (by omega) (by omega) hb.le (by omega)
 unfold rm
 by_cases hlt:b<av.length
 ·have hx:=List.getElem?_eq_getElem hlt
  have h1:((b:Int)<(av.length:Int))=True:=by simp; omega
  simp only [zc,hx,h1,Xg,Dj,TS,TK,EN,simprocAttr]
 ·have hx:av[b]?=none:=List.getElem?_eq_none (by omega)
  have h1:((b:Int)<(av.length:Int))=False:=by simp; omega
  simp only [zc,hx,h1,EN,simprocAttr]
def acV (av:List b9) (s:Bytes) (b:Nat) (hb:ze av s b) (hn:av.length<=100000) (M:ag):ak (ai aQ) 261 [fa av,.str s,.func 262 []] M=some (.tuple [.int .i64 b,.bool (rm av s b)],M) :=
 cO (abY av s b hb hn) M
def iJ (l:List b9):Prop:=l.Pairwise fun a b=>strLt a.name b.name=true
def eR (l:List b9) (s:Bytes):Nat:=(l.takeWhile fun n=>strLt n.name s).length
def abz (n:Node) (s:Bytes) (b:Nat) (hb:ze n.av s b) (hn:n.av.length<=100000):ai aQ 208 [aX n,.str s] []=some (.tuple [.int .i64 b,.bool (rm n.av s b)],[]):=by
 refine aq ?_
 have hk:=acV n.av s b hb hn
 simp only [HN,aad,aX,aw,hk,EN,simprocAttr]
def IV (a b c:Int) (d:Bytes) (e:List b9) (u:Int) (s:Bytes) (i:Nat) (hb:ze e s i) (hn:e.length<=100000) (M:ag):ak (ai aQ) 208 [.agg [.int .i64 a,.int .i64 b,.int .i64 c,dg d,fa e,.int .i64 u],.str s] M=some (.tuple [.int .i64 i,.bool (rm e s i)],M) :=
 cO (abz ⟨a,b,c,d,e,u⟩ s i hb hn) M
end
end Go.Proofs.YtahkjijkflobhaaGreatDoor
namespace Go.Proofs.YtahkjijkflobhaaGreatDoor
section
open Go Go.Abs Go.RowKit Go.Shelf
def wB {α:Type} (b0:Nat) (F:Fence) (n:Nat) (P:Program) (g:Nat) (lb:Array Value) (encs:α->Array Value) (Kp:World->World->Prop) (S Sp:List α->Prop) (N:Nat) (w:World):Prop :=
 ∀(l:Nat) (J Jx:List α->World->Prop) (W:World),Below w.heap.size w W->AbidesFrom W.heap.size J->AbidesFrom W.heap.size Jx->(∀s A v,J s A->J s (A.setCell ⟨b0,0,none⟩ v)) ->
  (∀pre x W1,J pre W1->pre.length<N->YieldAt F (n-1) P l (encs x) W1 fun e W' =>
   (e = .returned (.bool true)/\J (pre++[x]) W'/\Kp W1 W')\/(e = .returned (.bool false)/\Jx (pre++[x]) W')) ->
  J [] W ->
  CallsIn F n P g (#[.func (.yield l) #[] #[]]++lb) W fun e W'=>(∃v,e = .returned v)/\((∃xs,S xs/\J xs W')\/(∃pre,Sp pre/\Jx pre W'))
def px {F:Fence} {n:Nat} {P:Program} {b0:Nat} {α:Type} {g:Operand} {ps:Array Tmp} {assign body:Code} {Q:Exit->Act->World->Prop} {a:Act} {w:World} (hb0w:b0<w.heap.size)
  (hro:F.round=none) (h1:1<=n) {gf:Nat} {lb:Array Value} (hg:a.eval g = .func (.func gf) #[] lb) (hFg:F.fn gf) (eg:∀args w,(callFunc gf args).run P w = .ok (.enter gf args) w)
  {encs:α->Array Value} {Kp:World->World->Prop} {S Sp:List α->Prop} {N:Nat} {w0:World} (hseq:wB b0 F (n-1) P gf lb encs Kp S Sp N w0)
  (hKt:∀ {A B C:World},Kp A B->Kp B C->Kp A C) (hKb:∀(W:World) (l:Nat) (o o':Obj),w.heap.size<=l->W.heap[l]?=some o->o.isCells=false->o.isWalk=false->Kp W (W.putObj l o')) (hb0:Below w0.heap.size w0 w) (hps:∀x,(encs x).size=ps.size)
  (I:List α->World->Prop) (Ix:Code->List α->World->Prop) (hI:OwnFrom w.heap.size I) (hIx:∀c,OwnFrom w.heap.size (Ix c)) (hIc:∀s A v,I s A->I s (A.setCell ⟨b0,0,none⟩ v)) (h0:I [] w) (a₁:α->Act)
  (hassign:∀(l:Nat) (x:α) (W:World) (K:Act->World->Prop),K (a₁ x) W ->
   assign.wpIn (F.inRound l) (n-1-1) P (Exit.then K (fun _ _ _=>False)) { tmps:=(ps.zip (encs x)).foldl (fun t (p,v)=>t.setIfInBounds p v) a.tmps,defers:=[] } W)
  (hbody:∀(l:Nat) (pre:List α) (x:α) (W:World),I pre W->pre.length<N->body.wpIn (F.inRound l) (n-1-1) P (ownPostK Kp I Ix (pre++[x]) W) (a₁ x) W)
  (hdone:∀(D:Nat) (xs:List α) (W:World),w.heap.size<=D->S xs->I xs W->W.heap[D]?=some (.deferred (some []))->Q .normal { a with defers:={ target := .collected D,args := #[] }::a.defers } W)
  (hstop:∀(D:Nat) (c:Code) (pre:List α) (W:World),w.heap.size<=D->Sp pre->Ix c pre W->W.heap[D]?=some (.deferred (some []))->c.wpIn F n P Q { a with defers:={ target := .collected D,args := #[] }::a.defers } W) :
  (Code.rangeFunc g ps assign body).wpIn F n P Q a w:=by
 refine wpIn_rangeFunc ?_
 intro fn hfn
 rw [hro]
 obtain ⟨rec,hrec⟩:∃rec:LoopState->Option Code->Loop,rec=fun st pe=>{ state:=st,pending:=pe,fn,tmps:=a.tmps,params:=ps,assign,body,defers:=w.heap.size }:=⟨_,rfl⟩
 obtain ⟨W1,hW1⟩:∃W1,(w.alloc (.deferred (some []))).alloc (.loop (rec .ready none))=W1:=⟨_,rfl⟩
 have hL1:W1.heap[w.heap.size+1]?=some (.loop (rec .ready none)):=by
  rw [<-hW1]; have:=World.alloc_heap_new (w.alloc (.deferred (some []))) (.loop (rec .ready none)); rwa [World.size_alloc] at this
 have hK1:W1.heap[w.heap.size]?=some (.deferred (some [])):=by
  rw [<-hW1]; exact (Below.heap_alloc _ _ _ (by simp)).trans (World.alloc_heap_new w _)
 have hI1:I [] W1:=by rw [<-hW1]; exact hI.alloc _ (hI.alloc _ h0)
 have hb1:Below w0.heap.size w0 W1:=by
  rw [<-hW1]; exact hb0.trans ((((Below.refl _ w).alloc (Nat.le_refl _) _).alloc (by simp) _).mono hb0.size)
 refine ⟨w.heap.size+1,[{ target := .collected w.heap.size,args := #[] }],W1,{ target := .fn (.func gf) lb,args := #[.func (.yield (w.heap.size+1)) #[] #[]] },W1,gf,
  #[.func (.yield (w.heap.size+1)) #[] #[]]++lb,W1,?_,?_,?_,?_,fun _=>h1,?_⟩
 ·rw [<-hW1,hrec]; exact run_enterLoop_outer _ _ _ _ _
 ·simp only [resolve,hg]
  simp [go_sem]
 ·intro f' hf'; simp [Target.leads] at hf'; subst hf'; exact hFg
 ·simp [invoke,go_sem,eg]
 ·have hnw:∀ {A B:World} {row:Option Nat},(∀r,row=some r->W1.heap.size<=r/\∃o:Obj,A.heap[r]?=some o/\o.isWalk=true)->(∀r,row=some r->w.heap.size<=r/\∃o:Obj,A.heap[r]?=some o/\o.isCells=false) :=
   fun hr r e=>by obtain ⟨hB,o,ho,hw⟩:=hr r e; exact ⟨by rw [<-hW1] at hB; simp at hB; omega,o,ho,Obj.not_cells_of_walk hw⟩
  refine (hseq (w.heap.size+1)
   (fun pre W=>I pre W/\W.heap[w.heap.size+1]?=some (.loop (rec .ready none))/\W.heap[w.heap.size]?=some (.deferred (some [])))
   (fun pre W=>∃c,Ix c pre W/\W.heap[w.heap.size+1]?=some (.loop (rec .done (some c)))/\W.heap[w.heap.size]?=some (.deferred (some [])))
   W1 hb1
   (fun s A B row hs hg' hr=>⟨hI s A B row hs.1 hg' (hnw (B:=B) hr),(grownBy_keeps hg' (fun r e=>(hr r e).2) hs.2.1 rfl).trans hs.2.1,(grownBy_keeps hg' (fun r e=>(hr r e).2) hs.2.2 rfl).trans hs.2.2⟩)
   (fun s A B row hs hg' hr=>by
    obtain ⟨c,hc,hl,hk⟩:=hs
    exact ⟨c,hIx c s A B row hc hg' (hnw (B:=B) hr),(grownBy_keeps hg' (fun r e=>(hr r e).2) hl rfl).trans hl,(grownBy_keeps hg' (fun r e=>(hr r e).2) hk rfl).trans hk⟩)
   (fun s A v hs=>⟨hIc s A v hs.1,(Below.heap_setCell _ _ _ _ (by show _≠b0; omega)).trans hs.2.1,(Below.heap_setCell _ _ _ _ (by show _≠b0; omega)).trans hs.2.2⟩)
   ?_ ⟨hI1,hL1,hK1⟩).mono ?_
  ·rintro pre x W ⟨hi,hl,hk⟩ hlen
   have hlt:w.heap.size+1<W.heap.size:=(Array.getElem?_eq_some_iff.1 hl).1
   have hy:=run_yield (P:=P) (args:=encs x) hl (by rw [hrec]; exact hps x)
   rw [hrec] at hy
   refine ⟨fn,_,assign,body,hy,roundIn_of_wpIn hfn (hassign _ x W _ ⟨_,run_beginRound hl (by rw [hrec]),?_⟩)⟩
   have hl2:(W.putObj (w.heap.size+1) (.loop { rec .ready none with state := .busy })).heap[w.heap.size+1]?=some (.loop { rec .ready none with state := .busy }):=World.putObj_heap_same hlt
   have hk2:(W.putObj (w.heap.size+1) (.loop { rec .ready none with state := .busy })).heap[w.heap.size]?=some (.deferred (some [])):=(World.putObj_heap_other (by omega)).trans hk
   have hw2:Kp W (W.putObj (w.heap.size+1) (.loop { rec .ready none with state := .busy })):=hKb _ _ _ _ (by omega) hl rfl rfl
   refine wpIn_mono (hbody _ pre x _ (hI.putObj _ hi (by omega) hl rfl) hlen) ?_
   have fin:∀(jump:Option Code) (W3:World),KeepsOthers (W.putObj (w.heap.size+1) (.loop { rec .ready none with state := .busy })) W3 ->
     (Instr.endRound (w.heap.size+1) jump).run P W3 = .ok (.bool jump.isNone) (W3.putObj (w.heap.size+1) (.loop (rec (if jump.isNone then .ready else .done) jump))) /\
     W3.heap[w.heap.size+1]?=some (.loop { rec .ready none with state := .busy }) /\
     (W3.putObj (w.heap.size+1) (.loop (rec (if jump.isNone then .ready else .done) jump))).heap[w.heap.size+1]?=some (.loop (rec (if jump.isNone then .ready else .done) jump)) /\
     (W3.putObj (w.heap.size+1) (.loop (rec (if jump.isNone then .ready else .done) jump))).heap[w.heap.size]?=some (.deferred (some [])):=fun jump W3 hk3=>by
    have hl3:=hk3.same _ _ hl2 rfl
    have:=run_endRound (P:=P) jump hl3
    rw [hrec] at this ⊢
    exact ⟨this,by rw [hrec] at hl3; exact hl3,World.putObj_heap_same (Array.getElem?_eq_some_iff.1 hl3).1,(World.putObj_heap_other (by omega)).trans (hk3.same _ _ hk2 rfl)⟩
   rintro e a3 W3 hp
   cases e with
   |normal =>
    obtain ⟨hk3,hkp3,hi3⟩:=hp
    obtain ⟨hr,hl3,hl4,hk4⟩:=fin none W3 hk3
    exact ⟨_,_,hr,.inl ⟨rfl,⟨hI.putObj _ hi3 (by omega) hl3 rfl,hl4,hk4⟩,hKt (hKt hw2 hkp3) (hKb _ _ _ _ (by omega) hl3 rfl rfl)⟩⟩
   |ret =>
    obtain ⟨hk3,hi3⟩:=hp
    obtain ⟨hr,hl3,hl4,hk4⟩:=fin (some .ret) W3 hk3
    exact ⟨_,_,hr,.inr ⟨rfl,.ret,(hIx _).putObj _ hi3 (by omega) hl3 rfl,hl4,hk4⟩⟩
   |exit id =>
    obtain ⟨hk3,hi3⟩:=hp
    obtain ⟨hr,hl3,hl4,hk4⟩:=fin (some (.exit id)) W3 hk3
    exact ⟨_,_,hr,.inr ⟨rfl,.exit id,(hIx _).putObj _ hi3 (by omega) hl3 rfl,hl4,hk4⟩⟩
   |goto t =>
    obtain ⟨hk3,hi3⟩:=hp
    obtain ⟨hr,hl3,hl4,hk4⟩:=fin (some (.goto t)) W3 hk3
    exact ⟨_,_,hr,.inr ⟨rfl,.goto t,(hIx _).putObj _ hi3 (by omega) hl3 rfl,hl4,hk4⟩⟩
   |panic ch=>exact hp.elim
   |outgrown=>exact hp.elim
  ·rintro e W2 ⟨⟨v,rfl⟩,(⟨xs,hS,hi,hl,hk⟩|⟨pre,hSp,c,hi,hl,hk⟩)⟩
   ·exact ⟨none,_,by have:=run_endLoop (P:=P) hl (by rw [hrec]; simp); rw [hrec] at this; exact this,hdone _ xs _ (Nat.le_refl _) hS (hI.putObj _ hi (by omega) hl rfl) ((World.putObj_heap_other (by omega)).trans hk)⟩
   ·exact ⟨some c,_,by have:=run_endLoop (P:=P) hl (by rw [hrec]; simp); rw [hrec] at this; exact this,hstop _ c pre _ (Nat.le_refl _) hSp ((hIx c).putObj _ hi (by omega) hl rfl) ((World.putObj_heap_other (by omega)).trans hk)⟩
def DC:J:=⟨fun _=>none,fun _ _=>False⟩
def LH (w:World):Rel DC [] w where
 inj:=fun _ _ _ h=>by cases h
 lt:=fun _ _ h=>by cases h
 fix:=fun _ _ h=>by cases h
 tick:=fun _ _ _ _ h=>by cases h
 arr:=fun _ _ _ _ h=>by cases h
 lY:=fun _ _ h=>by cases h
 qo:=fun _ _ h=>h.elim
@[reducible] def G0:dQ:={ g:=fun _=>none }
def SS:@jv G0 Tryz.prog (wC [] Tryz.f207) Tryz.f207=some wS:=by kernel_rfl
def SU:@jv G0 Tryz.prog (wC [] Tryz.f273) Tryz.f273=some Ac:=by kernel_rfl
def SV:@jv G0 Tryz.prog (wC [] Tryz.f307) Tryz.f307=some Ad:=by kernel_rfl
def SX:@jv G0 Tryz.prog (wC [] Tryz.f325) Tryz.f325=some wT:=by kernel_rfl
def yF {α:Type} {x:α} {P:Prop} (h:(none:Option α)=some x):P:=by cases h
def WD (w:World):@j4 G0 DC [] w:=@j4.mk G0 _ _ _ (fun b vs k v h=>yF (show (none:Option (List Value))=some vs from h)) (fun b vs h=>yF (show (none:Option (List Value))=some vs from h)) (fun b p h=>yF (show (none:Option (Value->Prop))=some p from h))
def Pm:Nat->Option cf
 |207=>some wS
 |273=>some Ac
 |307=>some Ad
 |325=>some wT
 |_=>none
noncomputable def sY:qm:=⟨Pm,fun _=>none⟩
def OV:@nL G0 Tryz.prog sY:=by
 refine @nL.mk G0 _ _ (fun f fn h=>?_) (fun f g h=>by cases h)
 simp only [sY] at h
 unfold Pm at h
 split at h
 ·injection h with h; subst h; exact ⟨_,_,Tryz.func207,SS⟩
 ·injection h with h; subst h; exact ⟨_,_,Tryz.func273,SU⟩
 ·injection h with h; subst h; exact ⟨_,_,Tryz.func307,SV⟩
 ·injection h with h; subst h; exact ⟨_,_,Tryz.func325,SX⟩
 ·cases h
def TL:@hU G0 Tryz.prog (ai sY):=@lq G0 _ (by kernel_rfl) _ OV
section
attribute [local irreducible] cJ cE gD gK bG kr ai ak aV aF
def KH {s:Bytes} (hs:s.length<=100000) (ha:fU s) {k:List K} {R:Bool->Option (ae×ag)}
  (hx:∀e p,kr (ai sY) [.tmp 2] 0 k ⟨.exit 0,e,[.fB s p]⟩=R true) (hr:∀p,kr (ai sY) [.tmp 2] 0 k ⟨.ret,[(2,.bool false)],[.fB s p]⟩=R false) :
  ∀(q:Nat) (l pre:Bytes),l.length<=q->s=pre++l->cJ (ai sY) [.tmp 2] 0 k (.loop [21] DJ) [(21,.dp 0)] [.fB s pre.length]=R (l.all nc):=by
 intro q
 induction q with
 |zero =>
  intro l pre hq h
  have h0:l=[]:=List.eq_nil_of_length_eq_zero (by omega)
  subst h0
  rw [aB]
  have hlt:(pre.length<s.length)=False:=by rw [h]; simp
  simp only [nC,hlt,EN,simprocAttr]
  exact hx _ _
 |succ q ih =>
  intro l pre hq h
  cases l with
  |nil =>
   rw [aB]
   have hlt:(pre.length<s.length)=False:=by rw [h]; simp
   simp only [nC,hlt,EN,simprocAttr]
   exact hx _ _
  |cons n r =>
   rw [aB]
   have hlt:(pre.length<s.length)=True:=by rw [h]; simp
   rcases Dm h with ⟨hn,hd⟩|⟨c,m,r',hm,hne,hb,hc,hc2,hd⟩
   ·have hi:=ih r (pre++[n]) (by simp at hq; omega) (by rw [h]; simp)
    simp only [List.length_append,List.length_cons,List.length_nil,Nat.zero_add] at hi
    simp only [nC,hlt,hd,EN,simprocAttr]
    repeat' ((first|refine aC (fun hb=>?_) (fun hb=>?_)|refine bc (fun hb=>?_) (fun hb=>?_)|refine bZ (fun hb=>?_) (fun hb=>?_))<;>simp only [hb,nC,hd,EV,simprocAttr])
    all_goals first
     |(refine (hr _).trans ?_; congr 1; symm; clear hi ih hx hr hd h; simp_all [nc]; done)
     |(refine hi.trans ?_; congr 1; symm; clear hi ih hx hr hd h; simp_all [nc]; done)
   ·have hml:0<m.length:=List.length_pos_iff.2 hne
    have hl2:(n::r).length=m.length+r'.length:=by rw [hm]; simp
    have hi:=ih r' (pre++m) (by simp at hq hl2; omega) (by rw [h,hm]; simp)
    simp only [List.length_append] at hi
    have h32:decide ((c:Int)<32)=false:=by simp; omega
    have h47:((c:Int)==47)=false:=by rw [beq_eq_false_iff_ne]; omega
    rw [hm,List.all_append,all_true hb,Bool.true_and]
    simp only [nC,hlt,hd,h32,h47,EN,simprocAttr]
    exact hi
def VE (s:Bytes) (hs:s.length<=100000) (ha:fU s):ai sY 207 [.str s] []=some (.bool (cD s),[]):=by
 refine aq ?_
 simp only [wS,nC,EN,simprocAttr]
 have hl:=fun k hx hr=>KH (k:=k) (R:=fun b=>some (ae.bool b,[])) hs ha hx hr s.length s [] (Nat.le_refl _) rfl
 have he:(s==[])=decide ((s.length:Int)<1):=by cases s<;>simp; omega
 rw [he]
 repeat' ((first|refine aC (fun hb=>?_) (fun hb=>?_)|refine bc (fun hb=>?_) (fun hb=>?_)|refine bZ (fun hb=>?_) (fun hb=>?_))<;>simp only [hb,EN,nC,simprocAttr])
 all_goals first
  |(clear hl he; simp_all [cD]; done)
  |(refine (hl _ (fun e p=>by simp only [nC,EN,simprocAttr]) (fun p=>by simp only [nC,EN,simprocAttr])).trans ?_; clear hl he; simp_all [cD]; done)
end
def vN {f:Nat} {args:List ae} {r:ae} (h:ai sY f args []=some (r,[])) (hp:r.di=false) (w:World) (vs:Array Value) (hl:args.length=vs.size) (hv:∀(i:Nat) (c:ae) (v:Value),args[i]?=some c->vs[i]?=some v->bQ DC [] w c v) :
  Calls Tryz.prog f vs w fun e w'=>∃v j',e = .returned v/\w.grownBy w' none/\bQ j' [] w' r v:=by
 refine ((TL f args [] _ h).2 DC w vs (LH w) (WD w) hl hv).mono ?_
 intro e w' hce
 obtain ⟨v,rfl,j',_,hx,hr⟩:=hce.ret hp
 exact ⟨v,j',rfl,⟨hx.os,hx.tape,hx.output,hx.size,fun k hk _=>(hx.mP k hk fun i hi=>by cases hi).1⟩,hr⟩
def LK (s:Bytes) (hs:s.length<=100000) (ha:fU s) (w:World):Calls Tryz.prog 207 #[.string (bs s)] w fun e w'=>e = .returned (.bool (cD s))/\w.grownBy w' none:=by
 refine (vN (VE s hs ha) rfl w #[.string (bs s)] rfl ?_).mono ?_
 ·intro i c v h1 h2
  match i with
  |0=>cases h1; cases h2; exact .plain (.str _)
  |i+1=>cases h1
 ·rintro e w' ⟨v,j',rfl,hg,hr⟩
  rw [hr.df]
  exact ⟨rfl,hg⟩
set_option maxHeartbeats 1000000 in
set_option maxRecDepth 100000 in
def IH (a:ByteArray) (c:Int) (w:World) :
  Calls Tryz.prog 308 #[.string a,.int .u8 c] w fun e w'=>e = .returned (.int .i64 (Lib.indexByte a.data.toList c.toNat.toUInt8))/\w'=w:=by
 go_enter Tryz.func308,Tryz.ntmps308
 go_wp2
 rw [run_callFunc_extern Tryz.func326 (by kernel_rfl) (by kernel_rfl) (by kernel_rfl) (e:=Extern.BytealgIndexByte.indexByte) (by kernel_rfl),Lib.run_indexByteString]
 simp only [Result.andThen]
 rw [Oper.upon_value]
 go_wp2
 go_ret
 exact ⟨rfl,rfl⟩
set_option maxHeartbeats 1000000 in
set_option maxRecDepth 100000 in
def IG (a:ByteArray) (c:Int) (w:World) :
  Calls Tryz.prog 274 #[.string a,.int .u8 c] w fun e w'=>e = .returned (.int .i64 (Lib.indexByte a.data.toList c.toNat.toUInt8))/\w'=w:=by
 go_enter Tryz.func274,Tryz.ntmps274
 go_wp2_with (go_at_call 308; refine (IH _ _ _).mono ?_; rintro e w' ⟨rfl,rfl⟩)
 go_ret
 exact ⟨rfl,rfl⟩
section ev
attribute [local irreducible] cJ cE gD gK bG kr ai ak aV aF
def j6:Bytes->Bytes×Bool
 |b::r=>if b=47 then (r,true) else (b::r,false)
 | []=>([],false)
def Cl:Bytes->Bool
 |b::_=>b==47
 | []=>false
def ab8 (s:Bytes):ai sY 325 [.str s,.str [47]] []=some (.bool (Cl s),[]):=by
 refine aq ?_
 cases s with
 |nil =>
  have h0:decide (((1:Nat):Int)<=((0:Nat):Int))=false:=by decide
  simp only [wT,Mn,h0,EN,simprocAttr]
  simp only [Cl,Mn,h0,EN,simprocAttr]
 |cons b r =>
  have h1:(1:Int)<=(r.length:Int)+1:=by omega
  simp only [wT,Mn,EN,simprocAttr]
  simp [Cl,h1,bO,Mn,EN,simprocAttr]
  try (cases hb:(b==47)<;>simp_all)
def Xi (s:Bytes) (M:ag):ak (ai sY) 325 [.str s,.str [47]] M=some (.bool (Cl s),M):=cO (ab8 s) M
def ab7 (s:Bytes):ai sY 307 [.str s,.str [47]] []=some (.tuple [.str (j6 s).1,.bool (j6 s).2],[]):=by
 refine aq ?_
 simp only [Ad,Mm,Xi,EN,simprocAttr]
 cases s with
 |nil=>simp only [Cl,Mm,Xi,EN,simprocAttr]; rfl
 |cons b r =>
  by_cases hb:b=47
  ·have h1:(1:Int)<=(r.length:Int)+1:=by omega
   have h2:(0:Int)<=(r.length:Int)+1:=by omega
   simp [Cl,hb,Mm,j6,bO,h1,h2,EN,simprocAttr]
  ·have hb':(b==47)=false:=by simpa using hb
   simp only [Cl,hb',Mm,EN,simprocAttr]
   simp [j6,hb]
def ac3 (s:Bytes) (M:ag):ak (ai sY) 307 [.str s,.str [47]] M=some (.tuple [.str (j6 s).1,.bool (j6 s).2],M):=cO (ab7 s) M
def ab4 (s:Bytes):ai sY 273 [.str s,.str [47]] []=some (.tuple [.str (j6 s).1,.bool (j6 s).2],[]):=by
 refine aq ?_
 simp only [Ac,aas,ac3,EN,simprocAttr]
end ev
def QW (s:Bytes) (w:World):Calls Tryz.prog 273 #[.string (bs s),.string ⟨#[47]⟩] w fun e w'=>e = .returned (.tuple #[.string (bs (j6 s).1),.bool (j6 s).2])/\w.grownBy w' none:=by
 refine (vN (ab4 s) rfl w #[.string (bs s),.string ⟨#[47]⟩] rfl ?_).mono ?_
 ·intro i c v h1 h2
  match i with
  |0=>cases h1; cases h2; exact .plain (.str _)
  |1=>cases h1; cases h2; exact .plain (.str [47])
  |i+2=>cases h1
 ·rintro e w' ⟨v,j',rfl,hg,hr⟩
  obtain ⟨vs,rfl,hl,hv⟩:=hr.kD
  obtain ⟨l⟩:=vs
  match l,hl with
  | [u1,u2],_ =>
   rw [(hv 0 _ u1 rfl rfl).dx,(hv 1 _ u2 rfl rfl).df]
   exact ⟨rfl,hg⟩
def zN (s:Bytes):Nat:=if Lib.indexByte s 47<0 then s.length else (Lib.indexByte s 47).toNat
def kW (s:Bytes):Bytes×Bool:=((j6 s).1.take (zN (j6 s).1),(j6 s).2)
def jW (s:Bytes):Bytes:=(j6 s).1.drop (zN (j6 s).1)
def ng:Nat->Bytes->List (Bytes×Bool)
 |0,_=>[]
 |n+1,s=>match s with
  | []=>[]
  |b::r=>kW (b::r)::ng n (jW (b::r))
def index_le (l:Bytes) (c:UInt8):Lib.indexByte l c<=l.length:=by
 induction l with
 |nil=>simp [Lib.indexByte]
 |cons b r ih =>
  simp only [Lib.indexByte]
  split
  ·simp; omega
  ·split
   ·simp; omega
   ·simp; omega
def GN (s:Bytes):(j6 s).1.length<=s.length:=by
 cases s with
 |nil=>simp [j6]
 |cons b r=>simp only [j6]; split<;>simp
def vR {s:Bytes} (h:s≠[]):(jW s).length<s.length:=by
 cases s with
 |nil=>exact absurd rfl h
 |cons b r =>
  unfold jW
  rw [List.length_drop]
  by_cases hb:b=47
  ·have:j6 (b::r)=(r,true):=by simp [j6,hb]
   rw [this]; simp; omega
  ·have e:j6 (b::r)=(b::r,false):=by simp [j6,hb]
   rw [e]
   have:0<zN (b::r):=by
    unfold zN
    have hb':(b==47)=false:=by simpa using hb
    have hg:=Lib.indexByte_ge r 47
    split
    ·simp
    ·rename_i hn
     simp only [Lib.indexByte,hb',Bool.false_eq_true,if_false] at hn ⊢
     split
     ·rename_i he; simp [he] at hn
     ·rename_i he
      have:Lib.indexByte r 47 ≠ -1:=by simpa using he
      omega
   simp only [List.length_cons]
   omega
def yI:∀(n m:Nat) (s:Bytes),s.length<=n->s.length<=m->ng n s=ng m s:=by
 intro n
 induction n with
 |zero =>
  intro m s h _
  have:s=[]:=by cases s with|nil=>rfl|cons b r=>simp at h
  subst this
  cases m<;>rfl
 |succ n ih =>
  intro m s h h'
  cases s with
  |nil=>cases m<;>rfl
  |cons b r =>
   cases m with
   |zero=>simp at h'
   |succ m =>
    have:=vR (s:=b::r) (by simp)
    simp only [ng]
    rw [ih m _ (by omega) (by omega)]
def fA (s:Bytes):List (Bytes×Bool):=ng s.length s
def ru {s:Bytes} (h:s≠[]):fA s=kW s::fA (jW s):=by
 cases s with
 |nil=>exact absurd rfl h
 |cons b r =>
  have:=vR (s:=b::r) (by simp)
  unfold fA
  rw [show (b::r).length=r.length+1 from rfl,ng]
  rw [yI r.length (jW (b::r)).length _ (by simp at this; omega) (by omega)]
def ti {s:Bytes} (h:fU s):fU (kW s).1:=trivial
def uH {s:Bytes} (h:fU s):fU (jW s):=trivial
def FT (s:Bytes):(kW s).1.length<=s.length:=by
 have:=GN s
 unfold kW
 rw [List.length_take]
 omega
abbrev PA:={ x:Bytes×Bool // fU x.1/\x.1.length<=100000 }
abbrev MR (x:PA):Array Value := #[.string (bs x.1.1),.bool x.1.2]
def yd (b0:Nat) (w:World):Nat:=match w.cell? ⟨b0,0,none⟩ with
 |some (.string s)=>s.size
 |_=>0
end
section
open Go Go.Abs Go.RowKit Go.Shelf
attribute [local go_sem] Oper.semAt_some
set_option maxHeartbeats 1000000 in
def FU (n:Nat) (s:Bytes) (w:World) :
  CallsIn Fence.wide n Tryz.prog 231 #[.string (bs s)] w fun e w'=>e = .returned (.func (.func 272) #[] #[.pointer (some ⟨w.heap.size,0,none⟩)])/\w'=w.alloc (.cells #[.string (bs s)] 9):=by
 refine callsIn_of_wp Tryz.func231 rfl trivial ?_ rfl
 simp only [Tryz.ntmps231,List.size_toArray,List.length_cons,List.length_nil,Nat.reduceAdd,Nat.reduceSub,Array.replicate_succ,Array.replicate_zero,List.push_toArray,List.append_toArray,List.nil_append,List.cons_append]
 gi_wp2
 go_ret
 exact ⟨rfl,rfl⟩
def Dg (c:Bytes) (n:Nat):bs (c.drop n)=(bs c).extract n (bs c).size:=by
 rw [mT,show (bs c).size=c.length from rfl,List.take_length]
def mU {b0:Nat} {w:World} {s:Bytes} (h:Boxed w b0 9 (.string (bs s))):yd b0 w=s.length:=by
 unfold yd
 rw [h.cell]
 rfl
set_option maxRecDepth 100000 in
set_option maxHeartbeats 1000000 in
def Nf (n:Nat) (hn:3<=n) (l b0 N:Nat) (s0:Bytes) (ha:fU s0) (hs:s0.length<=100000) (hN:(fA s0).length<=N) (J Jx:List PA->World->Prop) (W:World) (hJ:AbidesFrom W.heap.size J) (hJc:∀s A v,J s A->J s (A.setCell ⟨b0,0,none⟩ v))
  (hY:∀pre x W1,J pre W1->pre.length<N->YieldAt Fence.wide (n-1) Tryz.prog l (MR x) W1 fun e W' =>
   (e = .returned (.bool true)/\J (pre++[x]) W'/\W'.heap[b0]?=W1.heap[b0]?)\/(e = .returned (.bool false)/\Jx (pre++[x]) W'))
  (hB:Boxed W b0 9 (.string (bs s0))) (h0:J [] W) :
  CallsIn Fence.wide n Tryz.prog 272 #[.func (.yield l) #[] #[],.pointer (some ⟨b0,0,none⟩)] W fun e W'=>(∃v,e = .returned v) /\
   ((∃xs:List PA,xs.map (·.1)=fA s0/\J xs W')\/(∃pre:List PA,pre.map (·.1) <+: fA s0/\Jx pre W')):=by
 refine callsIn_of_wp Tryz.func272 rfl trivial ?_ rfl
 simp only [Tryz.ntmps272,List.size_toArray,List.length_cons,List.length_nil,Nat.reduceAdd,Nat.reduceSub,Array.replicate_succ,Array.replicate_zero,List.push_toArray,List.append_toArray,List.nil_append,List.cons_append]
 gi_wp2
 gi_loopw [3] (fun _ wr=>∃(pre:List PA) (rest:Bytes),Boxed wr b0 9 (.string (bs rest))/\fU rest/\rest.length<=100000/\fA s0=pre.map (·.1)++fA rest/\J pre wr)
  (fun _ wr=>yd b0 wr)
 case atStart =>
  exact ⟨[],s0,hB,ha,hs,rfl,h0⟩
 case round =>
  obtain ⟨pre,rest,hb,hra,hrl,hp,hJs⟩:=hrel
  have hf:=hb.frozen
  cases rest with
  |nil =>
   have hc:wr.cell? ⟨b0,0,none⟩=some (.string ⟨#[]⟩):=hb.cell
   gi_wp2
   go_end0
   exact ⟨⟨_,rfl⟩,.inl ⟨pre,by rw [hp]; simp [fA,ng],hJs⟩⟩
  |cons x rest =>
   have hc:=hb.cell
   have hne:(!(bs (x::rest)).toList.isEmpty)=true:=by simp [bs]
   gi_wp2
   refine ⟨trivial,fun h=>(by cases h),(callsIn_wide.2 (QW _ _)).mono ?_⟩
   rintro e w1 ⟨rfl,hg⟩
   have hb1:Boxed w1 b0 9 (.string (bs (x::rest))):=hb.kept hg (by simp)
   have hJ1:J pre w1:=hJ pre wr w1 none hJs hg (fun r e=>by cases e)
   have hbr:=hb
   clear hb hc hf hJs
   have hc1:=hb1.cell
   have hf1:=hb1.frozen
   gi_wp2
   refine ⟨trivial,fun h=>(by cases h),(callsIn_wide.2 (IG _ _ _)).mono ?_⟩
   rintro e w2 ⟨rfl,rfl⟩
   have hlen:pre.length<N:=by
    have:=congrArg List.length hp
    rw [ru (s:=x::rest) (by simp)] at this
    simp at this
    omega
   have hpl:=FT (x::rest)
   have hrest:=vR (s:=x::rest) (by simp)
   obtain ⟨fn,tmps,assign,body,hy,hR⟩:=hY pre ⟨kW (x::rest),ti hra,by omega⟩ w2 hJ1 hlen
   have hpn:fA s0=(pre++[⟨kW (x::rest),ti hra,by omega⟩]:List PA).map (·.1)++fA (jW (x::rest)):=by
    rw [hp,ru (by simp)]; simp
   obtain ⟨c,hc⟩:∃c,(j6 (x::rest)).1=c:=⟨_,rfl⟩
   have hix:=index_le c 47
   by_cases hi:Lib.indexByte c 47<0
   ·have he:kW (x::rest)=(c,(j6 (x::rest)).2):=by simp [kW,hc,zN,hi]
    have hre:jW (x::rest)=[]:=by simp [jW,hc,zN,hi]
    simp only [MR,he] at hy
    rw [hc]
    have hi':Lib.indexByte (bs c).data.toList 47<0:=hi
    gi_wp2
    refine ⟨fun h=>(by cases h),hR.mono ?_⟩
    rintro e W3 (⟨rfl,hJ3,hk3⟩|⟨rfl,hJx3⟩)
    ·have hb3:Boxed W3 b0 9 (.string (bs (x::rest))):=hk3.trans hb1
     have hc3:=hb3.cell
     have hf3:=hb3.frozen
     gi_wp2
     go_roundw
     case rel =>
      exact ⟨_,jW (x::rest),(by rw [hre]; exact (hb3.set _)),uH hra,by omega,hpn,hJc _ _ _ hJ3⟩
     case measure =>
      rw [mU (s:=jW (x::rest)) (by rw [hre]; exact (hb3.set _)),mU hbr]
      exact hrest
    ·gi_wp2
     refine bodyPost_ret (results_none rfl _ _ _) rfl ?_
     exact ⟨⟨_,rfl⟩,.inr ⟨_,⟨fA (jW (x::rest)),hpn.symm⟩,hJx3⟩⟩
   ·have hi0:0<=Lib.indexByte c 47:=by omega
    have he:kW (x::rest)=(c.take (Lib.indexByte c 47).toNat,(j6 (x::rest)).2):=by simp [kW,hc,zN,hi]
    have hre:jW (x::rest)=c.drop (Lib.indexByte c 47).toNat:=by simp [jW,hc,zN,hi]
    simp only [MR,he] at hy
    rw [show bs (c.take (Lib.indexByte c 47).toNat)=(bs c).extract 0 (Lib.indexByte (bs c).data.toList 47).toNat by rw [mT]; rfl] at hy
    rw [hc]
    have hi':¬Lib.indexByte (bs c).data.toList 47<0:=hi
    have hi2:Lib.indexByte (bs c).data.toList 47<=(bs c).size:=hix
    gi_wp2
    refine ⟨fun h=>(by cases h),hR.mono ?_⟩
    rintro e W3 (⟨rfl,hJ3,hk3⟩|⟨rfl,hJx3⟩)
    ·have hb3:Boxed W3 b0 9 (.string (bs (x::rest))):=hk3.trans hb1
     have hc3:=hb3.cell
     have hf3:=hb3.frozen
     gi_wp2
     go_roundw
     case rel =>
      exact ⟨_,jW (x::rest),(by rw [hre,Dg]; exact (hb3.set _)),uH hra,by omega,hpn,hJc _ _ _ hJ3⟩
     case measure =>
      rw [mU (s:=jW (x::rest)) (by rw [hre,Dg]; exact (hb3.set _)),mU hbr]
      exact hrest
    ·gi_wp2
     refine bodyPost_ret (results_none rfl _ _ _) rfl ?_
     exact ⟨⟨_,rfl⟩,.inr ⟨_,⟨fA (jW (x::rest)),hpn.symm⟩,hJx3⟩⟩
def wi (x:Bytes×Bool) (n:Nat):Bool := !x.2 || !cD x.1||n==12
def il:List (Bytes×Bool)->Nat->Option (List Bytes)
 | [],_=>some []
 |x::r,n=>if wi x n=true then none else (il r (n+1)).map (x.1 :: ·)
def sV:∀(a b:List (Bytes×Bool)) (n:Nat),il (a++b) n=(il a n).bind fun l=>(il b (n+a.length)).map (l ++ ·):=by
 intro a
 induction a with
 |nil=>intro b n; simp [il]
 |cons x r ih =>
  intro b n
  simp only [List.cons_append,il]
  split
  ·rfl
  ·rw [ih,show n+1+r.length=n+(x::r).length by simp; omega]
   cases il r (n+1) with
   |none=>rfl
   |some l=>simp; rfl
def cg (s:Bytes):List Bytes×Int:=if s=[47] then ([],0) else match il (fA s) 0 with
 |none=>([],60)
 |some []=>([],60)
 |some l=>(l,0)
def Dw (pre:List PA):Prop:=il (pre.map (·.1)) 0=some (pre.map (·.1.1))/\pre.length<=12
def Ck {pre:List PA} {x:PA} (h:Dw pre) (hb:wi x.1 pre.length=false):Dw (pre++[x]):=by
 refine ⟨?_,?_⟩
 ·rw [List.map_append,sV,h.1]
  simp [il,hb]
 ·have:pre.length≠12:=by intro e; rw [e] at hb; simp [wi] at hb
  have:=h.2
  simp; omega
def rS {pre:List PA} {x:PA} (h:Dw pre) (hb:wi x.1 pre.length=true):il ((pre++[x]).map (·.1)) 0=none:=by
 rw [List.map_append,sV,h.1]
 simp [il,hb]
def F4 {a l:List (Bytes×Bool)} (h:a <+: l) (hn:il a 0=none):il l 0=none:=by
 obtain ⟨b,rfl⟩:=h
 rw [sV,hn]; rfl
def WL:(Tryz.prog.info? 9).map (fun i=>(i.zero,i.size,i.bytes))=some (some (.string ⟨#[]⟩),1,16):=by kernel_rfl
abbrev ym (b:Bytes):Value := .string (bs b)
def appended {W w1:World} {n₀ B:Nat} {v v':Value} {k m:Nat} {xs ys:List Value} {tmp:Obj}
  (hv:Boxed W B 43 v) (hrow:W.ownsRow n₀ 9 1 v k xs) (hown':w1.ownsRow n₀ 9 1 v' m ys) (hgrow:(W.alloc tmp).grownBy w1 v.ownBlock) :
  Boxed w1 B 43 v/\Boxed (w1.setCell ⟨B,0,none⟩ v') B 43 v'/\(w1.setCell ⟨B,0,none⟩ v').ownsRow n₀ 9 1 v' m ys/\KeepsOthers W (w1.setCell ⟨B,0,none⟩ v') /\
  (w1.setCell ⟨B,0,none⟩ v').os=W.os/\(w1.setCell ⟨B,0,none⟩ v').tape=W.tape/\(w1.setCell ⟨B,0,none⟩ v').output=W.output/\W.heap.size<=(w1.setCell ⟨B,0,none⟩ v').heap.size /\
  ∀q,q<n₀->q<W.heap.size->q≠B->(w1.setCell ⟨B,0,none⟩ v').heap[q]?=W.heap[q]?:=by
 have hv1:Boxed w1 B 43 v:=(hv.alloc tmp).kept hgrow (hv.not_row (by decide) hrow)
 have hs:=grownBy_setCell' w1 B v'
 refine ⟨hv1,hv1.set v',hown'.kept hs (.inr (hv1.not_row (by decide) hown').symm),?_,?_,?_,?_,?_,?_⟩
 ·refine ((KeepsOthers.alloc W tmp).trans (KeepsOthers.of_grownBy hgrow fun j o ej hj=>?_)).trans (KeepsOthers.setCell _ _ _)
  rcases (hrow.alloc tmp).2 with ⟨rfl,_⟩|⟨g,cap,cur,rfl,_,hgb,_⟩
  ·simp [Value.ownBlock] at ej
  ·obtain rfl:g=j:=by simpa [Value.ownBlock] using ej
   rw [hgb] at hj; cases hj; rfl
 ·exact hs.os.trans hgrow.os
 ·exact hs.tape.trans hgrow.tape
 ·exact hs.output.trans hgrow.output
 ·have h1:=hgrow.size
  have h2:=hs.size
  simp at h1
  omega
 ·intro q hq hqw hqB
  have hlt:q<(W.alloc tmp).heap.size:=by simp; omega
  rw [hs.block q (Nat.lt_of_lt_of_le hlt hgrow.size) (fun e=>hqB (by cases e; rfl)),hgrow.block q hlt ?_]
  ·exact Below.heap_alloc _ _ _ hqw
  ·intro e
   rcases hrow.2 with ⟨rfl,_⟩|⟨g,cap,cur,rfl,hb,_,_⟩
   ·simp [Value.ownBlock] at e
   ·obtain rfl:q=g:=by simpa [Value.ownBlock] using e
    omega
structure wg (w:World) (pre:List PA) (W:World):Prop where
 yo:Dw pre
 r0:Boxed W w.heap.size 43 (.slice none 0 0)
 r1:Boxed W (w.heap.size+1) 42 (.int .i64 0)
 row:∃v,Boxed W (w.heap.size+2) 43 v/\W.ownsRow (w.heap.size+4) 9 1 v pre.length (pre.map fun x=>ym x.1.1)
 below:Below w.heap.size w W
 sz:w.heap.size+4<=W.heap.size
structure yb (w:World) (c:Code) (pre:List PA) (W:World):Prop where
 ret:c = .ret
 bad:il (pre.map (·.1)) 0=none
 r0:Boxed W w.heap.size 43 (.slice none 0 0)
 r1:Boxed W (w.heap.size+1) 42 (.int .i64 60)
 below:Below w.heap.size w W
def kI {W W':World} {row:Option Nat} {B k:Nat} {t:TypeId} {v:Value} (h:Boxed W B t v) (hg:W.grownBy W' row) (hr:∀r,row=some r->k<=r/\∃o:Obj,W.heap[r]?=some o/\o.isCells=false):Boxed W' B t v :=
 h.kept hg fun e=>by obtain ⟨_,o,ho,hc⟩:=hr B e.symm; rw [show W.heap[B]?=_ from h] at ho; cases ho; cases hc
def wg.own {w:World}:OwnFrom (w.heap.size+4) (wg w):=fun s A B row hs hg hr=>by
 obtain ⟨v,hv,hrow⟩:=hs.row
 exact ⟨hs.yo,kI hs.r0 hg hr,kI hs.r1 hg hr,⟨v,kI hv hg hr,((holdsRow_own (β:=Unit) (w.heap.size+4) (w.heap.size+2) 43 9 1 (fun _=>s.length) (fun _=>s.map fun x=>ym x.1.1) (fun _ u=>u=v)) () A B row ⟨v,hv,hrow,rfl⟩ hg (fun r e=>(hr r e).2)).elim fun u hu=>hu.2.2▸hu.2.1⟩,ownFrom_below (β:=Unit) (Nat.le_refl _) (by omega) () A B row hs.below hg hr,Nat.le_trans hs.sz hg.size⟩
def yb.own {w:World} (c:Code):OwnFrom (w.heap.size+4) (yb w c):=fun s A B row hs hg hr =>
 ⟨hs.ret,hs.bad,kI hs.r0 hg hr,kI hs.r1 hg hr,ownFrom_below (β:=Unit) (Nat.le_refl _) (by omega) () A B row hs.below hg hr⟩
def wg.cell {w:World} (s:List PA) (A:World) (u:Value) (hs:wg w s A):wg w s (A.setCell ⟨w.heap.size+3,0,none⟩ u):=by
 obtain ⟨v,hv,hrow⟩:=hs.row
 have hg:=grownBy_setCell' A (w.heap.size+3) u
 refine ⟨hs.yo,hs.r0.other (by omega) _,hs.r1.other (by omega) _,⟨v,hv.other (by omega) _,hrow.kept hg ?_⟩,hs.below.setCell (p:=⟨w.heap.size+3,0,none⟩) (by simp) _,Nat.le_trans hs.sz hg.size⟩
 rcases hrow.2 with ⟨rfl,_⟩|⟨g,cap,cur,rfl,hb,_,_⟩
 ·exact .inl rfl
 ·refine .inr fun e=>?_
  have:g=w.heap.size+3:=by simpa [Value.ownBlock] using e
  omega
def yb.made {w W:World} {pre:List PA} (h0:Boxed W w.heap.size 43 (.slice none 0 0)) (h1:Boxed W (w.heap.size+1) 42 (.int .i64 0)) (hb:Below w.heap.size w W) (hbad:il (pre.map (·.1)) 0=none) :
  KeepsOthers W ((W.setCell ⟨w.heap.size,0,none⟩ (.slice none 0 0)).setCell ⟨w.heap.size+1,0,none⟩ (.int .i64 60))/\yb w .ret pre ((W.setCell ⟨w.heap.size,0,none⟩ (.slice none 0 0)).setCell ⟨w.heap.size+1,0,none⟩ (.int .i64 60)):=by
 refine ⟨(KeepsOthers.setCell _ _ _).trans (KeepsOthers.setCell _ _ _),rfl,hbad,(h0.set _).other (by omega) _,?_,(hb.setCell (p:=⟨w.heap.size,0,none⟩) (Nat.le_refl _) _).setCell (p:=⟨w.heap.size+1,0,none⟩) (by simp) _⟩
 exact (h1.other (by omega) _).set _
def sR {W:World} {n₀ k:Nat} {v:Value} {xs:List Value} (h:W.ownsRow n₀ 9 1 v k xs):∃p cap,v = .slice p k cap:=by
 rcases h.2 with ⟨rfl,rfl⟩|⟨g,cap,cur,rfl,_⟩
 ·exact ⟨_,_,rfl⟩
 ·exact ⟨_,_,rfl⟩
def OT {W:World} {n₀ n₁ k D:Nat} {v:Value} {xs:List Value} {x:Option (List Deferred)} {o:Obj} (h:W.ownsRow n₀ 9 1 v k xs) (hn:n₁<=n₀) (hD:W.heap[D]?=some (.deferred x)):(W.putObj D o).ownsRow n₁ 9 1 v k xs:=by
 refine ⟨h.1,?_⟩
 rcases h.2 with h0|⟨g,cap,cur,e,hb,hg,hr⟩
 ·exact .inl h0
 ·refine .inr ⟨g,cap,cur,e,by omega,?_,hr⟩
  exact (World.putObj_heap_other (fun e=>by subst e; rw [hD] at hg; cases hg)).trans hg
def A7 {W:World} {n₀ k B:Nat} {v:Value} {xs:List Value} (h:W.ownsRow n₀ 9 1 v k xs) (hB:B<n₀) (u:Value):(W.setCell ⟨B,0,none⟩ u).ownsRow n₀ 9 1 v k xs:=by
 refine ⟨h.1,?_⟩
 rcases h.2 with h0|⟨g,cap,cur,e,hb,hg,hr⟩
 ·exact .inl h0
 ·exact .inr ⟨g,cap,cur,e,hb,(Below.heap_setCell _ _ _ _ (by show _≠B; omega)).trans hg,hr⟩
def kB {W:World} {B D:Nat} {t:TypeId} {v:Value} {x:Option (List Deferred)} {o:Obj} (h:Boxed W B t v) (hD:W.heap[D]?=some (.deferred x)):Boxed (W.putObj D o) B t v :=
 (World.putObj_heap_other (fun e=>by subst e; rw [show W.heap[B]?=_ from h] at hD; cases hD)).trans h
def rU {w W:World} {D:Nat} {o:Obj} (h:Below w.heap.size w W) (hD:w.heap.size<=D):Below w.heap.size w (W.putObj D o) :=
 ⟨h.os,h.tape,h.output,by simpa [World.putObj] using h.size,fun k hk=>(World.putObj_heap_other (by omega)).trans (h.block k hk)⟩
def o8 {W:World} {B D:Nat} {o:Obj} {u:Value} (h:W.heap[D]?=some o) (hB:D≠B):(W.setCell ⟨B,0,none⟩ u).heap[D]?=some o:=(Below.heap_setCell _ _ _ _ (by show _≠B; omega)).trans h
def results144 {W:World} {b:Nat} {v u:Value} {tmps:Array Value} (h2:tmps[2]?=some (.pointer (some ⟨b,0,none⟩))) (h3:tmps[3]?=some (.pointer (some ⟨b+1,0,none⟩))) (hv:Boxed W b 43 v) (hu:Boxed W (b+1) 42 u):(results Tryz.f144 tmps).run Tryz.prog W = .ok (.tuple #[v,u]) W:=by
 have c0:=hv.cell
 have c1:=hu.cell
 simp [results,Tryz.f144,go_sem,c0,c1,h2,h3]
def oc {F:Fence} {n:Nat} {P:Program} {fn:Func} {tmps:Array Value} {R:Ending->World->Prop} {D:Nat} {W W':World} {v:Value} (hD:(Instr.takeDeferred D).run P W = .ok [] W') (hv:(results fn tmps).run P W' = .ok v W') (hR:R (.returned v) W') :
  LeavesInM F n P fn tmps R [{ target := .collected D,args := #[] }] .returning W :=
 ⟨by simp,.inl ⟨D,W',rfl,hD,⟨v,hv,hR⟩⟩⟩
set_option maxRecDepth 100000 in
set_option maxHeartbeats 2000000 in
def L0 (n:Nat) (hn:6<=n) (s:Bytes) (ha:fU s) (hs:s.length<=100000) (w:World) :
  CallsIn Fence.wide n Tryz.prog 144 #[.string (bs s)] w fun e W'=>∃v,e = .returned (.tuple #[v,.int .i64 (cg s).2])/\W'.ownsRow w.heap.size 9 1 v (cg s).1.length ((cg s).1.map ym)/\Below w.heap.size w W':=by
 have h1:1<=n:=by omega
 obtain ⟨i0,hi,hz0,hz1,hz2⟩:=info_parts WL
 refine callsIn_of_wp_marks Tryz.func144 rfl trivial ?_ rfl
 simp only [Tryz.ntmps144,List.size_toArray,List.length_cons,List.length_nil,Nat.reduceAdd,Nat.reduceSub,Array.replicate_succ,Array.replicate_zero,List.push_toArray,List.append_toArray,List.nil_append,List.cons_append]
 have b0:=Boxed.new w 43 (.slice none 0 0)
 have b1:=Boxed.new (w.alloc (.cells #[.slice none 0 0] 43)) 42 (.int .i64 0)
 have b2:=Boxed.new ((w.alloc (.cells #[.slice none 0 0] 43)).alloc (.cells #[.int .i64 0] 42)) 43 (.slice none 0 0)
 have b3:=Boxed.new (((w.alloc (.cells #[.slice none 0 0] 43)).alloc (.cells #[.int .i64 0] 42)).alloc (.cells #[.slice none 0 0] 43)) 9 (.string (bs s))
 simp only [World.size_alloc] at b1 b2 b3
 have hB2:Below w.heap.size w ((w.alloc (.cells #[.slice none 0 0] 43)).alloc (.cells #[.int .i64 0] 42)):=((Below.refl _ w).alloc (Nat.le_refl _) _).alloc (by simp) _
 have hB4:=(hB2.alloc (by simp; omega) (.cells #[.slice none 0 0] 43)).alloc (by simp; omega) (.cells #[.string (bs s)] 9)
 by_cases hs47:s=[47]
 ·subst hs47
  have ht:((bs [47]).toList==[47])=true:=by rw [ma]; rfl
  gi_wp2
  have c0:=(b0.alloc (.cells #[.int .i64 0] 42)).cell
  have c1:=b1.cell
  refine ⟨.tuple #[.slice none 0 0,.int .i64 0],?_,_,rfl,World.ownsRow_nil _ _ _ _,hB2⟩
  simp [results,Tryz.f144,go_sem,c0,c1]
 have ht:((bs s).toList==[47])=false:=by rw [ma]; simpa using hs47
 gi_wp2
 refine ⟨trivial,(FU _ s _).mono ?_⟩
 rintro e w' ⟨rfl,rfl⟩
 gi_wp2
 obtain ⟨W4,hW4⟩:∃W4,(((w.alloc (.cells #[.slice none 0 0] 43)).alloc (.cells #[.int .i64 0] 42)).alloc (.cells #[.slice none 0 0] 43)).alloc (.cells #[.string (bs s)] 9)=W4:=⟨_,rfl⟩
 have hsz:W4.heap.size=w.heap.size+4:=by rw [<-hW4]; simp
 have e0:Boxed W4 w.heap.size 43 (.slice none 0 0):=by rw [<-hW4]; exact ((b0.alloc _).alloc _).alloc _
 have e1:Boxed W4 (w.heap.size+1) 42 (.int .i64 0):=by rw [<-hW4]; exact (b1.alloc _).alloc _
 have e2:Boxed W4 (w.heap.size+2) 43 (.slice none 0 0):=by rw [<-hW4]; exact b2.alloc _
 rw [hW4] at b3 hB4 ⊢
 have hseq:wB (w.heap.size+3) Fence.wide (n-1) Tryz.prog 272 #[.pointer (some ⟨w.heap.size+3,0,none⟩)] MR (fun A B=>B.heap[w.heap.size+3]?=A.heap[w.heap.size+3]?) (fun xs=>xs.map (·.1)=fA s) (fun pre=>pre.map (·.1) <+: fA s) (fA s).length W4 :=
  fun l J Jx W hW hJ hJx hJc hY h0=>Nf (n-1) (by omega) l _ _ s ha hs (Nat.le_refl _) J Jx W hJ hJc hY ((hW.block _ (by omega)).trans b3) h0
 refine px (b0:=w.heap.size+3) (by omega) rfl h1 (gf:=272) (lb := #[.pointer (some ⟨w.heap.size+3,0,none⟩)]) rfl trivial (enters_of Tryz.func272 (by kernel_rfl) rfl) hseq
  (fun h k=>k.trans h) (fun W l o o' hl _ _ _=>World.putObj_heap_other (by omega)) (Below.refl _ _) (fun _=>rfl)
  (wg w) (yb w) (by rw [hsz]; exact wg.own) (fun c=>by rw [hsz]; exact yb.own c) wg.cell
  ⟨⟨rfl,by simp⟩,e0,e1,⟨_,e2,World.ownsRow_nil _ _ _ _⟩,hB4,by omega⟩
  (fun x=>{ tmps := #[.string (bs s),undef,.pointer (some ⟨w.heap.size,0,none⟩),.pointer (some ⟨w.heap.size+1,0,none⟩),.pointer (some ⟨w.heap.size+1+1,0,none⟩),.string (bs x.1.1),.bool x.1.2,.string (bs s),.bool false,.string (bs s),.func (.func 272) #[] #[.pointer (some ⟨w.heap.size+1+1+1,0,none⟩)],.string (bs x.1.1),.bool x.1.2,
   undef,undef,undef,undef,undef,undef,undef,undef,undef,undef,undef,undef,undef,undef,undef,undef,undef,undef,undef,undef],defers:=[] }) ?assign ?body ?done ?stop
 case assign =>
  intro l x W K hK
  gi_wp2
  exact hK
 case body =>
  rintro l pre ⟨⟨nm,ok⟩,hxa,hxl⟩ W hInv hlt
  obtain ⟨v,hv,hrow⟩:=hInv.row
  have hc0:=hInv.r0.cell
  have hf0:=hInv.r0.frozen
  have hc1:=hInv.r1.cell
  have hf1:=hInv.r1.frozen
  cases ok with
  |false =>
   gi_wp2
   refine ⟨trivial,?_⟩
   gi_wp2
   exact yb.made hInv.r0 hInv.r1 hInv.below (rS hInv.yo (by simp [wi]))
  |true =>
   gi_wp2
   refine ⟨trivial,fun h=>(by cases h),(CallsIn.inRound l (callsIn_wide.2 (LK nm hxl hxa W))).mono ?_⟩
   rintro e W5 ⟨rfl,hg5⟩
   have hInv5:wg w pre W5:=wg.own pre W W5 none hInv hg5 (fun r e=>by cases e)
   have hK5:KeepsOthers W W5:=KeepsOthers.of_grownBy hg5 (fun j o e=>by cases e)
   clear hc0 hf0 hc1 hf1 hrow hv v
   obtain ⟨v,hv,hrow⟩:=hInv5.row
   have hc0:=hInv5.r0.cell
   have hf0:=hInv5.r0.frozen
   have hc1:=hInv5.r1.cell
   have hf1:=hInv5.r1.frozen
   have hc2:W5.cell? ⟨w.heap.size+1+1,0,none⟩=some v:=hv.cell
   have hf2:W5.frozen? ⟨w.heap.size+1+1,0,none⟩=false:=hv.frozen
   cases hnm:cD nm with
   |false =>
    gi_wp2
    have:=yb.made hInv5.r0 hInv5.r1 hInv5.below (rS (x:=⟨(nm,true),hxa,hxl⟩) hInv5.yo (by simp [wi,hnm]))
    exact ⟨hK5.trans this.1,this.2⟩
   |true =>
    obtain ⟨p,cap,rfl⟩:=sR hrow
    by_cases hl:pre.length=12
    ·have hl':((pre.length:Int)==12)=true:=by simp [hl]
     gi_wp2
     have:=yb.made hInv5.r0 hInv5.r1 hInv5.below (rS (x:=⟨(nm,true),hxa,hxl⟩) hInv5.yo (by simp [wi,hnm,hl]))
     exact ⟨hK5.trans this.1,this.2⟩
    ·have hl':((pre.length:Int)==12)=false:=by simp; omega
     gi_wp2_with (gi_at_builtin; generalize hX:wpListIn _ _ _ _ _ _ _ _=X)
     subst hX
     refine wpListIn_append_own _ rfl _ _ 43 rfl (w.heap.size+4) 9 i0 (.string ⟨#[]⟩) 1 16 Tryz.underlying43 hi hz0 hz1 hz2 rfl (by decide) _ _ _ rfl (hrow.alloc _) ⟨W5.heap.size,0,none⟩ 1 1 [ym nm] rfl rfl (cell_one_new _ _ _) (by simp [Value.oneCell']) (by have:=hInv5.yo.2; simp [maxLen]; omega) (by have:=hInv5.yo.2; omega) (by have:=hv.lt; simp; omega) ?_
     intro v' w1 hown' hgrow hiff
     obtain ⟨q0,q1,q2,q3,q4,q5,q6,q7,q8⟩:=appended hv hrow hown' hgrow
     have hc2':w1.cell? ⟨w.heap.size+1+1,0,none⟩=some (.slice p pre.length cap):=q0.cell
     have hf2':w1.frozen? ⟨w.heap.size+1+1,0,none⟩=false:=q0.frozen
     obtain ⟨p',cap',rfl⟩:=sR hown'
     gi_wp2
     refine ⟨hK5.trans q3,(q8 _ (by omega) (by have:=hInv5.sz; omega) (by omega)).trans (hg5.block _ (by have:=hInv.sz; omega) (by simp)),?_⟩
     refine ⟨Ck hInv5.yo (by simp [wi,hnm,hl]),(q8 _ (by omega) hInv5.r0.lt (by omega)).trans hInv5.r0,(q8 _ (by omega) hInv5.r1.lt (by omega)).trans hInv5.r1,⟨_,q1,by simpa using q2⟩,?_,Nat.le_trans hInv5.sz q7⟩
     exact hInv5.below.trans ⟨q4,q5,q6,q7,fun q hq=>q8 q (by omega) (by have:=hInv5.below.size; omega) (by omega)⟩
 case done =>
  rintro D ys W hD hys hInv hK
  obtain ⟨v,hv,hrow⟩:=hInv.row
  have hc0:=hInv.r0.cell
  have hf0:=hInv.r0.frozen
  have hc1:=hInv.r1.cell
  have hf1:=hInv.r1.frozen
  have hc2:W.cell? ⟨w.heap.size+1+1,0,none⟩=some v:=hv.cell
  have hf2:W.frozen? ⟨w.heap.size+1+1,0,none⟩=false:=hv.frozen
  obtain ⟨p,cap,rfl⟩:=sR hrow
  by_cases hl:ys.length=0
  ·have hl':((ys.length:Int)==0)=true:=by simp [hl]
   have hy:ys=[]:=List.length_eq_zero_iff.1 hl
   have hsp:cg s=([],60):=by
    rw [hy] at hys
    simp [cg,hs47,<-hys,il]
   gi_wp2
   have hm:=o8 (u := .int .i64 60) (o8 (u := .slice none 0 0) hK (B:=w.heap.size) (by omega)) (B:=w.heap.size+1) (by omega)
   have k0:Boxed ((W.setCell ⟨w.heap.size,0,none⟩ (.slice none 0 0)).setCell ⟨w.heap.size+1,0,none⟩ (.int .i64 60)) w.heap.size 43 (.slice none 0 0):=(hInv.r0.set _).other (by omega) _
   have k1:Boxed ((W.setCell ⟨w.heap.size,0,none⟩ (.slice none 0 0)).setCell ⟨w.heap.size+1,0,none⟩ (.int .i64 60)) (w.heap.size+1) 42 (.int .i64 60):=(hInv.r1.other (by omega) _).set _
   refine oc (run_takeDeferred hm) (results144 rfl rfl (kB k0 hm) (kB k1 hm)) ⟨_,rfl,World.ownsRow_nil _ _ _ _,rU ((hInv.below.setCell (p:=⟨w.heap.size,0,none⟩) (Nat.le_refl _) _).setCell (p:=⟨w.heap.size+1,0,none⟩) (by simp) _) (by omega)⟩
  ·have hl':((ys.length:Int)==0)=false:=by rw [beq_eq_false_iff_ne]; omega
   have hsp:cg s=(ys.map (·.1.1),0):=by
    have h0:=hInv.yo.1
    rw [hys] at h0
    cases ys with
    |nil=>simp at hl
    |cons y ys=>simp [cg,hs47,h0]
   gi_wp2
   have hm:=o8 (u := .int .i64 0) (o8 (u := .slice p ys.length cap) hK (B:=w.heap.size) (by omega)) (B:=w.heap.size+1) (by omega)
   have k0:Boxed ((W.setCell ⟨w.heap.size,0,none⟩ (.slice p ys.length cap)).setCell ⟨w.heap.size+1,0,none⟩ (.int .i64 0)) w.heap.size 43 (.slice p ys.length cap):=(hInv.r0.set _).other (by omega) _
   have k1:Boxed ((W.setCell ⟨w.heap.size,0,none⟩ (.slice p ys.length cap)).setCell ⟨w.heap.size+1,0,none⟩ (.int .i64 0)) (w.heap.size+1) 42 (.int .i64 0):=(hInv.r1.other (by omega) _).set _
   refine oc (run_takeDeferred hm) (results144 rfl rfl (kB k0 hm) (kB k1 hm)) ⟨_,rfl,?_,rU ((hInv.below.setCell (p:=⟨w.heap.size,0,none⟩) (Nat.le_refl _) _).setCell (p:=⟨w.heap.size+1,0,none⟩) (by simp) _) (by omega)⟩
   have:=OT (A7 (A7 hrow (by omega:w.heap.size<_) (.slice p ys.length cap)) (by omega:w.heap.size+1<_) (.int .i64 0)) (by omega:w.heap.size<=_) hm (o := .deferred none)
   simpa [Function.comp_def] using this
 case stop =>
  rintro D c pre W hD hpre hOut hK
  obtain rfl:=hOut.ret
  have hsp:cg s=([],60):=by simp [cg,hs47,F4 hpre hOut.bad]
  gi_wp2
  refine oc (run_takeDeferred hK) (results144 rfl rfl (kB hOut.r0 hK) (kB hOut.r1 hK)) ⟨_,rfl,World.ownsRow_nil _ _ _ _,rU hOut.below (by omega)⟩
def LZ (s:Bytes) (ha:fU s) (hs:s.length<=100000) (w:World) :
  Calls Tryz.prog 144 #[.string (bs s)] w fun e W'=>∃v,e = .returned (.tuple #[v,.int .i64 (cg s).2])/\W'.ownsRow w.heap.size 9 1 v (cg s).1.length ((cg s).1.map ym)/\Below w.heap.size w W' :=
 callsIn_wide.1 (L0 6 (by omega) s ha hs w)
end
end Go.Proofs.YtahkjijkflobhaaGreatDoor
namespace Go.Proofs.YtahkjijkflobhaaGreatDoor
open Go Go.Abs
instance (s:Bytes):Decidable (fU s):=inferInstanceAs (Decidable True)
def vJ:List ae->ag->Option (ae×ag)
 | [.str s],M=>if fU s/\s.length<=100000 then some (.tuple [.slice .sh ((cg s).1.map .str),.int .i64 (cg s).2],M) else none
 |_,_=>none
def F5 {args:List ae} {M:ag} {x:ae×ag} (h:vJ args M=some x):ba Tryz.prog 144 args M x:=by
 unfold vJ at h
 split at h
 ·rename_i s
  split at h
  ·rename_i hs
   injection h with h; subst h
   refine fL.call ?_
   intro j w vs hr hG hl hv
   obtain ⟨u,rfl⟩:=uu hl
   have h1:=(hv 0 _ u rfl rfl).dx
   subst h1
   refine (LZ s hs.1 hs.2 w).mono ?_
   rintro e w' ⟨v,rfl,⟨hlen,hown⟩,hb⟩
   refine ⟨_,j,rfl,hr.grow hb.size hb.os hb.tape hb.output hb.block,Ext.grow hb.size hb.os hb.tape hb.output hb.block,.tuple rfl ?_⟩
   intro i c v' hi hv'
   match i with
   |0 =>
    cases hi; cases hv'
    refine .plain ?_
    rcases hown with ⟨rfl,h0⟩|⟨g,cap,cur,rfl,hg,hg',hn1,_,hcs,htk⟩
    ·rw [List.length_eq_zero_iff.1 h0]
     exact bF.nil _ _ _
    ·refine .slice _ _ _ _ g 0 1 (fun k=>ym ((cg s).1.getD k [])) (by simp) (by simpa using hn1) (fun _=>rfl) ?_ ?_ ?_
     ·intro x hx
      obtain ⟨b,_,rfl⟩:=List.mem_map.1 hx
      rfl
     ·intro i x k c hx hc
      rw [List.getElem?_map] at hx
      obtain ⟨b,hb',rfl⟩:=Option.map_eq_some_iff.1 hx
      match k with
      |0 =>
       have hi:i<(cg s).1.length:=(List.getElem?_eq_some_iff.1 hb').1
       refine ⟨?_,?_,?_,?_⟩
       ·have h1:cur.toList[i]?=some (ym b):=by
         have:(cur.toList.take ((cg s).1.length*1))[i]?=some (ym b):=by rw [htk,List.getElem?_map,hb']; rfl
         rwa [List.getElem?_take_of_lt (by omega)] at this
        have h2:cur[i]?=some (ym b):=by simpa using h1
        have h3:(cg s).1.getD i []=b:=by simp [List.getD,hb']
        simp only [Nat.mul_one,Nat.add_zero,Nat.zero_add]
        rw [h3]
        simp [World.cell?,hg',h2]
       ·exact lt_of_block hg'
       ·intro id hid hji
        have:=hr.lt id g hid hji; omega
       ·intro hx; have:=hr.qo g _ hx; omega
      |k+1=>cases hc
     ·intro i x k c hx hc
      rw [List.getElem?_map] at hx
      obtain ⟨b,hb',rfl⟩:=Option.map_eq_some_iff.1 hx
      match k with
      |0 =>
       cases hc
       have h3:(cg s).1.getD i []=b:=by simp [List.getD,hb']
       simp only [Nat.mul_one,Nat.add_zero]
       rw [h3]
       exact .str _
      |k+1=>cases hc
   |1=>cases hi; cases hv'; exact .plain (.int _ _)
   |i+2=>cases hi
  ·cases h
 ·cases h
section
attribute [local irreducible] cJ cE gD gK bG kr ai ak aV aF
def jf:∀a:Bytes,strLt a a=false
 | []=>rfl
 |a::x=>by simp [strLt,jf x,UInt8.lt_irrefl]
def oE:∀ {a b c:Bytes},strLt a b=true->strLt b c=true->strLt a c=true
 | [],b,[],_,h2=>by cases b<;>simp [strLt] at h2
 | [],_,_::_,_,_=>rfl
 |_::_,[],_,h1,_=>by simp [strLt] at h1
 |_::_,_::_,[],_,h2=>by simp [strLt] at h2
 |a::x,b::y,c::z,h1,h2=>by
  simp only [strLt,Bool.or_eq_true,Bool.and_eq_true,decide_eq_true_eq,beq_iff_eq] at h1 h2 ⊢
  simp only [UInt8.lt_iff_toNat_lt] at h1 h2 ⊢
  rcases h1 with h1|⟨h1,h1'⟩
  ·rcases h2 with h2|⟨h2,_⟩
   ·left; omega
   ·left; rw [<-h2]; exact h1
  ·rcases h2 with h2|⟨h2,h2'⟩
   ·left; rw [h1]; exact h2
   ·right; exact ⟨h1.trans h2,oE h1' h2'⟩
def jG {l:List b9} (h:iJ l) (s:Bytes):ze l s (eR l s):=by
 unfold eR
 induction l with
 |nil=>exact ⟨by simp,fun h n hn=>by simp at hn⟩
 |cons a r ih =>
  obtain ⟨h1,h2⟩:=List.pairwise_cons.1 h
  obtain ⟨i1,i2⟩:=ih h2
  by_cases ha:strLt a.name s=true
  ·rw [List.takeWhile_cons,if_pos ha]
   refine ⟨by simpa using i1,fun k n hn=>?_⟩
   cases k with
   |zero=>simp at hn; subst hn; simp [ha]
   |succ k=>rw [i2 k n (by simpa using hn)]; simp
  ·rw [List.takeWhile_cons,if_neg ha]
   refine ⟨by simp,fun k n hn=>?_⟩
   simp only [List.length_nil,Nat.not_lt_zero,iff_false]
   cases k with
   |zero=>simp at hn; subst hn; exact ha
   |succ k=>exact fun hc=>ha (oE (h1 n (List.mem_of_getElem? (by simpa using hn))) hc)
def dr {l:List b9} {s:Bytes} {e:b9} (h:ck l s=some e):e∈l/\e.name=s:=by
 unfold ck at h
 exact ⟨List.mem_of_find?_eq_some h,by simpa using List.find?_some h⟩
def nM {l:List b9} (h:iJ l) (s:Bytes):(rm l s (eR l s)=true/\∃n,l[eR l s]?=some n/\ck l s=some n/\n.name=s)\/(rm l s (eR l s)=false/\ck l s=none):=by
 obtain ⟨l1,l2⟩:=jG h s
 cases hf:ck l s with
 |some n =>
  left
  obtain ⟨hm,he⟩:=dr hf
  obtain ⟨k,hk⟩:=List.getElem?_of_mem hm
  have hkb:¬k<eR l s:=fun hc=>by have:=(l2 k n hk).2 hc; rw [he,jf] at this; cases this
  have hb:eR l s<l.length:=by have:=(List.getElem?_eq_some_iff.1 hk).1; omega
  have hx:=List.getElem?_eq_getElem hb
  have hnl:¬strLt l[eR l s].name s=true:=fun hc=>Nat.lt_irrefl _ ((l2 _ _ hx).1 hc)
  have hke:k=eR l s:=by
   rcases Nat.lt_or_ge (eR l s) k with hlt|hge
   ·have hkl:=(List.getElem?_eq_some_iff.1 hk).1
    have h3:=List.pairwise_iff_getElem.1 h _ _ hb hkl hlt
    have h4:l[k]=n:=by rw [List.getElem?_eq_getElem hkl] at hk; injection hk
    rw [h4,he] at h3
    exact absurd h3 hnl
   ·omega
  subst hke
  exact ⟨by unfold rm; rw [hk]; simp [he],n,hk,rfl,he⟩
 |none =>
  right
  refine ⟨?_,rfl⟩
  unfold rm
  split
  ·rename_i n hn
   have:=List.find?_eq_none.1 hf n (List.mem_of_getElem? hn)
   simpa using this
  ·rfl
structure ji (t:Tree):Prop where
 gA:gw t.nodes
 av:∀n,n∈t.nodes->iJ n.av
def ji.dir {t:Tree} (h:ji t) (ino:Int):iJ (cP t.nodes ino).1.av:=by
 unfold cP
 split
 ·exact List.Pairwise.nil
 ·rename_i n hn
  split
  ·exact h.av n (aY hn).1
  ·exact List.Pairwise.nil
def aaV (t:Tree) (ino:Int) (s:Bytes) (ht:Small t) (hr:ji t) (hs:s.length<=100000) (ha:fU s):ai aQ 130 [bj t,.int .i64 ino,.str s] []=some (.tuple [.int .i64 (bU t.nodes ino s).1,.int .i64 (bU t.nodes ino s).2],[]):=by
 obtain ⟨nodes,next,af⟩:=t
 have hn:nodes.length<=100000:=ht.nodes
 have hd:(cP nodes ino).1.av.length<=100000:=r8 ht ino
 have hE:iJ (cP nodes ino).1.av:=hr.dir ino
 have hk:=fun b M=>Nj nodes next af ino hr.gA hn 1 (b :: .cells [az nodes,.int .i64 next,.int .i64 af]::M) rfl
 refine aq ?_
 simp only [Hg,Bs,bj,ar,hk,aX,aw,EN,simprocAttr]
 unfold bU
 refine aC (fun hb=>?_) (fun hb=>?_)
 ·simp only [Bs,EN,simprocAttr]
  clear hk
  simp_all
 ·simp only [Bs,RE,hs,ha,EN,simprocAttr]
  refine aC (fun hb'=>?_) (fun hb'=>?_)
  ·simp only [Bs,EN,simprocAttr]
   clear hk
   simp_all
  ·have hk2:=fun a b c d u M=>IV a b c d (cP nodes ino).1.av u s _ (jG hE s) hd M
   simp only [Bs,hk2,EN,simprocAttr]
   rcases nM hE s with ⟨h1,e,h2,h3,_⟩|⟨h1,h2⟩
   ·simp only [Bs,h1,h2,cI,EN,simprocAttr]
    clear hk hk2
    simp_all
   ·simp only [Bs,h1,EN,simprocAttr]
    clear hk hk2
    simp_all
def Ng (nodes:List Node) (next af ino:Int) (s:Bytes) (ht:Small ⟨nodes,next,af⟩) (hr:ji ⟨nodes,next,af⟩) (hs:s.length<=100000) (ha:fU s) (M:ag):ak (ai aQ) 130 [.agg [az nodes,.int .i64 next,.int .i64 af],.int .i64 ino,.str s] M =
  some (.tuple [.int .i64 (bU nodes ino s).1,.int .i64 (bU nodes ino s).2],M):=cO (aaV ⟨nodes,next,af⟩ ino s ht hr hs ha) M
def c86 (t:Tree) (ino:Int) (ht:Small t) (hr:ji t):ai aQ 86 [bj t,.int .i64 ino] []=some (.tuple [aX (aA t.nodes ino),.bool (find t.nodes ino).isSome],[]):=by
 obtain ⟨nodes,next,af⟩:=t
 have hn:nodes.length<=100000:=ht.nodes
 have hk:=fun b c M=>wx nodes next af ino hr.gA hn 2 (b::c :: .cells [az nodes,.int .i64 next,.int .i64 af]::M) rfl
 refine aq ?_
 simp only [Rj,E86,bj,ar,hk,aX,aw,EN,simprocAttr]
abbrev pr (n:Int):ae := .int .i64 n
def rM (l:List Int):wid (l.map pr) 1=True:=by
 simp only [eq_iff_iff,iff_true]
 intro x hx
 obtain ⟨n,_,rfl⟩:=List.mem_map.1 hx
 rfl
def k9 (nodes:List Node):Nat->Int->List Int->List Int
 |0,_,out=>out
 |m+1,ino,out=>if (ino != 1)=true then (if (!(find nodes ino).isSome||(aA nodes ino).kind != 2)=true then out else k9 nodes m (aA nodes ino).up (out++[(aA nodes ino).up])) else out
def ku (nodes:List Node) (ino:Int):List Int:=k9 nodes nodes.length ino [ino]
def N5 {nodes:List Node} {next af:Int} (h:gw nodes) (hn:nodes.length<=100000) {k:List K} {R:List Int->Option (ae×ag)}
  (hx:∀(out:List Int) v q,kr (ai aQ) [.tmp 4] 1 k ⟨.exit 0,[(0,.ptr 0 0),(1,v),(5,.slice (.own 1) (out.map pr)),(22,q)],[.cells [az nodes,.int .i64 next,.int .i64 af],.tick 1 out.length]⟩=R out)
  (hr:∀(out:List Int) b,kr (ai aQ) [.tmp 4] 1 k ⟨.ret,[(4,.slice (.own 1) (out.map pr))],[.cells [az nodes,.int .i64 next,.int .i64 af],.tick 1 out.length,b]⟩=R out) :
  ∀(m:Nat) (ino:Int) (out:List Int),out.length+m=nodes.length+1->cJ (ai aQ) [.tmp 4] 1 k (.loop [0,1,5] NC) [(0,.ptr 0 0),(1,.int .i64 ino),(5,.slice (.own 1) (out.map pr))] [.cells [az nodes,.int .i64 next,.int .i64 af],.tick 1 out.length]=R (k9 nodes m ino out):=by
 intro m
 induction m with
 |zero =>
  intro ino out ho
  rw [aB]
  have hd':((out.length:Int)<=(nodes.length:Int))=False:=by simp; omega
  simp only [ub,EN,simprocAttr]
  repeat' ((first|refine aC (fun hb=>?_) (fun hb=>?_)|refine bc (fun hb=>?_) (fun hb=>?_)|refine bZ (fun hb=>?_) (fun hb=>?_))<;>simp only [hb,EN,ub,hd',simprocAttr])
  all_goals exact hx _ _ _
 |succ m ih =>
  intro ino out ho
  rw [aB]
  have hd':((out.length:Int)<=(nodes.length:Int))=True:=by simp; omega
  have r1:bB (out.length+1) 8=True:=dj (by omega) (by omega)
  have hk:=fun M=>wx nodes next af ino h hn 0 (.cells [az nodes,.int .i64 next,.int .i64 af]::M) rfl
  have hi:=ih (aA nodes ino).up (out++[(aA nodes ino).up]) (by simp; omega)
  simp only [List.map_append,List.map_cons,List.map_nil,List.length_append,List.length_cons,List.length_nil,Nat.zero_add] at hi
  rw [k9]
  simp only [ub,EN,simprocAttr]
  refine bc (fun hb=>?_) (fun hb=>?_)
  ·simp only [ub,hb,hd',hk,aX,aw,EN,simprocAttr]
   refine bc (fun hb1=>?_) (fun hb1=>?_)
   ·simp only [ub,hb1,EN,simprocAttr]
    refine aC (fun hb2=>?_) (fun hb2=>?_)
    ·simp only [ub,hb2,hb1,Bool.or_true,Bool.false_or,EN,simprocAttr]
     exact hr _ _
    ·simp only [ub,hb2,hb1,r1,rM,Bool.or_false,Bool.false_eq_true,EN,simprocAttr]
     exact hi
   ·simp only [ub,hb1,Bool.not_false,Bool.true_or,EN,simprocAttr]
    exact hr _ _
  ·simp only [ub,hb,Bool.not_true,Bool.false_eq_true,EN,simprocAttr]
   exact hx _ _ _
def abA (nodes:List Node) (next af ino:Int) (h:gw nodes) (hn:nodes.length<=100000):ai aQ 209 [.ptr 0 0,.int .i64 ino] [.cells [az nodes,.int .i64 next,.int .i64 af]] =
  some (.slice .sh ((ku nodes ino).map pr),[.cells [az nodes,.int .i64 next,.int .i64 af]]):=by
 refine aq ?_
 simp only [HO,ub,EN,simprocAttr]
 exact N5 (R:=fun out=>some (.slice .sh (out.map pr),[.cells [az nodes,.int .i64 next,.int .i64 af]])) h hn (fun out v q=>by simp only [ub,EN,simprocAttr]) (fun out b=>by simp only [ub,EN,simprocAttr]) nodes.length ino [ino] (by simp; omega)
def RF (nodes:List Node) (next af ino:Int) (h:gw nodes) (hn:nodes.length<=100000) (p:Nat) (M:ag) (hM:nth M p=some (.cells [az nodes,.int .i64 next,.int .i64 af])) :
  ak (ai aQ) 209 [.ptr p 0,.int .i64 ino] M=some (.slice .sh ((ku nodes ino).map pr),M):=by
 have:=gb hM (abA nodes next af ino h hn) rfl rfl rfl rfl rfl rfl rfl rfl rfl rfl
 rwa [gG hM] at this
def pf (nodes:List Node):∀(m:Nat) (ino:Int) (out:List Int),out.length<=(k9 nodes m ino out).length/\(k9 nodes m ino out).length<=out.length+m
 |0,_,out=>⟨Nat.le_refl _,Nat.le_refl _⟩
 |m+1,ino,out=>by
  rw [k9]
  split
  ·split
   ·exact ⟨Nat.le_refl _,by omega⟩
   ·have:=pf nodes m (aA nodes ino).up (out++[(aA nodes ino).up])
    simp at this
    omega
  ·exact ⟨Nat.le_refl _,by omega⟩
def lf (nodes:List Node) (ino:Int):1<=(ku nodes ino).length/\(ku nodes ino).length<=nodes.length+1:=by
 have:=pf nodes nodes.length ino [ino]
 simp at this
 unfold ku
 omega
def abV (nodes:List Node) (next af ino:Int) (h:gw nodes) (hn:nodes.length<=100000):ai aQ 254 [.ptr 0 0,.int .i64 ino] [.cells [az nodes,.int .i64 next,.int .i64 af]] =
  some (.int .i64 (((ku nodes ino).length-1:Nat):Int),[.cells [az nodes,.int .i64 next,.int .i64 af]]):=by
 refine aq ?_
 have hk:=fun M=>RF nodes next af ino h hn 0 (.cells [az nodes,.int .i64 next,.int .i64 af]::M) rfl
 have hl:=lf nodes ino
 have hw:IntKind.i64.wrap (((ku nodes ino).length:Int)-1)=(((ku nodes ino).length-1:Nat):Int):=by rw [bD (by omega) (by omega)]; omega
 simp only [Ia,aao,hk,hw,EN,simprocAttr]
def Xe (nodes:List Node) (next af ino:Int) (h:gw nodes) (hn:nodes.length<=100000) (p:Nat) (M:ag) (hM:nth M p=some (.cells [az nodes,.int .i64 next,.int .i64 af])) :
  ak (ai aQ) 254 [.ptr p 0,.int .i64 ino] M=some (.int .i64 (((ku nodes ino).length-1:Nat):Int),M):=by
 have:=gb hM (abV nodes next af ino h hn) rfl rfl rfl rfl rfl rfl rfl rfl rfl rfl
 rwa [gG hM] at this
def tg (n:Node) (rest:List Node):∀(pre out:List Node),(∀m,m∈pre->m.ino<n.ino)->gQ n (pre++rest) out false=gQ n rest (out++pre) false
 | [],out,_=>by simp
 |m::r,out,h=>by
  have hm:=h m (List.mem_cons_self ..)
  have h1:¬n.ino<=m.ino:=by omega
  have h2:¬m.ino=n.ino:=by omega
  rw [List.cons_append,gQ]
  simp only [ge_iff_le,h1,h2,decide_false,Bool.and_false,Bool.or_false,Bool.false_eq_true,if_false]
  rw [tg n rest r _ fun x hx=>h x (List.mem_cons_of_mem _ hx)]
  simp
def qk (n:Node):∀(rest out:List Node),(∀m,m∈rest->n.ino<m.ino)->gQ n rest out true=(out++rest,true)
 | [],out,_=>by simp [gQ]
 |m::r,out,h=>by
  have hm:=h m (List.mem_cons_self ..)
  have h2:¬m.ino=n.ino:=by omega
  rw [gQ]
  simp only [Bool.not_true,Bool.false_and,h2,Bool.true_or,Bool.false_eq_true,if_false]
  rw [qk n r _ fun x hx=>h x (List.mem_cons_of_mem _ hx)]
  simp
def mJ {nodes:List Node} {ino:Int} {b:Nat} (h:Eo nodes ino b):∀m,m∈nodes.take b->m.ino<ino:=fun m hm=>by
 obtain ⟨k,hk⟩:=List.getElem?_of_mem hm
 rw [List.getElem?_take] at hk
 split at hk
 ·rename_i hlt; exact (h.lt k m hk).2 hlt
 ·cases hk
def wQ {nodes:List Node} {ino:Int} {b:Nat} (h:Eo nodes ino b):∀m,m∈nodes.drop b->ino<=m.ino:=fun m hm=>by
 obtain ⟨k,hk⟩:=List.getElem?_of_mem hm
 rw [List.getElem?_drop] at hk
 have:=h.lt _ m hk
 have hn:¬b+k<b:=by omega
 have:=fun hc=>hn (this.1 hc)
 omega
def pg {nodes:List Node} (h:gw nodes) {n:Node} (hf:find nodes n.ino=none):bL nodes n=nodes.take (eD nodes n.ino)++n::nodes.drop (eD nodes n.ino):=by
 have hl:=lB h n.ino
 have hd:∀m,m∈nodes.drop (eD nodes n.ino)->n.ino<m.ino:=fun m hm=>by
  have h1:=wQ hl m hm
  have h2:=List.find?_eq_none.1 hf m (List.mem_of_mem_drop hm)
  have:¬m.ino=n.ino:=by simpa using h2
  omega
 unfold bL
 rw [show gQ n nodes [] false=gQ n (nodes.take (eD nodes n.ino)++nodes.drop (eD nodes n.ino)) [] false by rw [List.take_append_drop]]
 rw [tg n _ _ _ (mJ hl)]
 generalize nodes.drop (eD nodes n.ino)=rest at hd
 cases rest with
 |nil=>simp [gQ]
 |cons m r =>
  have hm:=hd m (List.mem_cons_self ..)
  have h1:n.ino<=m.ino:=by omega
  have h2:¬m.ino=n.ino:=by omega
  rw [gQ]
  simp only [ge_iff_le,h1,h2,decide_true,Bool.not_false,Bool.and_true,Bool.or_true,if_true,if_false]
  rw [qk n r _ fun x hx=>hd x (List.mem_cons_of_mem _ hx)]
  simp
def kE {nodes:List Node} (h:gw nodes) {n o:Node} (ho:nodes[eD nodes n.ino]?=some o) (he:o.ino=n.ino):bL nodes n=nodes.set (eD nodes n.ino) n:=by
 have hl:=lB h n.ino
 have hlt:=(List.getElem?_eq_some_iff.1 ho).1
 have hdr:nodes.drop (eD nodes n.ino)=o::nodes.drop (eD nodes n.ino+1):=by
  rw [List.drop_eq_getElem_cons hlt]
  rw [List.getElem?_eq_getElem hlt] at ho; injection ho with ho; rw [ho]
 have hd:∀m,m∈nodes.drop (eD nodes n.ino+1)->n.ino<m.ino:=fun m hm=>by
  obtain ⟨k,hk⟩:=List.getElem?_of_mem hm
  rw [List.getElem?_drop] at hk
  have hkl:=(List.getElem?_eq_some_iff.1 hk).1
  have h3:=List.pairwise_iff_getElem.1 h _ _ hlt hkl (by omega)
  have h4:nodes[eD nodes n.ino+1+k]=m:=by rw [List.getElem?_eq_getElem hkl] at hk; injection hk
  have h5:nodes[eD nodes n.ino]=o:=by rw [List.getElem?_eq_getElem hlt] at ho; injection ho
  rw [h4,h5] at h3
  omega
 unfold bL
 rw [show gQ n nodes [] false=gQ n (nodes.take (eD nodes n.ino)++nodes.drop (eD nodes n.ino)) [] false by rw [List.take_append_drop]]
 rw [tg n _ _ _ (mJ hl),hdr,gQ]
 simp only [ge_iff_le,he,Int.le_refl,decide_true,Bool.not_false,Bool.and_true,Bool.or_true,if_true,List.append_nil]
 rw [qk n _ _ hd,List.set_eq_take_append_cons_drop,if_pos hlt]
 simp
def p85 {nodes:List Node} (h0:nodes≠[]) (hn:nodes.length<=100000) (M:ag):ai aQ 255 [az nodes] M=some (.aZ M.length 0 6 0 nodes.length,M++[.arr 6 0 (nodes.map aX)]):=by
 refine bz (g:=fg 6 80) rfl ?_
 obtain ⟨a,r,rfl⟩:=List.exists_cons_of_ne_nil h0
 have hw:wid ((a::r).map aX) 6:=by have:=xT (a::r); simpa using this
 have hr:bB ((a::r).map aX).length 80:=by have:=dj (a:=(a::r).length) (b:=80) (by omega) (by omega); simpa using this
 unfold fg
 simp only [List.map_cons] at hw hr ⊢
 rw [aM ⟨hw,hr⟩]
 simp
def p86 {nodes:List Node} {b:Nat} (hb:b<=nodes.length) (hn:nodes.length<=100000) (n:Node) (c0 c1:aK) :
  ai aQ 256 [.aZ 2 0 6 0 nodes.length,.int .i64 b,.slice .sh [.agg (aw n)]] [c0,c1,.arr 6 0 (nodes.map aX)]=some (.aZ 2 1 6 0 (nodes.length+1),[c0,c1,.arr 6 1 ((nodes.take b++n::nodes.drop b).map aX)]):=by
 refine bz (g:=ef 6 80) rfl ?_
 have hr:bB ((nodes.map aX).length+1) 80:=by have:=dj (a:=nodes.length+1) (b:=80) (by omega) (by omega); simpa using this
 unfold ef
 simp only [nth]
 rw [aM ⟨trivial,trivial,trivial,by simp,by omega,by simpa using hb,rfl,hr⟩]
 simp [cS,aX]
def LU (nodes:List Node) (b:Nat) (o n:Node) (h:nodes[b]?=some o):(cS (nodes.map aX) b (putCells (aX o) 0 (aw n)))=(nodes.set b n).map aX:=by
 have:putCells (aX o) 0 (aw n)=aX n:=rfl
 rw [this,cd,List.map_set]
def abp (nodes:List Node) (next af:Int) (n:Node) (h:gw nodes) (h0:nodes≠[]) (hn:nodes.length<=100000):ai aQ 197 [.ptr 0 0,aX n] [.cells [az nodes,.int .i64 next,.int .i64 af]] =
  some (.tuple [],[.cells [az (bL nodes n),.int .i64 next,.int .i64 af]]):=by
 refine aq ?_
 have hk:=fun M=>RG nodes next af n.ino h hn 0 (.cells [az nodes,.int .i64 next,.int .i64 af]::M) rfl
 have hp:=fun M=>p85 h0 hn M
 have hle:=(lB h n.ino).le
 simp only [HF,Qi,aX,aw,hk,hp,EN,simprocAttr]
 rcases ke h n.ino with ⟨h1,o,h2,h3,h4⟩|⟨h1,h2⟩
 ·have hlt:((eD nodes n.ino:Int)<(nodes.length:Int))=True:=by have:=(List.getElem?_eq_some_iff.1 h2).1; simp; omega
  simp only [Qi,h1,h2,hlt,Nat.sub_zero,List.getElem?_cons_zero,List.getElem?_cons_succ,EN,simprocAttr]
  have e:=LU nodes _ o n h2
  simp only [aw] at e
  rw [e,kE h h2 h4,List.take_of_length_le (by simp)]
 ·have hi:=fun c0 c1=>p86 hle hn n c0 c1
  simp only [aw] at hi
  simp only [Qi,h1,hi,List.getElem?_cons_zero,List.getElem?_cons_succ,EN,simprocAttr]
  rw [pg h h2,List.take_of_length_le (by simp; omega)]
def Cq (nodes:List Node) (next af a b c:Int) (d:Bytes) (e:List b9) (u:Int) (h:gw nodes) (h0:nodes≠[]) (hn:nodes.length<=100000) (p:Nat) (M:ag) (hM:nth M p=some (.cells [az nodes,.int .i64 next,.int .i64 af])) :
  ak (ai aQ) 197 [.ptr p 0,.agg [.int .i64 a,.int .i64 b,.int .i64 c,dg d,fa e,.int .i64 u]] M=some (.tuple [],cS M p (.cells [az (bL nodes ⟨a,b,c,d,e,u⟩),.int .i64 next,.int .i64 af])) :=
 gb hM (abp nodes next af ⟨a,b,c,d,e,u⟩ h h0 hn) rfl rfl rfl rfl rfl rfl rfl rfl rfl rfl
def FZ:(∀M cs,ae.mY M (.agg cs) = .agg (cs.map (ae.gr M)))/\(∀M i o,ae.mY M (.ptr i o) = .ptr i o)/\(∀M k n,ae.mY M (.int k n) = .int k n)/\(∀M s,ae.mY M (.str s) = .str s) /\
  (∀M k n,ae.gr M (.int k n) = .int k n)/\(∀M s,ae.gr M (.str s) = .str s)/\(∀M tk xs,ae.gr M (.slice tk xs) = .slice tk xs)/\(∀M b,ae.gr M (.bool b) = .bool b) /\
  (∀M id ver sz lo hi,ae.gr M (.aZ id ver sz lo hi)=match nth M id with
   |some (.arr _ v xs)=>if v=ver then .slice .sh ((xs.take hi).drop lo) else .any
   |_ => .any)/\(∀i a b c d,ae.fz (.aZ i a b c d)=[i]):=by
 refine ⟨?_,?_,?_,?_,?_,?_,?_,?_,?_,?_⟩<;>intros<;>rfl
def rP {nodes:List Node} (h:gw nodes) {ino:Int} {o:Node} (ho:nodes[eD nodes ino]?=some o) (he:o.ino=ino):ct nodes ino=nodes.take (eD nodes ino)++nodes.drop (eD nodes ino+1):=by
 have hl:=lB h ino
 have hlt:=(List.getElem?_eq_some_iff.1 ho).1
 have hd:∀m,m∈nodes.drop (eD nodes ino+1)->ino<m.ino:=fun m hm=>by
  obtain ⟨k,hk⟩:=List.getElem?_of_mem hm
  rw [List.getElem?_drop] at hk
  have hkl:=(List.getElem?_eq_some_iff.1 hk).1
  have h3:=List.pairwise_iff_getElem.1 h _ _ hlt hkl (by omega)
  have h4:nodes[eD nodes ino+1+k]=m:=by rw [List.getElem?_eq_getElem hkl] at hk; injection hk
  have h5:nodes[eD nodes ino]=o:=by rw [List.getElem?_eq_getElem hlt] at ho; injection ho
  rw [h4,h5] at h3
  omega
 have hdr:nodes.drop (eD nodes ino)=o::nodes.drop (eD nodes ino+1):=by
  rw [List.drop_eq_getElem_cons hlt]
  rw [List.getElem?_eq_getElem hlt] at ho; injection ho with ho; rw [ho]
 unfold ct
 rw [show nodes.filter (fun n=>n.ino != ino)=(nodes.take (eD nodes ino)++nodes.drop (eD nodes ino)).filter (fun n=>n.ino != ino) by rw [List.take_append_drop]]
 rw [List.filter_append,hdr,List.filter_cons]
 simp only [he,bne_self_eq_false,Bool.false_eq_true,if_false]
 rw [List.filter_eq_self.2 fun m hm=>by have:=mJ hl m hm; simp; omega,List.filter_eq_self.2 fun m hm=>by have:=hd m hm; simp; omega]
def pL {nodes:List Node} {ino:Int} (hf:find nodes ino=none):ct nodes ino=nodes :=
 List.filter_eq_self.2 fun m hm=>by simpa using List.find?_eq_none.1 hf m hm
def aeA {nodes:List Node} {b:Nat} (hb:b<nodes.length) (hn:nodes.length<=100000) (c0:aK) :
  ai aQ 294 [.aZ 1 0 6 0 nodes.length,.int .i64 b,.int .i64 ((b+1:Nat):Int)] [c0,.arr 6 0 (nodes.map aX)]=some (.aZ 1 1 6 0 (nodes.length-1),[c0,.arr 6 1 ((nodes.take b++nodes.drop (b+1)).map aX)]):=by
 refine bz (g:=eB 6) rfl ?_
 unfold eB
 simp only [nth]
 rw [aM ⟨trivial,trivial,trivial,by simp,by omega,by simpa using hb,by omega,by simp; omega⟩]
 simp [cS]
def abW (nodes:List Node) (next af ino:Int) (h:gw nodes) (hn:nodes.length<=100000):ai aQ 258 [.ptr 0 0,.int .i64 ino] [.cells [az nodes,.int .i64 next,.int .i64 af]] =
  some (.tuple [],[.cells [az (ct nodes ino),.int .i64 next,.int .i64 af]]):=by
 refine aq ?_
 have hk:=fun M=>RG nodes next af ino h hn 0 (.cells [az nodes,.int .i64 next,.int .i64 af]::M) rfl
 simp only [Ib,Ql,hk,EN,simprocAttr]
 rcases ke h ino with ⟨h1,o,h2,h3,h4⟩|⟨h1,h2⟩
 ·have hlt:=(List.getElem?_eq_some_iff.1 h2).1
  have h0:nodes≠[]:=by rintro rfl; simp at h2
  have hp:=fun M=>p85 h0 hn M
  have hd:=fun c0=>aeA hlt hn c0
  have hw:IntKind.i64.wrap ((eD nodes ino:Int)+1)=((eD nodes ino+1:Nat):Int):=by rw [bD (by omega) (by omega)]; rfl
  simp only [Ql,h1,hp,hd,hw,List.getElem?_cons_zero,List.getElem?_cons_succ,EN,simprocAttr]
  rw [rP h h2 h4,List.take_of_length_le (by simp; omega)]
 ·simp only [Ql,h1,EN,simprocAttr]
  rw [pL h2]
def Xf (nodes:List Node) (next af ino:Int) (h:gw nodes) (hn:nodes.length<=100000) (p:Nat) (M:ag) (hM:nth M p=some (.cells [az nodes,.int .i64 next,.int .i64 af])) :
  ak (ai aQ) 258 [.ptr p 0,.int .i64 ino] M=some (.tuple [],cS M p (.cells [az (ct nodes ino),.int .i64 next,.int .i64 af])) :=
 gb hM (abW nodes next af ino h hn) rfl rfl rfl rfl rfl rfl rfl rfl rfl rfl
def CY {a b:Bytes} (h:strLt a b=true):strLt b a=false:=by
 cases hb:strLt b a with
 |false=>rfl
 |true=>have:=oE h hb; rw [jf] at this; cases this
def oD:∀(a b:Bytes),strLt a b=true\/a=b\/strLt b a=true
 | [],[] => .inr (.inl rfl)
 | [],_::_ => .inl rfl
 |_::_,[] => .inr (.inr rfl)
 |a::x,b::y=>by
  simp only [strLt,Bool.or_eq_true,Bool.and_eq_true,decide_eq_true_eq,beq_iff_eq,List.cons.injEq,UInt8.lt_iff_toNat_lt]
  rcases oD x y with h|h|h
  ·rcases Nat.lt_trichotomy a.toNat b.toNat with h1|h1|h1
   ·exact .inl (.inl h1)
   ·exact .inl (.inr ⟨UInt8.toNat_inj.1 h1,h⟩)
   ·exact .inr (.inr (.inl h1))
  ·rcases Nat.lt_trichotomy a.toNat b.toNat with h1|h1|h1
   ·exact .inl (.inl h1)
   ·exact .inr (.inl ⟨UInt8.toNat_inj.1 h1,h⟩)
   ·exact .inr (.inr (.inl h1))
  ·rcases Nat.lt_trichotomy a.toNat b.toNat with h1|h1|h1
   ·exact .inl (.inl h1)
   ·exact .inr (.inr (.inr ⟨(UInt8.toNat_inj.1 h1).symm,h⟩))
   ·exact .inr (.inr (.inl h1))
def E7 {a b:Bytes} (h:strLt a b=true):Ru a b=false:=by simp [Ru,h]
def E6 {a b:Bytes} (h:strLt b a=true):Ru a b=true:=by
 have h1:=CY h
 have h2:¬a=b:=by rintro rfl; rw [jf] at h; cases h
 simp [Ru,h1,h2]
def Aq (e:b9) (rest:List b9):∀(pre out:List b9),(∀m,m∈pre->strLt m.name e.name=true)->n9 e (pre++rest) out false=n9 e rest (out++pre) false
 | [],out,_=>by simp
 |m::r,out,h=>by
  rw [List.cons_append,n9,E7 (h m (List.mem_cons_self ..))]
  simp only [Bool.and_false,Bool.or_false,Bool.false_eq_true,if_false]
  rw [Aq e rest r _ fun x hx=>h x (List.mem_cons_of_mem _ hx)]
  simp
def xg (e:b9):∀(rest out:List b9),n9 e rest out true=(out++rest,true)
 | [],out=>by simp [n9]
 |m::r,out=>by
  rw [n9]
  simp only [Bool.not_true,Bool.false_and,Bool.true_or,Bool.false_eq_true,if_false]
  rw [xg e r]
  simp
def td {l:List b9} {s:Bytes} {b:Nat} (h:ze l s b):∀m,m∈l.take b->strLt m.name s=true:=fun m hm=>by
 obtain ⟨k,hk⟩:=List.getElem?_of_mem hm
 rw [List.getElem?_take] at hk
 split at hk
 ·rename_i hlt; exact (h.lt k m hk).2 hlt
 ·cases hk
def uW {l:List b9} {s:Bytes} {b:Nat} (h:ze l s b):∀m,m∈l.drop b->strLt m.name s=false:=fun m hm=>by
 obtain ⟨k,hk⟩:=List.getElem?_of_mem hm
 rw [List.getElem?_drop] at hk
 have:=h.lt _ m hk
 have hn:¬b+k<b:=by omega
 cases hc:strLt m.name s with
 |false=>rfl
 |true=>exact absurd (this.1 hc) hn
def mr {l:List b9} (h:iJ l) {e:b9} (hf:ck l e.name=none):ri l e=l.take (eR l e.name)++e::l.drop (eR l e.name):=by
 have hl:=jG h e.name
 have hd:∀m,m∈l.drop (eR l e.name)->strLt e.name m.name=true:=fun m hm=>by
  have h1:=uW hl m hm
  have h2:=List.find?_eq_none.1 hf m (List.mem_of_mem_drop hm)
  have h3:¬m.name=e.name:=by simpa using h2
  rcases oD m.name e.name with h4|h4|h4
  ·rw [h1] at h4; cases h4
  ·exact absurd h4 h3
  ·exact h4
 unfold ri
 rw [show n9 e l [] false=n9 e (l.take (eR l e.name)++l.drop (eR l e.name)) [] false by rw [List.take_append_drop]]
 rw [Aq e _ _ _ (td hl)]
 generalize l.drop (eR l e.name)=rest at hd
 cases rest with
 |nil=>simp [n9]
 |cons m r =>
  rw [n9,E6 (hd m (List.mem_cons_self ..))]
  simp only [Bool.not_false,Bool.and_true,Bool.or_true,if_true]
  rw [xg]
  simp
def wP {l:List b9} (h:iJ l) {s:Bytes} {o:b9} (ho:l[eR l s]?=some o) (he:o.name=s):dR l s=l.take (eR l s)++l.drop (eR l s+1):=by
 have hl:=jG h s
 have hlt:=(List.getElem?_eq_some_iff.1 ho).1
 have hdr:l.drop (eR l s)=o::l.drop (eR l s+1):=by
  rw [List.drop_eq_getElem_cons hlt]
  rw [List.getElem?_eq_getElem hlt] at ho; injection ho with ho; rw [ho]
 have hd:∀m,m∈l.drop (eR l s+1)->strLt s m.name=true:=fun m hm=>by
  obtain ⟨k,hk⟩:=List.getElem?_of_mem hm
  rw [List.getElem?_drop] at hk
  have hkl:=(List.getElem?_eq_some_iff.1 hk).1
  have h3:=List.pairwise_iff_getElem.1 h _ _ hlt hkl (by omega)
  have h4:l[eR l s+1+k]=m:=by rw [List.getElem?_eq_getElem hkl] at hk; injection hk
  have h5:l[eR l s]=o:=by rw [List.getElem?_eq_getElem hlt] at ho; injection ho
  rw [h4,h5,he] at h3
  exact h3
 have ne:∀ {a b:Bytes},strLt a b=true->¬a=b:=fun {a b} h=>by rintro rfl; rw [jf] at h; cases h
 unfold dR
 rw [show l.filter (fun n=>n.name != s)=(l.take (eR l s)++l.drop (eR l s)).filter (fun n=>n.name != s) by rw [List.take_append_drop]]
 rw [List.filter_append,hdr,List.filter_cons]
 simp only [he,bne_self_eq_false,Bool.false_eq_true,if_false]
 rw [List.filter_eq_self.2 fun m hm=>by simpa using ne (td hl m hm),List.filter_eq_self.2 fun m hm=>by simpa using fun hc=>ne (hd m hm) hc.symm]
def B6 {l:List b9} {s:Bytes} (hf:ck l s=none):dR l s=l :=
 List.filter_eq_self.2 fun m hm=>by simpa using List.find?_eq_none.1 hf m hm
def p58 {l:List b9} (h0:l≠[]) (hn:l.length<=100000) (M:ag):ai aQ 214 [fa l] M=some (.aZ M.length 0 3 0 l.length,M++[.arr 3 0 (l.map cQ)]):=by
 refine bz (g:=fg 3 32) rfl ?_
 obtain ⟨a,r,rfl⟩:=List.exists_cons_of_ne_nil h0
 have hw:wid ((a::r).map cQ) 3:=by have:=Bn (a::r); simpa using this
 have hr:bB ((a::r).map cQ).length 32:=by have:=dj (a:=(a::r).length) (b:=32) (by omega) (by omega); simpa using this
 unfold fg
 simp only [List.map_cons] at hw hr ⊢
 rw [aM ⟨hw,hr⟩]
 simp
def Zj (M:ag):ai aQ 214 [.slice .sh []] M=some (.slice .c0 [],M):=bz (g:=fg 3 32) rfl rfl
def p87 {l:List b9} {b:Nat} (hb:b<=l.length) (hn:l.length<=100000) (e:b9) (c0 c1:aK) :
  ai aQ 257 [.aZ 2 0 3 0 l.length,.int .i64 b,.slice .sh [.agg (cI e)]] [c0,c1,.arr 3 0 (l.map cQ)]=some (.aZ 2 1 3 0 (l.length+1),[c0,c1,.arr 3 1 ((l.take b++e::l.drop b).map cQ)]):=by
 refine bz (g:=ef 3 32) rfl ?_
 have hr:bB ((l.map cQ).length+1) 32:=by have:=dj (a:=l.length+1) (b:=32) (by omega) (by omega); simpa using this
 unfold ef
 simp only [nth]
 rw [aM ⟨trivial,trivial,trivial,by simp,by omega,by simpa using hb,rfl,hr⟩]
 simp [cS,cQ]
def aeC (e:b9) (M:ag):ai aQ 257 [.slice .c0 [],.int .i64 0,.slice .sh [.agg (cI e)]] M=some (.aZ M.length 0 3 0 1,M++[.arr 3 0 [.agg (cI e)]]):=by
 refine bz (g:=ef 3 32) rfl ?_
 show aV ((0:Int)=0/\(ae.agg (cI e)).cells.length=3) _=_
 exact aM ⟨rfl,rfl⟩
def p84 {l:List b9} {b:Nat} (hb:b<l.length) (hn:l.length<=100000) (c0 c1:aK) :
  ai aQ 260 [.aZ 2 0 3 0 l.length,.int .i64 b,.int .i64 ((b+1:Nat):Int)] [c0,c1,.arr 3 0 (l.map cQ)]=some (.aZ 2 1 3 0 (l.length-1),[c0,c1,.arr 3 1 ((l.take b++l.drop (b+1)).map cQ)]):=by
 refine bz (g:=eB 3) rfl ?_
 unfold eB
 simp only [nth]
 rw [aM ⟨trivial,trivial,trivial,by simp,by omega,by simpa using hb,by omega,by simp; omega⟩]
 simp [cS]
def C6 {nodes:List Node} (h:gw nodes) {n:Node} (hf:find nodes n.ino=some n):bL nodes n=nodes:=by
 rcases ke h n.ino with ⟨_,o,h2,h3,h4⟩|⟨_,h2⟩
 ·rw [hf] at h3; injection h3 with h3; subst h3
  rw [kE h h2 rfl]
  apply List.ext_getElem?
  intro i
  by_cases e:eD nodes n.ino=i
  ·subst e; rw [List.getElem?_set_self (List.getElem?_eq_some_iff.1 h2).1,h2]
  ·rw [List.getElem?_set_ne e]
 ·rw [hf] at h2; cases h2
def c198 (nodes:List Node) (next af dir:Int) (s:Bytes) (ino:Int) (h:gw nodes) (hn:nodes.length<=100000) {n:Node} (hf:find nodes dir=some n) (hE:iJ n.av) (hl:n.av.length<=99999) (hs:ck n.av s=none) :
  ai aQ 198 [.ptr 0 0,.int .i64 dir,.str s,.int .i64 ino] [.cells [az nodes,.int .i64 next,.int .i64 af]]=some (.tuple [],[.cells (ar (dh ⟨nodes,next,af⟩ dir s ino))]):=by
 refine aq ?_
 have h0:nodes≠[]:=by rintro rfl; simp [find] at hf
 have hnn:aA nodes dir=n:=by simp [aA,hf]
 have hk:=fun M=>wx nodes next af dir h hn 0 (.cells [az nodes,.int .i64 next,.int .i64 af]::M) rfl
 have hk2:=fun a b c d u M=>IV a b c d n.av u s _ (jG hE s) (by omega) M
 have hle:=(jG hE s).le
 have hres:dh ⟨nodes,next,af⟩ dir s ino=⟨bL nodes { n with av:=n.av.take (eR n.av s)++⟨s,ino,af⟩::n.av.drop (eR n.av s) },next,fR (af+1)⟩:=by
  have:=mr hE (e:=⟨s,ino,af⟩) hs
  simp only [dh,hf,Option.getD_some,this]
 rw [hres,ar]
 have hp:=fun a b c d e u M=>Cq nodes next (fR (af+1)) a b c d e u h h0 hn 0 (.cells [az nodes,.int .i64 next,.int .i64 (fR (af+1))]::M) rfl
 simp only [HG,Gr,hk,hnn,aX,aw,hk2,EN,simprocAttr]
 by_cases hne:n.av=[]
 ·have hlow:eR n.av s=0:=by rw [hne]; rfl
  have hi:=fun M=>aeC ⟨s,ino,af⟩ M
  simp only [cI] at hi
  have hlow0:eR [] s=0:=rfl
  have hc0:((0:Nat):Int)=0:=rfl
  simp only [Gr,hne,hlow0,hc0,fa,List.map_nil,Zj,hi,FZ,kh,List.take_nil,List.drop_nil,List.nil_append,EN,simprocAttr]
  rw [show ae.slice .sh [ae.agg [.str s,.int .i64 ino,.int .i64 af]]=fa [⟨s,ino,af⟩] from rfl]
  simp only [Gr,hp,EN,simprocAttr]
 ·have hc:=fun M=>p58 hne (show n.av.length<=100000 by omega) M
  have hi:=fun c0 c1=>p87 hle (show n.av.length<=100000 by omega) ⟨s,ino,af⟩ c0 c1
  simp only [cI] at hi
  simp only [Gr,hc,hi,FZ,kh,EN,simprocAttr]
  have ht:List.take (n.av.length+1) (List.map cQ (List.take (eR n.av s) n.av++⟨s,ino,af⟩::List.drop (eR n.av s) n.av))=List.map cQ (List.take (eR n.av s) n.av++⟨s,ino,af⟩::List.drop (eR n.av s) n.av):=List.take_of_length_le (by simp; omega)
  rw [ht]
  simp only [Gr,hp,EN,simprocAttr]
def Ni (nodes:List Node) (next af dir:Int) (s:Bytes) (ino:Int) (h:gw nodes) (hn:nodes.length<=100000) {n:Node} (hf:find nodes dir=some n) (hE:iJ n.av) (hl:n.av.length<=99999) (hs:ck n.av s=none) (p:Nat) (M:ag) (hM:nth M p=some (.cells [az nodes,.int .i64 next,.int .i64 af])) :
  ak (ai aQ) 198 [.ptr p 0,.int .i64 dir,.str s,.int .i64 ino] M=some (.tuple [],cS M p (.cells (ar (dh ⟨nodes,next,af⟩ dir s ino)))) :=
 gb hM (c198 nodes next af dir s ino h hn hf hE hl hs) rfl rfl rfl rfl rfl rfl rfl rfl rfl rfl
def abv (nodes:List Node) (next af dir:Int) (s:Bytes) (h:gw nodes) (hn:nodes.length<=100000) {n:Node} (hf:find nodes dir=some n) (hE:iJ n.av) (hl:n.av.length<=99999) :
  ai aQ 204 [.ptr 0 0,.int .i64 dir,.str s] [.cells [az nodes,.int .i64 next,.int .i64 af]]=some (.tuple [],[.cells [az (bu nodes dir s),.int .i64 next,.int .i64 af]]):=by
 refine aq ?_
 have h0:nodes≠[]:=by rintro rfl; simp [find] at hf
 have hnn:aA nodes dir=n:=by simp [aA,hf]
 have hino:n.ino=dir:=(aY hf).2
 have hk:=fun M=>wx nodes next af dir h hn 0 (.cells [az nodes,.int .i64 next,.int .i64 af]::M) rfl
 have hk2:=fun a b c d u M=>IV a b c d n.av u s _ (jG hE s) (by omega) M
 have hp:=fun a b c d e u M=>Cq nodes next af a b c d e u h h0 hn 0 (.cells [az nodes,.int .i64 next,.int .i64 af]::M) rfl
 have hres:bu nodes dir s=bL nodes { n with av:=dR n.av s }:=by simp only [bu,hf,Option.getD_some]
 rw [hres]
 simp only [HK,Mg,hk,hnn,aX,aw,hk2,EN,simprocAttr]
 rcases nM hE s with ⟨h1,o,h2,h3,h4⟩|⟨h1,h2⟩
 ·have hlt:=(List.getElem?_eq_some_iff.1 h2).1
  have hne:n.av≠[]:=by intro hc; rw [hc] at h2; simp at h2
  have hc:=fun M=>p58 hne (show n.av.length<=100000 by omega) M
  have hd:=fun c0 c1=>p84 hlt (show n.av.length<=100000 by omega) c0 c1
  have hw:IntKind.i64.wrap ((eR n.av s:Int)+1)=((eR n.av s+1:Nat):Int):=by rw [bD (by omega) (by omega)]; rfl
  simp only [Mg,h1,hc,hd,hw,FZ,kh,EN,simprocAttr]
  have ht:List.take (n.av.length-1) (List.map cQ (List.take (eR n.av s) n.av++List.drop (eR n.av s+1) n.av))=List.map cQ (List.take (eR n.av s) n.av++List.drop (eR n.av s+1) n.av):=List.take_of_length_le (by simp; omega)
  rw [ht]
  simp only [Mg,hp,EN,simprocAttr]
  rw [wP hE h2 h4]
 ·simp only [Mg,h1,EN,simprocAttr]
  rw [B6 h2]
  have:bL nodes n=nodes:=C6 h (by rw [hino]; exact hf)
  rw [show ({ n with av:=n.av }:Node)=n from rfl,this]
def RD (nodes:List Node) (next af dir:Int) (s:Bytes) (h:gw nodes) (hn:nodes.length<=100000) {n:Node} (hf:find nodes dir=some n) (hE:iJ n.av) (hl:n.av.length<=99999) (p:Nat) (M:ag) (hM:nth M p=some (.cells [az nodes,.int .i64 next,.int .i64 af])) :
  ak (ai aQ) 204 [.ptr p 0,.int .i64 dir,.str s] M=some (.tuple [],cS M p (.cells [az (bu nodes dir s),.int .i64 next,.int .i64 af])) :=
 gb hM (abv nodes next af dir s h hn hf hE hl) rfl rfl rfl rfl rfl rfl rfl rfl rfl rfl
def dW (nodes:List Node) (n:Node):List Node:=if (n.kind==2)=true then ct nodes n.ino else bL nodes { n with bw:=fR (n.bw-1) }
def abw (nodes:List Node) (next af:Int) (n:Node) (h:gw nodes) (h0:nodes≠[]) (hn:nodes.length<=100000) :
  ai aQ 205 [.ptr 0 0,aX n] [.cells [az nodes,.int .i64 next,.int .i64 af]]=some (.tuple [],[.cells [az (dW nodes n),.int .i64 next,.int .i64 af]]):=by
 refine aq ?_
 have hp:=fun a b c d e u M=>Cq nodes next af a b c d e u h h0 hn 0 (.cells [az nodes,.int .i64 next,.int .i64 af]::M) rfl
 have hd:=fun M=>Xf nodes next af n.ino h hn 0 (.cells [az nodes,.int .i64 next,.int .i64 af]::M) rfl
 simp only [HL,Qj,aX,aw,EN,simprocAttr]
 unfold dW
 refine aC (fun hb=>?_) (fun hb=>?_)
 ·simp only [Qj,hb,hd,EN,simprocAttr]
 ·simp only [Qj,hb,hp,Bool.false_eq_true,EN,simprocAttr]
def W6 (nodes:List Node) (next af a b c:Int) (d:Bytes) (e:List b9) (u:Int) (h:gw nodes) (h0:nodes≠[]) (hn:nodes.length<=100000) (p:Nat) (M:ag) (hM:nth M p=some (.cells [az nodes,.int .i64 next,.int .i64 af])) :
  ak (ai aQ) 205 [.ptr p 0,.agg [.int .i64 a,.int .i64 b,.int .i64 c,dg d,fa e,.int .i64 u]] M=some (.tuple [],cS M p (.cells [az (dW nodes ⟨a,b,c,d,e,u⟩),.int .i64 next,.int .i64 af])) :=
 gb hM (abw nodes next af ⟨a,b,c,d,e,u⟩ h h0 hn) rfl rfl rfl rfl rfl rfl rfl rfl rfl rfl
def jJ (nodes:List Node) (ino:Int):Nat:=(ku nodes ino).length-1
def gj (t:Tree) (dir:Int) (s:Bytes):Int :=
 if ((cP t.nodes dir).2 != 0)=true then (cP t.nodes dir).2 else if (!cD s)=true then 60 else if (ck (cP t.nodes dir).1.av s).isSome=true then 71 else
 if (decide ((64:Int)<=(cP t.nodes dir).1.av.length)||(decide ((12:Int)<=jJ t.nodes dir)||decide ((1099511627776:Int)<=t.af)))=true then 76 else 0
def c196 (nodes:List Node) (next af dir:Int) (s:Bytes) (ht:Small ⟨nodes,next,af⟩) (hr:ji ⟨nodes,next,af⟩) (hs:s.length<=100000) (ha:fU s) :
  ai aQ 196 [.ptr 0 0,.int .i64 dir,.str s] [.cells [az nodes,.int .i64 next,.int .i64 af]]=some (.int .i64 (gj ⟨nodes,next,af⟩ dir s),[.cells [az nodes,.int .i64 next,.int .i64 af]]):=by
 have hn:nodes.length<=100000:=ht.nodes
 have hd:(cP nodes dir).1.av.length<=100000:=r8 ht dir
 have hE:iJ (cP nodes dir).1.av:=hr.dir dir
 have hk:=fun M=>Nj nodes next af dir hr.gA hn 0 (.cells [az nodes,.int .i64 next,.int .i64 af]::M) rfl
 have hk2:=fun a b c d u M=>IV a b c d (cP nodes dir).1.av u s _ (jG hE s) hd M
 have hk3:∀M,ak (ai aQ) 254 [.ptr 0 0,.int .i64 dir] (.cells [az nodes,.int .i64 next,.int .i64 af]::M)=some (.int .i64 (jJ nodes dir),.cells [az nodes,.int .i64 next,.int .i64 af]::M):=fun M=>Xe nodes next af dir hr.gA hn 0 (.cells [az nodes,.int .i64 next,.int .i64 af]::M) rfl
 refine aq ?_
 simp only [HE,y9,hk,aX,aw,EN,simprocAttr]
 refine aC (fun hb=>?_) (fun hb=>?_)
 ·simp only [y9,hb,EN,simprocAttr]
  clear hk hk2 hk3
  simp_all only [gj,jZ,↓reduceIte,reduceCtorEq,bne_self_eq_false]
 simp only [y9,hb,RE,hs,ha,EN,simprocAttr]
 refine aC (fun hb1=>?_) (fun hb1=>?_)
 ·simp only [y9,hb1,EN,simprocAttr]
  clear hk hk2 hk3
  simp_all only [gj,jZ,↓reduceIte,reduceCtorEq,bne_self_eq_false]
 simp only [y9,hb1,hk2,EN,simprocAttr]
 rcases nM hE s with ⟨h1,o,h2,h3,h4⟩|⟨h1,h2⟩
 ·simp only [y9,h1,EN,simprocAttr]
  clear hk hk2 hk3
  simp_all only [gj,Option.isSome_some,jZ,↓reduceIte,reduceCtorEq,bne_self_eq_false]
 ·simp only [y9,h1,EN,simprocAttr]
  repeat' ((first|refine aC (fun hb=>?_) (fun hb=>?_)|refine bc (fun hb=>?_) (fun hb=>?_)|refine bZ (fun hb=>?_) (fun hb=>?_))<;>simp only [hb,EN,y9,hk3,simprocAttr])
  all_goals (clear hk hk2 hk3; simp_all only [gj,Option.isSome_none,jZ,↓reduceIte,reduceCtorEq,bne_self_eq_false]; done)
def WX (nodes:List Node) (next af dir:Int) (s:Bytes) (ht:Small ⟨nodes,next,af⟩) (hr:ji ⟨nodes,next,af⟩) (hs:s.length<=100000) (ha:fU s) (p:Nat) (M:ag) (hM:nth M p=some (.cells [az nodes,.int .i64 next,.int .i64 af])) :
  ak (ai aQ) 196 [.ptr p 0,.int .i64 dir,.str s] M=some (.int .i64 (gj ⟨nodes,next,af⟩ dir s),M):=by
 have:=gb hM (c196 nodes next af dir s ht hr hs ha) rfl rfl rfl rfl rfl rfl rfl rfl rfl rfl
 rwa [gG hM] at this
def rq (x y:Node):Int:=if (x.kind==2&&y.kind != 2)=true then 73 else if (x.kind != 2&&y.kind==2)=true then 72 else if decide ((0:Int)<y.av.length)=true then 74 else 0
def abC (x y:Node):ai aQ 211 [aX x,aX y] []=some (.int .i64 (rq x y),[]):=by
 refine aq ?_
 simp only [HQ,Ue,aX,aw,EN,simprocAttr]
 repeat' ((first|refine aC (fun hb=>?_) (fun hb=>?_)|refine bc (fun hb=>?_) (fun hb=>?_)|refine bZ (fun hb=>?_) (fun hb=>?_))<;>simp only [hb,EN,Ue,simprocAttr])
 all_goals (simp_all only [rq,jZ,↓reduceIte,reduceCtorEq,bne_self_eq_false]; done)
def abr (t:Tree) (ino:Int) (ht:Small t) (hr:ji t):ai aQ 200 [bj t,.int .i64 ino] []=some (.tuple [bj (ig t ino).1,.int .i64 (ig t ino).2],[]):=by
 obtain ⟨nodes,next,af⟩:=t
 have hn:nodes.length<=100000:=ht.nodes
 refine aq ?_
 have hk:=fun b c M=>wx nodes next af ino hr.gA hn 2 (b::c :: .cells [az nodes,.int .i64 next,.int .i64 af]::M) rfl
 have hd:=fun b c M=>Xf nodes next af ino hr.gA hn 2 (b::c :: .cells [az nodes,.int .i64 next,.int .i64 af]::M) rfl
 simp only [HI,Ud,bj,ar,hk,aX,aw,EN,simprocAttr]
 repeat' ((first|refine aC (fun hb=>?_) (fun hb=>?_)|refine bc (fun hb=>?_) (fun hb=>?_)|refine bZ (fun hb=>?_) (fun hb=>?_))<;>simp only [hb,EN,Ud,hd,simprocAttr])
 all_goals (clear hk hd; simp_all only [ig,bj,ar,jZ,↓reduceIte,reduceCtorEq,bne_self_eq_false]; done)
def acB (data:Bytes) (hd:data.length<=100000) (M:ag):ak (ai aQ) 139 [dg data] M=some (dg data,M):=by
 refine cO (bz (g:=S7 1 1) rfl ?_) M
 have hw:wid (data.map jk) 1:=by have:=jD data; simpa using this
 have hr:bB (data.map jk).length 1:=by have:=dj (a:=data.length) (b:=1) (by omega) (by omega); simpa using this
 exact aM ⟨hw,hr⟩
def abJ (t:Tree) (ino:Int) (data:Bytes) (ht:Small t) (hr:ji t) (hd:data.length<=100000):ai aQ 227 [bj t,.int .i64 ino,dg data] []=some (.tuple [bj (nF t ino data).1,.int .i64 (nF t ino data).2],[]):=by
 obtain ⟨nodes,next,af⟩:=t
 have hn:nodes.length<=100000:=ht.nodes
 refine aq ?_
 have hk:=fun b c M=>wx nodes next af ino hr.gA hn 2 (b::c :: .cells [az nodes,.int .i64 next,.int .i64 af]::M) rfl
 simp only [HX,Mi,bj,ar,hk,aX,aw,EN,simprocAttr]
 cases hf:find nodes ino with
 |none =>
  simp only [Mi,Option.isSome_none,EN,simprocAttr]
  clear hk
  simp_all only [nF,bj,ar,Option.isSome_none,jZ,↓reduceIte,reduceCtorEq,bne_self_eq_false]
 |some n =>
  have h0:nodes≠[]:=by rintro rfl; simp [find] at hf
  have hp:=fun x y a b c d e u M=>Cq nodes next af a b c d e u hr.gA h0 hn 2 (x::y :: .cells [az nodes,.int .i64 next,.int .i64 af]::M) rfl
  have hc:=fun M=>acB data hd M
  simp only [Mi,Option.isSome_some,EN,simprocAttr]
  repeat' ((first|refine aC (fun hb=>?_) (fun hb=>?_)|refine bc (fun hb=>?_) (fun hb=>?_)|refine bZ (fun hb=>?_) (fun hb=>?_))<;>simp only [hb,EN,Mi,hp,hc,simprocAttr])
  all_goals (clear hk hp hc; simp_all only [nF,bj,ar,Option.isSome_some,jZ,↓reduceIte,reduceCtorEq,bne_self_eq_false]; done)
end
def BD {nodes:List Node} (h:gw nodes) {a b:Node} (ha:a∈nodes) (hb:b∈nodes) (he:a.ino=b.ino):a=b:=by
 obtain ⟨i,hi⟩:=List.getElem?_of_mem ha
 obtain ⟨k,hk⟩:=List.getElem?_of_mem hb
 have hil:=(List.getElem?_eq_some_iff.1 hi).1
 have hkl:=(List.getElem?_eq_some_iff.1 hk).1
 have e1:nodes[i]=a:=by rw [List.getElem?_eq_getElem hil] at hi; injection hi
 have e2:nodes[k]=b:=by rw [List.getElem?_eq_getElem hkl] at hk; injection hk
 rcases Nat.lt_trichotomy i k with hlt|heq|hgt
 ·have:=List.pairwise_iff_getElem.1 h _ _ hil hkl hlt
  rw [e1,e2] at this; omega
 ·subst heq; rw [<-e1,<-e2]
 ·have:=List.pairwise_iff_getElem.1 h _ _ hkl hil hgt
  rw [e1,e2] at this; omega
def dM {nodes:List Node} (h:gw nodes) {i:Int} {m:Node}:find nodes i=some m↔m∈nodes/\m.ino=i:=by
 refine ⟨aY,fun ⟨h1,h2⟩=>?_⟩
 cases hf:find nodes i with
 |none =>
  have:=List.find?_eq_none.1 hf m h1
  simp [h2] at this
 |some k =>
  obtain ⟨k1,k2⟩:=aY hf
  rw [BD h h1 k1 (by omega)]
def ic {nodes:List Node} {i:Int}:find nodes i=none↔∀m,m∈nodes->m.ino≠i:=by
 unfold find
 rw [List.find?_eq_none]
 simp
def pc {nodes:List Node} {b:Nat} {o n:Node} (ho:nodes[b]?=some o):nodes=nodes.take b++o::nodes.drop (b+1)/\nodes.set b n=nodes.take b++n::nodes.drop (b+1):=by
 have hlt:=(List.getElem?_eq_some_iff.1 ho).1
 constructor
 ·rw [List.getElem?_eq_getElem hlt] at ho; injection ho with ho
  conv=>lhs; rw [<-List.take_append_drop b nodes]
  rw [List.drop_eq_getElem_cons hlt,ho]
 ·rw [List.set_eq_take_append_cons_drop,if_pos hlt]
def mw {nodes:List Node} (h:gw nodes) {n m:Node}:m∈bL nodes n↔m=n\/(m∈nodes/\m.ino≠n.ino):=by
 rcases ke h n.ino with ⟨_,o,h2,h3,h4⟩|⟨_,h2⟩
 ·rw [kE h h2 h4]
  obtain ⟨s1,s2⟩:=pc (n:=n) h2
  have hon:o∈nodes:=(aY h3).1
  constructor
  ·intro hm
   rw [s2] at hm
   rcases List.mem_append.1 hm with hm|hm
   ·have hmn:=List.mem_of_mem_take hm
    have:=mJ (lB h n.ino) m hm
    exact .inr ⟨hmn,by omega⟩
   ·rcases List.mem_cons.1 hm with rfl|hm
    ·exact .inl rfl
    ·refine .inr ⟨List.mem_of_mem_drop hm,fun he=>?_⟩
     have hp:=h
     unfold gw at hp
     rw [s1,List.pairwise_append] at hp
     have:=(List.pairwise_cons.1 hp.2.1).1 m hm
     omega
  ·rintro (rfl|⟨hm,hne⟩)
   ·rw [s2]; simp
   ·rw [s1] at hm
    rw [s2]
    rcases List.mem_append.1 hm with hm|hm
    ·exact List.mem_append_left _ hm
    ·rcases List.mem_cons.1 hm with rfl|hm
     ·exact absurd h4 hne
     ·exact List.mem_append_right _ (List.mem_cons_of_mem _ hm)
 ·rw [pg h h2]
  rw [ic] at h2
  constructor
  ·intro hm
   rcases List.mem_append.1 hm with hm|hm
   ·have:=List.mem_of_mem_take hm
    exact .inr ⟨this,h2 m this⟩
   ·rcases List.mem_cons.1 hm with rfl|hm
    ·exact .inl rfl
    ·have:=List.mem_of_mem_drop hm
     exact .inr ⟨this,h2 m this⟩
  ·rintro (rfl|⟨hm,_⟩)
   ·simp
   ·rw [<-List.take_append_drop (eD nodes n.ino) nodes] at hm
    rcases List.mem_append.1 hm with hm|hm
    ·exact List.mem_append_left _ hm
    ·exact List.mem_append_right _ (List.mem_cons_of_mem _ hm)
def gY {nodes:List Node} (h:gw nodes) (n:Node):gw (bL nodes n):=by
 have hl:=lB h n.ino
 rcases ke h n.ino with ⟨_,o,h2,h3,h4⟩|⟨_,h2⟩
 ·rw [kE h h2 h4]
  obtain ⟨s1,s2⟩:=pc (n:=n) h2
  have hp:=h
  unfold gw at hp ⊢
  rw [s1,List.pairwise_append] at hp
  obtain ⟨p1,p2,p3⟩:=hp
  obtain ⟨p4,p5⟩:=List.pairwise_cons.1 p2
  rw [s2,List.pairwise_append]
  refine ⟨p1,List.pairwise_cons.2 ⟨fun m hm=>by have:=p4 m hm; omega,p5⟩,fun a ha c hc=>?_⟩
  rcases List.mem_cons.1 hc with rfl|hc
  ·exact mJ hl a ha
  ·exact p3 a ha c (List.mem_cons_of_mem _ hc)
 ·rw [pg h h2]
  have hp:=h
  unfold gw at hp ⊢
  rw [<-List.take_append_drop (eD nodes n.ino) nodes,List.pairwise_append] at hp
  obtain ⟨p1,p2,p3⟩:=hp
  rw [ic] at h2
  rw [List.pairwise_append]
  refine ⟨p1,List.pairwise_cons.2 ⟨fun m hm=>?_,p2⟩,fun a ha c hc=>?_⟩
  ·have k1:=wQ hl m hm
   have k2:=h2 m (List.mem_of_mem_drop hm)
   omega
  ·rcases List.mem_cons.1 hc with rfl|hc
   ·exact mJ hl a ha
   ·exact p3 a ha c hc
def dn {nodes:List Node} (h:gw nodes) (n:Node) (i:Int):find (bL nodes n) i=if i=n.ino then some n else find nodes i:=by
 split
 ·rename_i he
  exact (dM (gY h n)).2 ⟨(mw h).2 (.inl rfl),he.symm⟩
 ·rename_i hne
  cases hf:find nodes i with
  |none =>
   rw [ic] at hf ⊢
   intro m hm
   rcases (mw h).1 hm with rfl|⟨hm,_⟩
   ·exact fun he=>hne he.symm
   ·exact hf m hm
  |some m =>
   obtain ⟨h1,h2⟩:=aY hf
   exact (dM (gY h n)).2 ⟨(mw h).2 (.inr ⟨h1,by omega⟩),h2⟩
def kx {nodes:List Node} (h:gw nodes) (i:Int):gw (ct nodes i):=List.Pairwise.filter _ h
def jE {nodes:List Node} (h:gw nodes) (k i:Int):find (ct nodes k) i=if i=k then none else find nodes i:=by
 split
 ·rename_i he
  rw [ic]
  intro m hm
  have:=(List.mem_filter.1 hm).2
  simp at this
  omega
 ·rename_i hne
  cases hf:find nodes i with
  |none =>
   rw [ic] at hf ⊢
   exact fun m hm=>hf m (List.mem_filter.1 hm).1
  |some m =>
   obtain ⟨h1,h2⟩:=aY hf
   exact (dM (kx h k)).2 ⟨List.mem_filter.2 ⟨h1,by simp; omega⟩,h2⟩
def II {l:List b9} (h:iJ l) {e:b9} (hf:ck l e.name=none):iJ (ri l e):=by
 rw [mr h hf]
 have hl:=jG h e.name
 have hp:=h
 unfold iJ at hp ⊢
 rw [<-List.take_append_drop (eR l e.name) l,List.pairwise_append] at hp
 obtain ⟨p1,p2,p3⟩:=hp
 rw [List.pairwise_append]
 refine ⟨p1,List.pairwise_cons.2 ⟨fun m hm=>?_,p2⟩,fun a ha c hc=>?_⟩
 ·have k1:=uW hl m hm
  have k2:¬m.name=e.name:=by simpa using List.find?_eq_none.1 hf m (List.mem_of_mem_drop hm)
  rcases oD m.name e.name with h4|h4|h4
  ·rw [k1] at h4; cases h4
  ·exact absurd h4 k2
  ·exact h4
 ·rcases List.mem_cons.1 hc with rfl|hc
  ·exact td hl a ha
  ·exact p3 a ha c hc
def r9 {l:List b9} (h:iJ l) (s:Bytes):iJ (dR l s):=List.Pairwise.filter _ h
def ji.with {t:Tree} (h:ji t) {n:Node} (hn:iJ n.av) (next af:Int):ji ⟨bL t.nodes n,next,af⟩ :=
 ⟨gY h.gA n,fun m hm=>by
  rcases (mw h.gA).1 hm with rfl|⟨hm,_⟩
  ·exact hn
  ·exact h.av m hm⟩
def ji.rO {t:Tree} (h:ji t) (i next af:Int):ji ⟨ct t.nodes i,next,af⟩ :=
 ⟨kx h.gA i,fun m hm=>h.av m (List.mem_filter.1 hm).1⟩
def ji.node {t:Tree} (h:ji t) (i:Int):iJ (aA t.nodes i).av:=by
 cases hf:find t.nodes i with
 |none=>simp [aA,hf,Node.zero]; exact List.Pairwise.nil
 |some n=>simp [aA,hf]; exact h.av n (aY hf).1
def ji.left {t:Tree} (h:ji t) (i:Int) (s:Bytes) (next af:Int):ji ⟨bu t.nodes i s,next,af⟩ :=
 h.with (n:={ aA t.nodes i with av:=dR (aA t.nodes i).av s }) (r9 (h.node i) s) next af
def ji.iX {t:Tree} (h:ji t) (i:Int) (s:Bytes) (of:Int) (hf:ck (aA t.nodes i).av s=none):ji (dh t i s of) :=
 h.with (n:={ aA t.nodes i with av:=ri (aA t.nodes i).av ⟨s,of,t.af⟩ }) (II (h.node i) hf) t.next (fR (t.af+1))
section
attribute [local irreducible] cJ cE gD gK bG kr ai ak aV aF
def pW {nodes:List Node} {dir:Int} (h:(cP nodes dir).2=0):∃d,find nodes dir=some d/\d.kind=2/\cP nodes dir=(d,0):=by
 unfold cP at h ⊢
 split at h
 ·cases h
 ·rename_i d hd
  split at h
  ·rename_i hk; exact ⟨d,hd,hk,by simp [hd,hk]⟩
  ·cases h
def KQ {t:Tree} {dir:Int} {s:Bytes} (h:(gj t dir s != 0)=false):∃d,find t.nodes dir=some d/\d.kind=2/\cD s=true/\ck d.av s=none/\d.av.length<64/\jJ t.nodes dir<12/\t.af<1099511627776:=by
 have h:gj t dir s=0:=by simpa using h
 unfold gj at h
 split at h
 ·rename_i hc
  rw [h] at hc; cases hc
 ·rename_i hc
  obtain ⟨d,h1,h2,h3⟩:=pW (by simpa using hc)
  rw [h3] at h
  split at h
  ·cases h
  ·rename_i hk
   split at h
   ·cases h
   ·rename_i hf
    split at h
    ·cases h
    ·rename_i hm
     simp at hk hf hm
     exact ⟨d,h1,h2,hk,hf,by omega,by omega,by omega⟩
def BB (t:Tree) (ino:Int) (s:Bytes) (kind:Int):Tree×Int×Int :=
 if (kind != 1&&kind != 2)=true then (t,0,1) else if (gj t ino s != 0)=true then (t,0,gj t ino s) else
 if (decide ((200:Int)<=t.nodes.length)||decide ((1099511627776:Int)<=t.next))=true then (t,0,76) else
 (dh ⟨bL t.nodes ⟨t.next,kind,1,[],[],if (kind==2)=true then ino else 0⟩,fR (t.next+1),t.af⟩ ino s t.next,t.next,0)
def aaR (t:Tree) (dir:Int) (s:Bytes) (kind:Int) (hz:Sz 1000 t) (hr:ji t) (hs:s.length<=100000) (ha:fU s) (dH:∀m,m∈t.nodes->m.ino<t.next) :
  ai aQ 126 [bj t,.int .i64 dir,.str s,.int .i64 kind] []=some (.tuple [bj (BB t dir s kind).1,.int .i64 (BB t dir s kind).2.1,.int .i64 (BB t dir s kind).2.2],[]):=by
 obtain ⟨nodes,next,af⟩:=t
 have ht:Small ⟨nodes,next,af⟩:=hz.small (by omega)
 have hn:nodes.length<=100000:=ht.nodes
 have hk:=fun b c M=>WX nodes next af dir s ht hr hs ha 2 (b::c :: .cells [az nodes,.int .i64 next,.int .i64 af]::M) rfl
 have last:(gj ⟨nodes,next,af⟩ dir s != 0)=false->∀u,nodes≠[]/\∀b c M,ak (ai aQ) 198 [.ptr 2 0,.int .i64 dir,.str s,.int .i64 next] (b::c :: .cells [az (bL nodes ⟨next,kind,1,[],[],u⟩),.int .i64 (fR (next+1)),.int .i64 af]::M) =
   some (.tuple [],b::c :: .cells (ar (dh ⟨bL nodes ⟨next,kind,1,[],[],u⟩,fR (next+1),af⟩ dir s next))::M):=fun hm u=>by
  obtain ⟨d,d1,d2,d3,d4,d5,d6,d7⟩:=KQ hm
  have dm:=aY d1
  have hlt:=dH d dm.1
  simp only at hlt
  refine ⟨by rintro rfl; simp [find] at d1,fun b c M=>?_⟩
  have hz1:Sz 1001 ⟨bL nodes ⟨next,kind,1,[],[],u⟩,fR (next+1),af⟩:=hz.with (n:=⟨next,kind,1,[],[],u⟩) (by simp) (by simp) (fR (next+1)) af
  have hf:find (bL nodes ⟨next,kind,1,[],[],u⟩) dir=some d:=by rw [dn hr.gA,if_neg (by simp; omega)]; exact d1
  exact Ni (bL nodes ⟨next,kind,1,[],[],u⟩) (fR (next+1)) af dir s next (gY hr.gA _) (hz1.small (by omega)).nodes hf (hr.av d dm.1) (by omega) d4 2 (b::c :: .cells [az (bL nodes ⟨next,kind,1,[],[],u⟩),.int .i64 (fR (next+1)),.int .i64 af]::M) rfl
 refine aq ?_
 simp only [Hb,Qb,bj,ar,hk,EN,simprocAttr]
 repeat' ((first|refine aC (fun hb=>?_) (fun hb=>?_)|refine bc (fun hb=>?_) (fun hb=>?_)|refine bZ (fun hb=>?_) (fun hb=>?_))<;>simp only [hb,EN,Qb,hk,simprocAttr])
 all_goals try (clear hk last; simp_all only [BB,bj,ar,jZ,↓reduceIte,reduceCtorEq,bne_self_eq_false]; done)
 all_goals
  have hm:(gj ⟨nodes,next,af⟩ dir s != 0)=false:=by assumption
  have h0:=(last hm 0).1
  have hp:∀u b c M,ak (ai aQ) 197 [.ptr 2 0,.agg [.int .i64 next,.int .i64 kind,.int .i64 1,.slice .sh [],.slice .sh [],.int .i64 u]] (b::c :: .cells [az nodes,.int .i64 (fR (next+1)),.int .i64 af]::M) =
    some (.tuple [],b::c :: .cells [az (bL nodes ⟨next,kind,1,[],[],u⟩),.int .i64 (fR (next+1)),.int .i64 af]::M):=fun u b c M=>Cq nodes (fR (next+1)) af next kind 1 [] [] u hr.gA h0 hn 2 (b::c :: .cells [az nodes,.int .i64 (fR (next+1)),.int .i64 af]::M) rfl
  have hl:=fun u=>(last hm u).2
  simp only [Qb,hp,hl,ar,EN,simprocAttr]
  clear hk last hp hl
  simp_all only [BB,bj,ar,jZ,↓reduceIte,reduceCtorEq,bne_self_eq_false]
def T5 (t:Tree) (ino to:Int) (s:Bytes):Tree×Int :=
 if (!(find t.nodes ino).isSome||((aA t.nodes ino).kind==1&&(aA t.nodes ino).bw==0))=true then (t,70) else if ((aA t.nodes ino).kind==2)=true then (t,72) else
 if (gj t to s != 0)=true then (t,gj t to s) else
 (dh ⟨bL t.nodes { aA t.nodes ino with bw:=fR ((aA t.nodes ino).bw+1) },t.next,t.af⟩ to s ino,0)
def aaT (t:Tree) (ino dir:Int) (s:Bytes) (hz:Sz 1000 t) (hr:ji t) (hs:s.length<=100000) (ha:fU s) :
  ai aQ 128 [bj t,.int .i64 ino,.int .i64 dir,.str s] []=some (.tuple [bj (T5 t ino dir s).1,.int .i64 (T5 t ino dir s).2],[]):=by
 obtain ⟨nodes,next,af⟩:=t
 have ht:Small ⟨nodes,next,af⟩:=hz.small (by omega)
 have hn:nodes.length<=100000:=ht.nodes
 have hg:=fun b c M=>wx nodes next af ino hr.gA hn 2 (b::c :: .cells [az nodes,.int .i64 next,.int .i64 af]::M) rfl
 have hk:=fun b c M=>WX nodes next af dir s ht hr hs ha 2 (b::c :: .cells [az nodes,.int .i64 next,.int .i64 af]::M) rfl
 have last:(gj ⟨nodes,next,af⟩ dir s != 0)=false->(find nodes ino).isSome=true->((aA nodes ino).kind==2)=false->∀l,nodes≠[]/\∀b c M,ak (ai aQ) 198 [.ptr 2 0,.int .i64 dir,.str s,.int .i64 ino] (b::c :: .cells [az (bL nodes { aA nodes ino with bw:=l }),.int .i64 next,.int .i64 af]::M) =
   some (.tuple [],b::c :: .cells (ar (dh ⟨bL nodes { aA nodes ino with bw:=l },next,af⟩ dir s ino))::M):=fun hm hi hkd l=>by
  obtain ⟨d,d1,d2,d3,d4,d5,d6,d7⟩:=KQ hm
  have dm:=aY d1
  refine ⟨by rintro rfl; simp [find] at d1,fun b c M=>?_⟩
  have hfd:=hz.find ino
  have hz1:Sz 1001 ⟨bL nodes { aA nodes ino with bw:=l },next,af⟩:=hz.with (n:={ aA nodes ino with bw:=l }) (Nat.le_succ_of_le hfd.1) hfd.2 next af
  obtain ⟨n,hfn⟩:=Option.isSome_iff_exists.1 hi
  have hnn:aA nodes ino=n:=by simp [aA,hfn]
  have hne:¬dir=(aA nodes ino).ino:=fun he=>by
   rw [hnn] at he hkd
   have h1:=(aY hfn).2
   rw [he,h1,hfn] at d1
   injection d1 with d1
   subst d1
   simp [d2] at hkd
  have hf:find (bL nodes { aA nodes ino with bw:=l }) dir=some d:=by rw [dn hr.gA,if_neg hne]; exact d1
  exact Ni (bL nodes { aA nodes ino with bw:=l }) next af dir s ino (gY hr.gA _) (hz1.small (by omega)).nodes hf (hr.av d dm.1) (by omega) d4 2 (b::c :: .cells [az (bL nodes { aA nodes ino with bw:=l }),.int .i64 next,.int .i64 af]::M) rfl
 refine aq ?_
 simp only [He,Qc,bj,ar,hg,aX,aw,EN,simprocAttr]
 repeat' ((first|refine aC (fun hb=>?_) (fun hb=>?_)|refine bc (fun hb=>?_) (fun hb=>?_)|refine bZ (fun hb=>?_) (fun hb=>?_))<;>simp only [hb,EN,Qc,hk,simprocAttr])
 all_goals try (clear hk hg last; simp_all only [T5,bj,ar,jZ,↓reduceIte,reduceCtorEq,bne_self_eq_false]; done)
 all_goals
  have hm:(gj ⟨nodes,next,af⟩ dir s != 0)=false:=by assumption
  have h2:((aA nodes ino).kind==2)=false:=by assumption
  have h3:(!(find nodes ino).isSome)=false:=by assumption
  have h3:(find nodes ino).isSome=true:=by simpa using h3
  have h0:=(last hm h3 h2 0).1
  have hp:=fun a b c d e u x y M=>Cq nodes next af a b c d e u hr.gA h0 hn 2 (x::y :: .cells [az nodes,.int .i64 next,.int .i64 af]::M) rfl
  have hl:=fun l=>(last hm h3 h2 l).2
  simp only [Qc,hp,hl,ar,EN,simprocAttr]
  clear hk hg last hp hl
  simp_all only [T5,bj,ar,jZ,↓reduceIte,reduceCtorEq,bne_self_eq_false]
def look_ok {nodes:List Node} {dir:Int} {s:Bytes} (h:((bU nodes dir s).2 != 0)=false):∃d e,find nodes dir=some d/\d.kind=2/\cD s=true/\ck d.av s=some e/\bU nodes dir s=(e.ino,0):=by
 have h:(bU nodes dir s).2=0:=by simpa using h
 have h':=h
 unfold bU at h
 split at h
 ·rename_i hc; exact absurd h hc
 ·rename_i hc
  obtain ⟨d,h1,h2,h3⟩:=pW (by simpa using hc)
  rw [h3] at h
  split at h
  ·cases h
  ·rename_i hk
   split at h
   ·cases h
   ·rename_i e he
    have hk:cD s=true:=by simpa using hk
    refine ⟨d,e,h1,h2,hk,he,?_⟩
    unfold bU
    rw [h3]
    simp [hk,he]
def P9 (t:Tree) (dir:Int) (s:Bytes):Tree×Int×Int :=
 if ((bU t.nodes dir s).2 != 0)=true then (t,0,(bU t.nodes dir s).2) else if decide ((0:Int)<(aA t.nodes (bU t.nodes dir s).1).av.length)=true then (t,0,74) else
 (⟨dW (bu t.nodes dir s) (aA t.nodes (bU t.nodes dir s).1),t.next,t.af⟩,(bU t.nodes dir s).1,0)
def AA {nodes:List Node} (h:gw nodes) {dir:Int} {s:Bytes} {d:Node} (hf:find nodes dir=some d):bu nodes dir s≠[]:=by
 intro hc
 have:({ d with av:=dR d.av s }:Node)∈bu nodes dir s:=by
  unfold bu
  rw [hf]
  exact (mw h).2 (.inl rfl)
 rw [hc] at this
 cases this
def aaU (t:Tree) (dir:Int) (s:Bytes) (hz:Sz 1000 t) (hr:ji t) (hs:s.length<=100000) (ha:fU s) :
  ai aQ 129 [bj t,.int .i64 dir,.str s] []=some (.tuple [bj (P9 t dir s).1,.int .i64 (P9 t dir s).2.1,.int .i64 (P9 t dir s).2.2],[]):=by
 obtain ⟨nodes,next,af⟩:=t
 have ht:Small ⟨nodes,next,af⟩:=hz.small (by omega)
 have hn:nodes.length<=100000:=ht.nodes
 have hg:=fun b c M=>wx nodes next af (bU nodes dir s).1 hr.gA hn 2 (b::c :: .cells [az nodes,.int .i64 next,.int .i64 af]::M) rfl
 have hl:=fun M=>Ng nodes next af dir s ht hr hs ha M
 refine aq ?_
 simp only [Hf,Gq,bj,ar,hl,EN,simprocAttr]
 refine aC (fun hb=>?_) (fun hb=>?_)
 ·simp only [Gq,hb,EN,simprocAttr]
  clear hg hl
  simp_all only [P9,bj,ar,jZ,↓reduceIte,reduceCtorEq,bne_self_eq_false]
 obtain ⟨d,e,d1,d2,d3,d4,d5⟩:=look_ok hb
 have dm:=aY d1
 have hde:d.av.length<=1000:=hz.av d dm.1
 have hsz:Sz 1001 ⟨bu nodes dir s,next,af⟩:=hz.left dir s next af
 have hv:=fun x y M=>RD nodes next af dir s hr.gA hn d1 (hr.av d dm.1) (by omega) 2 (x::y :: .cells [az nodes,.int .i64 next,.int .i64 af]::M) rfl
 have hu:=fun a b c d' e' u x y M=>W6 (bu nodes dir s) next af a b c d' e' u (hr.left dir s next af).gA (AA hr.gA d1) (hsz.small (by omega)).nodes 2 (x::y :: .cells [az (bu nodes dir s),.int .i64 next,.int .i64 af]::M) rfl
 simp only [Gq,hb,hg,aX,aw,EN,simprocAttr]
 refine aC (fun hb1=>?_) (fun hb1=>?_)
 ·simp only [Gq,hb1,EN,simprocAttr]
  clear hg hl hv hu
  simp_all only [P9,bj,ar,jZ,↓reduceIte,reduceCtorEq,bne_self_eq_false]
 ·simp only [Gq,hb1,hv,hu,EN,simprocAttr]
  clear hg hl hv hu d5
  simp_all only [P9,bj,ar,jZ,↓reduceIte,reduceCtorEq,bne_self_eq_false]
end
section
attribute [local irreducible] cJ cE gD gK bG kr ai ak aV aF
def Am (x:Int):List Int->Nat->Int
 | [],_ => -1
 |n::r,i=>if (x==n)=true then i else Am x r (i+1)
def Dy (x:Int):∀(l:List Int) (i:Nat),decide ((0:Int)<=Am x l i)=l.contains x
 | [],i=>by simp [Am]
 |n::r,i=>by
  unfold Am
  by_cases h:x=n
  ·simp [h]
  ·simp only [beq_iff_eq,h,if_false,Dy x r (i+1),List.contains_cons]
   simp [h]
def Oh {l0:List Int} {x:Int} (hl:l0.length<=100000) {k:List K} {R:Int->Option (ae×ag)}
  (hx:∀e,kr (ai aQ) [.tmp 4] 0 k ⟨.exit 0,e,[]⟩=R (-1)) (hr:∀(i:Nat),kr (ai aQ) [.tmp 4] 0 k ⟨.ret,[(4,.int .i64 i)],[]⟩=R i) :
  ∀(l pre:List Int),l0=pre++l->cJ (ai aQ) [.tmp 4] 0 k (.loop [0,1,7,8] NM) [(0,.slice .sh (l0.map pr)),(1,.int .i64 x),(7,.int .i64 l0.length),(8,.int .i64 pre.length)] []=R (Am x l pre.length):=by
 intro l
 induction l with
 |nil =>
  intro pre h
  rw [aB]
  simp only [Bu,c9 h,EN,simprocAttr]
  exact hx _
 |cons n r ih =>
  intro pre h
  rw [aB]
  have hlen:pre.length+1<=100000:=by rw [h] at hl; simp at hl; omega
  have hw:IntKind.i64.wrap ((pre.length:Int)+1)=((pre++[n]).length:Int):=by rw [bD (by omega) (by omega)]; exact bK
  have hi:=ih (pre++[n]) (by rw [h]; simp)
  simp only [List.length_append,List.length_cons,List.length_nil,Nat.zero_add] at hi
  rw [Am]
  simp only [Bu,cC h,cn h,EN,simprocAttr]
  refine aC (fun hb=>?_) (fun hb=>?_)
  ·simp only [Bu,hb,EN,simprocAttr]
   exact hr _
  ·simp only [Bu,hb,hw,Bool.false_eq_true,EN,simprocAttr]
   exact hi
def ab1 (l:List Int) (x:Int) (hl:l.length<=100000):ai aQ 264 [.slice .sh (l.map pr),.int .i64 x] []=some (.int .i64 (Am x l 0),[]):=by
 refine aq ?_
 simp only [Ih,Bu,EN,simprocAttr]
 exact Oh (R:=fun z=>some (.int .i64 z,[])) hl (fun e=>by simp only [Bu,EN,simprocAttr]) (fun i=>by simp only [Bu,EN,simprocAttr]) l [] rfl
def acX (l:List Int) (x:Int) (hl:l.length<=100000) (M:ag):ak (ai aQ) 264 [.slice .sh (l.map pr),.int .i64 x] M=some (.int .i64 (Am x l 0),M):=cO (ab1 l x hl) M
def abB (l:List Int) (x:Int) (hl:l.length<=100000):ai aQ 210 [.slice .sh (l.map pr),.int .i64 x] []=some (.bool (l.contains x),[]):=by
 refine aq ?_
 simp only [HP,aae,acX,hl,Dy,EN,simprocAttr]
def W7 (l:List Int) (x:Int) (hl:l.length<=100000) (M:ag):ak (ai aQ) 210 [.slice .sh (l.map pr),.int .i64 x] M=some (.bool (l.contains x),M):=cO (abB l x hl) M
def kK (nodes:List Node) (at' own ino:Int) (n:Node):Bool :=
 n.kind==2&&((ku nodes n.ino).contains ino&&(decide ((12:Int)<fR (fR (fR (at'+(ku nodes n.ino).length)-1)-own))||(fR (fR (fR (at'+(ku nodes n.ino).length)-1)-own)==12&&decide ((0:Int)<n.av.length))))
abbrev gn (nodes:List Node) (next af at' own ino:Int):ag:=[.cells [.ptr 4 0],.cells [.int .i64 at'],.cells [.int .i64 own],.cells [.int .i64 ino],.cells [az nodes,.int .i64 next,.int .i64 af]]
def ab3 (nodes:List Node) (next af at' own ino:Int) (n:Node) (h:gw nodes) (hn:nodes.length<=99999) :
  ai aQ 266 [aX n,.ptr 0 0,.ptr 1 0,.ptr 2 0,.ptr 3 0] (gn nodes next af at' own ino)=some (.bool (kK nodes at' own ino n),gn nodes next af at' own ino):=by
 refine aq ?_
 have hk:=fun a b c d M=>RF nodes next af n.ino h (by omega) 4 (a::b::c::d :: .cells [az nodes,.int .i64 next,.int .i64 af]::M) rfl
 have hl:=lf nodes n.ino
 have hc:=fun M=>W7 (ku nodes n.ino) ino (by omega) M
 simp only [Ij,Ui,gn,aX,aw,EN,simprocAttr]
 repeat' ((first|refine aC (fun hb=>?_) (fun hb=>?_)|refine bc (fun hb=>?_) (fun hb=>?_)|refine bZ (fun hb=>?_) (fun hb=>?_))<;>simp only [hb,EN,Ui,hk,hc,simprocAttr])
 all_goals (clear hk hc; simp_all only [kK,fR,bne,Bool.not_eq_true',Bool.not_eq_false',jZ,↓reduceIte,reduceCtorEq,bne_self_eq_false]; done)
end
def eh {C:bt} {f:Nat} {args args':List ae} {M B:ag} {ids:List Nat} {r r':ae} {B' M':ag} (h1:args.all ae.flat=true) (h2:reach M (args.flatMap ae.ids)=ids) (h3:dv M (cM ids) ids=some B) (h4:ep M ids=ids)
  (h5:args.map (ae.ik (cM ids))=args') (h:C f args' B=some (r,B')) (h6:B'.length=B.length) (h7:r.pB=true) (h8:B'.all aK.flat=true) (h9:r.ui (pn ids)=r') (h10:eJ ids M ids B'=M'):ak C f args M=some (r',M'):=by
 unfold ak
 rw [if_pos h1,h2,h3]
 simp only [aE]
 rw [if_pos h4,h5,h]
 simp only [aE]
 rw [if_pos ⟨h6,h7,h8⟩,h9,h10]
def PT (nodes:List Node) (next af at' own ino:Int):dv (gn nodes next af at' own ino) (cM [0,1,2,3,4]) [0,1,2,3,4]=some (gn nodes next af at' own ino):=rfl
def Zl (nodes:List Node) (next af at' own ino:Int):dv [.cells [az nodes,.int .i64 next,.int .i64 af],.cells [.ptr 0 0],.cells [.int .i64 ino],.cells [.int .i64 at'],.cells [.int .i64 own]] (cM [1,3,4,2,0]) [1,3,4,2,0]=some (gn nodes next af at' own ino):=rfl
section
attribute [local irreducible] cJ cE gD gK bG kr ai ak aV aF
def acZ (nodes:List Node) (next af at' own ino:Int) (n:Node) (h:gw nodes) (hn:nodes.length<=99999) :
  ak (ai aQ) 266 [.agg (aw n),.ptr 0 0,.ptr 1 0,.ptr 2 0,.ptr 3 0] (gn nodes next af at' own ino)=some (.bool (kK nodes at' own ino n),gn nodes next af at' own ino) :=
 eh (ids:=[0,1,2,3,4]) rfl rfl (PT ..) rfl rfl (ab3 nodes next af at' own ino n h hn) rfl rfl rfl rfl rfl
def Al (p:Node->Bool):List Node->Nat->Int
 | [],_ => -1
 |n::r,i=>if p n=true then i else Al p r (i+1)
def Dx (p:Node->Bool):∀(l:List Node) (i:Nat),decide ((0:Int)<=Al p l i)=l.any p
 | [],i=>by simp [Al]
 |n::r,i=>by
  unfold Al
  cases h:p n with
  |true=>simp [h]
  |false=>simp only [Bool.false_eq_true,if_false,Dx p r (i+1),List.any_cons,h,Bool.false_or]
def Oi {nodes:List Node} {next af at' own ino:Int} (h:gw nodes) (hn:nodes.length<=99999) {k:List K} {R:Int->Option (ae×ag)}
  (hx:∀e,kr (ai aQ) [.tmp 4] 5 k ⟨.exit 0,e,gn nodes next af at' own ino⟩=R (-1)) (hr:∀(i:Nat),kr (ai aQ) [.tmp 4] 5 k ⟨.ret,[(4,.int .i64 i)],gn nodes next af at' own ino⟩=R i) :
  ∀(l pre:List Node),nodes=pre++l->cJ (ai aQ) [.tmp 4] 5 k (.loop [0,1,7,8] NP) [(0,az nodes),(1,.func 266 [.ptr 0 0,.ptr 1 0,.ptr 2 0,.ptr 3 0]),(7,.int .i64 nodes.length),(8,.int .i64 pre.length)] (gn nodes next af at' own ino)=R (Al (kK nodes at' own ino) l pre.length):=by
 intro l
 induction l with
 |nil =>
  intro pre h
  rw [aB]
  simp only [Bw,c9 h,EN,simprocAttr]
  exact hx _
 |cons n r ih =>
  intro pre hp
  rw [aB]
  have hlen:pre.length+1<=100000:=by rw [hp] at hn; simp at hn; omega
  have hw:IntKind.i64.wrap ((pre.length:Int)+1)=((pre++[n]).length:Int):=by rw [bD (by omega) (by omega)]; exact bK
  have hi:=ih (pre++[n]) (by rw [hp]; simp)
  have hk:=acZ nodes next af at' own ino n h hn
  simp only [List.length_append,List.length_cons,List.length_nil,Nat.zero_add,gn] at hi
  simp only [gn] at hk
  rw [Al]
  simp only [Bw,gn,cC hp,cn hp,hk,ZK,ZD,EN,simprocAttr]
  refine aC (fun hb=>?_) (fun hb=>?_)
  ·simp only [Bw,hb,EN,simprocAttr]
   exact hr _
  ·simp only [Bw,hb,hw,Bool.false_eq_true,EN,simprocAttr]
   exact hi
def ab6 (nodes:List Node) (next af at' own ino:Int) (h:gw nodes) (hn:nodes.length<=99999):ai aQ 296 [az nodes,.func 266 [.ptr 0 0,.ptr 1 0,.ptr 2 0,.ptr 3 0]] (gn nodes next af at' own ino) =
  some (.int .i64 (Al (kK nodes at' own ino) nodes 0),gn nodes next af at' own ino):=by
 refine aq ?_
 simp only [Im,Bw,EN,simprocAttr]
 exact Oi (R:=fun z=>some (.int .i64 z,gn nodes next af at' own ino)) h hn (fun e=>by simp only [Bw,gn,EN,simprocAttr]) (fun i=>by simp only [Bw,gn,EN,simprocAttr]) nodes [] rfl
def ac2 (nodes:List Node) (next af at' own ino:Int) (h:gw nodes) (hn:nodes.length<=99999):ak (ai aQ) 296 [az nodes,.func 266 [.ptr 0 0,.ptr 1 0,.ptr 2 0,.ptr 3 0]] (gn nodes next af at' own ino) =
  some (.int .i64 (Al (kK nodes at' own ino) nodes 0),gn nodes next af at' own ino) :=
 eh (ids:=[0,1,2,3,4]) rfl rfl (PT ..) rfl rfl (ab6 nodes next af at' own ino h hn) rfl rfl rfl rfl rfl
def ab2 (nodes:List Node) (next af at' own ino:Int) (h:gw nodes) (hn:nodes.length<=99999):ai aQ 265 [az nodes,.func 266 [.ptr 0 0,.ptr 1 0,.ptr 2 0,.ptr 3 0]] (gn nodes next af at' own ino) =
  some (.bool (nodes.any (kK nodes at' own ino)),gn nodes next af at' own ino):=by
 refine aq ?_
 have hk:=ac2 nodes next af at' own ino h hn
 simp only [gn] at hk
 simp only [Ii,aar,gn,hk,Dx,EN,simprocAttr]
def acY (nodes:List Node) (next af at' own ino:Int) (h:gw nodes) (hn:nodes.length<=99999) :
  ak (ai aQ) 265 [az nodes,.func 266 [.ptr 1 0,.ptr 3 0,.ptr 4 0,.ptr 2 0]] [.cells [az nodes,.int .i64 next,.int .i64 af],.cells [.ptr 0 0],.cells [.int .i64 ino],.cells [.int .i64 at'],.cells [.int .i64 own]] =
  some (.bool (nodes.any (kK nodes at' own ino)),[.cells [az nodes,.int .i64 next,.int .i64 af],.cells [.ptr 0 0],.cells [.int .i64 ino],.cells [.int .i64 at'],.cells [.int .i64 own]]) :=
 eh (ids:=[1,3,4,2,0]) rfl rfl (Zl ..) rfl rfl (ab2 nodes next af at' own ino h hn) rfl rfl rfl rfl rfl
def wM (nodes:List Node) (ino at':Int):Bool:=nodes.any (kK nodes at' (jJ nodes ino) ino)
def abD (nodes:List Node) (next af ino at':Int) (h:gw nodes) (hn:nodes.length<=99999):ai aQ 212 [.ptr 0 0,.int .i64 ino,.int .i64 at'] [.cells [az nodes,.int .i64 next,.int .i64 af]] =
  some (.bool (wM nodes ino at'),[.cells [az nodes,.int .i64 next,.int .i64 af]]):=by
 refine aq ?_
 have hk:∀M,ak (ai aQ) 254 [.ptr 0 0,.int .i64 ino] (.cells [az nodes,.int .i64 next,.int .i64 af]::M)=some (.int .i64 (jJ nodes ino),.cells [az nodes,.int .i64 next,.int .i64 af]::M):=fun M=>Xe nodes next af ino h (by omega) 0 (.cells [az nodes,.int .i64 next,.int .i64 af]::M) rfl
 have hd:=acY nodes next af at' (jJ nodes ino) ino h hn
 unfold wM
 simp only [HR,aaf,hk,hd,EN,simprocAttr]
def acM (nodes:List Node) (next af ino at':Int) (h:gw nodes) (hn:nodes.length<=99999) (p:Nat) (M:ag) (hM:nth M p=some (.cells [az nodes,.int .i64 next,.int .i64 af])) :
  ak (ai aQ) 212 [.ptr p 0,.int .i64 ino,.int .i64 at'] M=some (.bool (wM nodes ino at'),M):=by
 have:=gb hM (abD nodes next af ino at' h hn) rfl rfl rfl rfl rfl rfl rfl rfl rfl rfl
 rwa [gG hM] at this
end
section
attribute [local irreducible] cJ cE gD gK bG kr ai ak aV aF
def tz (l:List b9) (s:Bytes):ck (dR l s) s=none:=by
 unfold ck dR
 rw [List.find?_eq_none]
 intro e he
 have:=(List.mem_filter.1 he).2
 simpa using this
def mj {l:List b9} {s r:Bytes} (h:ck l r=none):ck (dR l s) r=none:=by
 unfold ck dR at *
 rw [List.find?_eq_none] at *
 exact fun e he=>h e (List.mem_filter.1 he).1
def dY {nodes:List Node} (h:gw nodes) {dir:Int} {s:Bytes} {d:Node} (hf:find nodes dir=some d) (i:Int):find (bu nodes dir s) i=if i=dir then some { d with av:=dR d.av s } else find nodes i:=by
 have hd:=(aY hf).2
 unfold bu
 rw [hf]
 simp only [Option.getD_some]
 rw [dn h,show ({ d with av:=dR d.av s }:Node).ino=dir from hd]
def yV {nodes:List Node} (h:gw nodes) (n:Node):gw (dW nodes n):=by
 unfold dW
 split
 ·exact kx h _
 ·exact gY h _
def wq {nodes:List Node} (h:gw nodes) (n:Node) {i:Int} (hi:i≠n.ino):find (dW nodes n) i=find nodes i:=by
 unfold dW
 split
 ·rw [jE h,if_neg hi]
 ·rw [dn h,if_neg hi]
def Sz.dW {b:Nat} {t:Tree} (h:Sz b t) {n:Node} (h1:n.av.length<=b+1) (h2:n.data.length<=100000) (next af:Int):Sz (b+1) ⟨dW t.nodes n,next,af⟩:=by
 unfold Go.Proofs.YtahkjijkflobhaaGreatDoor.dW
 split
 ·exact (h.rO _ next af).up (by omega)
 ·exact h.with (n:={ n with bw:=fR (n.bw-1) }) h1 h2 next af
def pD (t:Tree) (dir:Int) (s:Bytes) (to:Int) (nm:Bytes) (ino:Int) (x y:Node) (there:Bool):Tree :=
 dh ⟨if (x.kind==2)=true then bL (if there=true then dW (bu (bu t.nodes dir s) to nm) y else bu t.nodes dir s) { x with up:=to }
  else if there=true then dW (bu (bu t.nodes dir s) to nm) y else bu t.nodes dir s,t.next,t.af⟩ to nm ino
set_option maxHeartbeats 1000000 in
def TR (nodes:List Node) (next af dir:Int) (s:Bytes) (to:Int) (nm:Bytes) (ino:Int) (x y:Node) (there:Bool) (v5 v140:ae) (B0 Bd:aK) (yr:List ae) (hyr:there=true->ae.int .i64 y.ino::yr=aw y) (hz:Sz 1000 ⟨nodes,next,af⟩) (hr:ji ⟨nodes,next,af⟩) {dd dt:Node} (hdir:find nodes dir=some dd) (hto:find nodes to=some dt)
  (hth:there=false->ck dt.av nm=none) (hx:(x.kind==2)=true->x.ino≠to) (hy:there=true->y.ino≠to) (hx1:x.av.length<=1000) (hx2:x.data.length<=100000) (hy1:y.av.length<=1000) (hy2:y.data.length<=100000) :
  cJ (ai aQ) [.eE 10 3,.tmp 11,.tmp 12] 0 [] D0 [(1,.int .i64 dir),(2,.str s),(3,.int .i64 to),(4,.str nm),(5,v5),(10,.ptr 1 0),(13,.int .i64 ino),(15,.ptr 2 0),(17,.ptr 4 0),(19,.ptr 5 0),(21,.bool there),(140,v140)]
   [B0,.cells zT,.cells [az nodes,.int .i64 next,.int .i64 af],Bd,.cells (aw x),.cells (.int .i64 y.ino::yr)]=some (.tuple [bj (pD ⟨nodes,next,af⟩ dir s to nm ino x y there),.int .i64 y.ino,.int .i64 0],[]):=by
 have hasc:gw nodes:=hr.gA
 have n1:=hz.left dir s next af
 have a1:gw (bu nodes dir s):=(hr.left dir s next af).gA
 have e1:iJ dd.av:=hr.av dd (aY hdir).1
 have e2:iJ dt.av:=hr.av dt (aY hto).1
 have l1:dd.av.length<=1000:=hz.av dd (aY hdir).1
 have l2:dt.av.length<=1000:=hz.av dt (aY hto).1
 obtain ⟨d1,f1,g1,m1,q1⟩:∃d1,find (bu nodes dir s) to=some d1/\iJ d1.av/\d1.av.length<=1000/\(ck dt.av nm=none->ck d1.av nm=none):=by
  rw [dY hasc hdir]
  split
  ·rename_i he
   subst he
   rw [hdir] at hto; injection hto with hto; subst hto
   exact ⟨_,rfl,r9 e1 s,Nat.le_trans (sa _ _) l1,mj⟩
  ·exact ⟨dt,hto,e2,l2,id⟩
 have hv1:=fun a b M=>RD nodes next af dir s hasc (hz.small (by omega)).nodes hdir e1 (by omega) 2 (a::b :: .cells [az nodes,.int .i64 next,.int .i64 af]::M) rfl
 have fin:∀(n3:List Node) (d3:Node),gw n3->Sz 1003 ⟨n3,next,af⟩->find n3 to=some d3->iJ d3.av->d3.av.length<=1000->ck d3.av nm=none ->
   (∀a b M,ak (ai aQ) 198 [.ptr 2 0,.int .i64 to,.str nm,.int .i64 ino] (a::b :: .cells [az n3,.int .i64 next,.int .i64 af]::M)=some (.tuple [],a::b :: .cells (ar (dh ⟨n3,next,af⟩ to nm ino))::M)) /\
   ((x.kind==2)=true->(∀a b M,ak (ai aQ) 197 [.ptr 2 0,.agg [.int .i64 x.ino,.int .i64 x.kind,.int .i64 x.bw,dg x.data,fa x.av,.int .i64 to]] (a::b :: .cells [az n3,.int .i64 next,.int .i64 af]::M) =
     some (.tuple [],a::b :: .cells [az (bL n3 { x with up:=to }),.int .i64 next,.int .i64 af]::M)) /\
    ∀a b M,ak (ai aQ) 198 [.ptr 2 0,.int .i64 to,.str nm,.int .i64 ino] (a::b :: .cells [az (bL n3 { x with up:=to }),.int .i64 next,.int .i64 af]::M)=some (.tuple [],a::b :: .cells (ar (dh ⟨bL n3 { x with up:=to },next,af⟩ to nm ino))::M)):=by
  intro n3 d3 b1 b2 b3 b4 b5 b6
  have h0:n3≠[]:=by rintro rfl; simp [find] at b3
  refine ⟨fun a b M=>Ni n3 next af to nm ino b1 (b2.small (by omega)).nodes b3 b4 (by omega) b6 2 (a::b :: .cells [az n3,.int .i64 next,.int .i64 af]::M) rfl,fun hk=>⟨fun a b M=>Cq n3 next af x.ino x.kind x.bw x.data x.av to b1 h0 (b2.small (by omega)).nodes 2 (a::b :: .cells [az n3,.int .i64 next,.int .i64 af]::M) rfl,fun a b M=>?_⟩⟩
  have b7:Sz 1004 ⟨bL n3 { x with up:=to },next,af⟩:=b2.with (n:={ x with up:=to }) (Nat.le_trans hx1 (by omega)) hx2 next af
  have b8:find (bL n3 { x with up:=to }) to=some d3:=by rw [dn b1,if_neg (fun he=>hx hk he.symm)]; exact b3
  exact Ni (bL n3 { x with up:=to }) next af to nm ino (gY b1 _) (b7.small (by omega)).nodes b8 b4 (by omega) b6 2 (a::b :: .cells [az (bL n3 { x with up:=to }),.int .i64 next,.int .i64 af]::M) rfl
 cases hth':there with
 |false =>
  obtain ⟨w1,w2⟩:=fin (bu nodes dir s) d1 a1 (n1.up (by omega)) f1 g1 m1 (q1 (hth hth'))
  cases hkx:(x.kind==2) with
  |false =>
   simp only [pM,hv1,zT,aw,hkx,w1,ar,EN,simprocAttr]
   simp only [pD,hkx,bj,ar,jZ,↓reduceIte,reduceCtorEq,bne_self_eq_false]
  |true =>
   obtain ⟨w3,w4⟩:=w2 hkx
   simp only [pM,hv1,zT,aw,hkx,w3,w4,ar,EN,simprocAttr]
   simp only [pD,hkx,bj,ar,jZ,↓reduceIte,reduceCtorEq,bne_self_eq_false]
 |true =>
  have hyr':yr=[.int .i64 y.kind,.int .i64 y.bw,dg y.data,fa y.av,.int .i64 y.up]:=by have:=hyr hth'; simpa [aw] using this
  subst hyr'
  have a2:gw (bu (bu nodes dir s) to nm):=(ji.left (t:=⟨bu nodes dir s,next,af⟩) (hr.left dir s next af) to nm next af).gA
  have n2:=n1.left to nm next af
  have f2:find (bu (bu nodes dir s) to nm) to=some { d1 with av:=dR d1.av nm }:=by rw [dY a1 f1,if_pos rfl]
  have hv2:=fun a b M=>RD (bu nodes dir s) next af to nm a1 (n1.small (by omega)).nodes f1 g1 (by omega) 2 (a::b :: .cells [az (bu nodes dir s),.int .i64 next,.int .i64 af]::M) rfl
  have hu:=fun a b M=>W6 (bu (bu nodes dir s) to nm) next af y.ino y.kind y.bw y.data y.av y.up a2 (AA a1 f1) (n2.small (by omega)).nodes 2 (a::b :: .cells [az (bu (bu nodes dir s) to nm),.int .i64 next,.int .i64 af]::M) rfl
  have f3:find (dW (bu (bu nodes dir s) to nm) y) to=some { d1 with av:=dR d1.av nm }:=by rw [wq a2 y (fun he=>hy hth' he.symm)]; exact f2
  obtain ⟨w1,w2⟩:=fin (dW (bu (bu nodes dir s) to nm) y) { d1 with av:=dR d1.av nm } (yV a2 y) (n2.dW (Nat.le_trans hy1 (by omega)) hy2 next af) f3 (r9 g1 nm) (Nat.le_trans (sa _ _) m1) (tz _ _)
  cases hkx:(x.kind==2) with
  |false =>
   simp only [pM,hv1,hv2,hu,zT,aw,hkx,w1,ar,EN,simprocAttr]
   simp only [pD,hkx,bj,ar,jZ,↓reduceIte,reduceCtorEq,bne_self_eq_false]
  |true =>
   obtain ⟨w3,w4⟩:=w2 hkx
   simp only [pM,hv1,hv2,hu,zT,aw,hkx,w3,w4,ar,EN,simprocAttr]
   simp only [pD,hkx,bj,ar,jZ,↓reduceIte,reduceCtorEq,bne_self_eq_false]
def eS (nodes:List Node) (l:List b9) (s:Bytes):Node:=match ck l s with
 |none=>Node.zero
 |some e=>aA nodes e.ino
def vv (t:Tree) (dir to:Int) (av:List b9) (there:Bool) (kind ino:Int):Bool :=
 ((!there&&to != dir)&&decide ((64:Int)<=av.length))||(decide ((12:Int)<(ku t.nodes to).length)||((kind==2&&wM t.nodes ino (ku t.nodes to).length)||decide ((1099511627776:Int)<=t.af)))
def DQ (t:Tree) (dir:Int) (s:Bytes) (to:Int) (nm:Bytes):Tree×Int×Int :=
 if ((bU t.nodes dir s).2 != 0)=true then (t,0,(bU t.nodes dir s).2) else
 if ((cP t.nodes to).2 != 0)=true then (t,0,(cP t.nodes to).2) else
 if (!cD nm)=true then (t,0,60) else
 if ((eS t.nodes (cP t.nodes to).1.av nm).ino==(bU t.nodes dir s).1)=true then (t,0,0) else
 if ((aA t.nodes (bU t.nodes dir s).1).kind==2&&(ku t.nodes to).contains (bU t.nodes dir s).1)=true then (t,0,75) else
 if ((ck (cP t.nodes to).1.av nm).isSome&&rq (aA t.nodes (bU t.nodes dir s).1) (eS t.nodes (cP t.nodes to).1.av nm) != 0)=true then (t,0,rq (aA t.nodes (bU t.nodes dir s).1) (eS t.nodes (cP t.nodes to).1.av nm)) else
 if vv t dir to (cP t.nodes to).1.av (ck (cP t.nodes to).1.av nm).isSome (aA t.nodes (bU t.nodes dir s).1).kind (bU t.nodes dir s).1=true then (t,0,76) else
 (pD t dir s to nm (bU t.nodes dir s).1 (aA t.nodes (bU t.nodes dir s).1) (eS t.nodes (cP t.nodes to).1.av nm) (ck (cP t.nodes to).1.av nm).isSome,(eS t.nodes (cP t.nodes to).1.av nm).ino,0)
def W8 (a b c:Int) (d:Bytes) (e:List b9) (u:Int) (a' b' c':Int) (d':Bytes) (e':List b9) (u':Int) (M:ag):ak (ai aQ) 211 [.agg [.int .i64 a,.int .i64 b,.int .i64 c,dg d,fa e,.int .i64 u],.agg [.int .i64 a',.int .i64 b',.int .i64 c',dg d',fa e',.int .i64 u']] M=some (.int .i64 (rq ⟨a,b,c,d,e,u⟩ ⟨a',b',c',d',e',u'⟩),M) :=
 cO (abC ⟨a,b,c,d,e,u⟩ ⟨a',b',c',d',e',u'⟩) M
def L5 (nodes:List Node) (to:Int):(ku nodes to).contains to=true:=by
 have key:∀(m:Nat) (ino:Int) (out:List Int),out.contains to=true->(k9 nodes m ino out).contains to=true:=by
  intro m
  induction m with
  |zero=>intro ino out h; exact h
  |succ m ih =>
   intro ino out h
   rw [k9]
   split
   ·split
    ·exact h
    ·exact ih _ _ (by simp at h ⊢; exact .inl h)
   ·exact h
 exact key _ _ _ (by simp)
def KT {nodes:List Node} {i:Int} (h:(aA nodes i).kind=2):(aA nodes i).ino=i:=by
 cases hf:find nodes i with
 |none=>simp [aA,hf,Node.zero] at h
 |some n=>simp [aA,hf]; exact (aY hf).2
set_option maxHeartbeats 4000000 in
def aaW (t:Tree) (dir:Int) (s:Bytes) (to:Int) (nm:Bytes) (hz:Sz 1000 t) (hr:ji t) (hs:s.length<=100000) (ha:fU s) (hs':nm.length<=100000) (ha':fU nm)
  (L9:∀e,ck (cP t.nodes to).1.av nm=some e->(aA t.nodes e.ino).ino≠to) :
  ai aQ 131 [bj t,.int .i64 dir,.str s,.int .i64 to,.str nm] []=some (.tuple [bj (DQ t dir s to nm).1,.int .i64 (DQ t dir s to nm).2.1,.int .i64 (DQ t dir s to nm).2.2],[]):=by
 obtain ⟨Q,hQ⟩:∃Q,D0=Q:=⟨_,rfl⟩
 obtain ⟨nodes,next,af⟩:=t
 have ht:Small ⟨nodes,next,af⟩:=hz.small (by omega)
 have hn:nodes.length<=100000:=ht.nodes
 have hasc:gw nodes:=hr.gA
 have hl:=fun M=>Ng nodes next af dir s ht hr hs ha M
 have hg:=fun i b c M=>wx nodes next af i hasc hn 2 (b::c :: .cells [az nodes,.int .i64 next,.int .i64 af]::M) rfl
 have hd:=fun b c M=>Nj nodes next af to hasc hn 2 (b::c :: .cells [az nodes,.int .i64 next,.int .i64 af]::M) rfl
 have hup:=fun b c M=>RF nodes next af to hasc hn 2 (b::c :: .cells [az nodes,.int .i64 next,.int .i64 af]::M) rfl
 have hul:=lf nodes to
 have hn1:nodes.length<=1000:=hz.nodes
 have hc:=fun x M=>W7 (ku nodes to) x (by omega) M
 have hdp:=fun i a b c M=>acM nodes next af i a hasc (by omega) 2 (b::c :: .cells [az nodes,.int .i64 next,.int .i64 af]::M) rfl
 have hE:iJ (cP nodes to).1.av:=hr.dir to
 have hde:(cP nodes to).1.av.length<=100000:=r8 ht to
 have hen:=fun a b c d u M=>IV a b c d (cP nodes to).1.av u nm _ (jG hE nm) hde M
 refine aq ?_
 simp only [Hh,pM,hQ,bj,ar,hl,EN,simprocAttr]
 refine aC (fun hb0=>?_) (fun hb0=>?_)
 ·simp only [pM,hQ,hb0,EN,simprocAttr]
  clear hl hg hd hup hc hdp hen L9
  simp_all only [DQ,bj,ar,jZ,↓reduceIte,reduceCtorEq,bne_self_eq_false]
 simp only [pM,hQ,hb0,hd,aX,aw,EN,simprocAttr]
 refine aC (fun hb1=>?_) (fun hb1=>?_)
 ·simp only [pM,hQ,hb1,EN,simprocAttr]
  clear hl hg hd hup hc hdp hen L9
  simp_all only [DQ,bj,ar,jZ,↓reduceIte,reduceCtorEq,bne_self_eq_false]
 simp only [pM,hQ,hb1,RE,hs',ha',EN,simprocAttr]
 refine aC (fun hb2=>?_) (fun hb2=>?_)
 ·simp only [pM,hQ,hb2,EN,simprocAttr]
  clear hl hg hd hup hc hdp hen L9
  simp_all only [DQ,bj,ar,jZ,↓reduceIte,reduceCtorEq,bne_self_eq_false]
 simp only [pM,hQ,hb2,hg,hen,aX,aw,EN,simprocAttr]
 obtain ⟨dd,de,e1,e2,e3,e4,e5⟩:=look_ok hb0
 obtain ⟨dt,g1,g2,g3⟩:=pW (show (cP nodes to).2=0 by simpa using hb1)
 have hx0:=hz.find (bU nodes dir s).1
 have tail:=fun there y yr hyr hth hy hy1 hy2 v5 v140 B0 Bd hxx=>TR nodes next af dir s to nm (bU nodes dir s).1 (aA nodes (bU nodes dir s).1) y there v5 v140 B0 Bd yr hyr hz hr e1 g1 hth hxx hy hx0.1 hx0.2 hy1 hy2
 have hxne:((aA nodes (bU nodes dir s).1).kind==2)=true->(ku nodes to).contains (bU nodes dir s).1=false->(aA nodes (bU nodes dir s).1).ino≠to:=fun h1 h2 h3=>by
  rw [KT (by simpa using h1)] at h3
  rw [h3,L5] at h2; cases h2
 have hdte:dt.av=(cP nodes to).1.av:=by rw [g3]
 rcases nM hE nm with ⟨h1,o,h2,h3,h4⟩|⟨h1,h2⟩
 ·have hnu:eS nodes (cP nodes to).1.av nm=aA nodes o.ino:=by simp [eS,h3]
  have hy0:=hz.find o.ino
  have tl:=tail true (aA nodes o.ino) _ (fun _=>rfl) (by simp) (fun _=>L9 o h3) hy0.1 hy0.2
  simp only [aw,zT] at tl
  simp only [pM,hQ,h1,h2,hg,aX,aw,cI,EN,simprocAttr]
  repeat' ((first|refine aC (fun hb=>?_) (fun hb=>?_)|refine bc (fun hb=>?_) (fun hb=>?_)|refine bZ (fun hb=>?_) (fun hb=>?_))<;>simp only [hb,EN,pM,hQ,hup,hc,hdp,W8,simprocAttr])
  all_goals try (clear hl hg hd hup hc hdp hen L9 tail tl hxne e5 g3; simp_all only [DQ,vv,bj,ar,Option.isSome_some,jZ,↓reduceIte,reduceCtorEq,bne_self_eq_false]; done)
  all_goals
   subst hQ
   refine (tl _ _ _ _ (fun hk=>by first|exact hxne hk (by assumption)|(exfalso; simp_all; done))).trans ?_
   have hmv:DQ ⟨nodes,next,af⟩ dir s to nm=(pD ⟨nodes,next,af⟩ dir s to nm (bU nodes dir s).1 (aA nodes (bU nodes dir s).1) (aA nodes o.ino) true,(aA nodes o.ino).ino,0):=by
    clear hl hg hd hup hc hdp hen L9 tail tl hxne e5 g3
    simp_all only [DQ,vv,Option.isSome_some,jZ,↓reduceIte,reduceCtorEq,bne_self_eq_false]
   rw [hmv]
   rfl
 ·have hnu:eS nodes (cP nodes to).1.av nm=Node.zero:=by simp [eS,h2]
  have tl:=tail false Node.zero [.int .i64 0,.int .i64 0,.slice .c0 [],.slice .c0 [],.int .i64 0] (by simp) (fun _=>by rw [hdte]; exact h2) (by simp) (by simp [Node.zero]) (by simp [Node.zero])
  have hz0:Node.zero.ino=0:=rfl
  simp only [aw,zT,hz0] at tl
  simp only [pM,hQ,h1,EN,simprocAttr]
  repeat' ((first|refine aC (fun hb=>?_) (fun hb=>?_)|refine bc (fun hb=>?_) (fun hb=>?_)|refine bZ (fun hb=>?_) (fun hb=>?_))<;>simp only [hb,EN,pM,hQ,hup,hc,hdp,W8,simprocAttr])
  all_goals try (clear hl hg hd hup hc hdp hen L9 tail tl hxne e5 g3; simp_all only [DQ,vv,bj,ar,Option.isSome_none,jZ,↓reduceIte,reduceCtorEq,bne_self_eq_false]; done)
  all_goals
   subst hQ
   refine (tl _ _ _ _ (fun hk=>by first|exact hxne hk (by assumption)|(exfalso; simp_all; done))).trans ?_
   have hmv:DQ ⟨nodes,next,af⟩ dir s to nm=(pD ⟨nodes,next,af⟩ dir s to nm (bU nodes dir s).1 (aA nodes (bU nodes dir s).1) Node.zero false,0,0):=by
    clear hl hg hd hup hc hdp hen L9 tail tl hxne e5 g3
    simp_all only [DQ,vv,Option.isSome_none,jZ,↓reduceIte,reduceCtorEq,bne_self_eq_false]
   rw [hmv]
   rfl
end
def iR (l:List b9) (i:Int):Nat:=l.countP fun e=>e.ino==i
def lu (ns:List Node) (i:Int):Nat:=(ns.map fun n=>iR n.av i).sum
def qV (i:Int):iR [] i=0:=rfl
def qU (a b:List b9) (i:Int):iR (a++b) i=iR a i+iR b i:=List.countP_append
def wK (e:b9) (l:List b9) (i:Int):iR (e::l) i=iR l i+(if e.ino=i then 1 else 0):=by simp [iR,List.countP_cons]
def oX (a b:List Node) (i:Int):lu (a++b) i=lu a i+lu b i:=by simp [lu]
def mf (n:Node) (l:List Node) (i:Int):lu (n::l) i=iR n.av i+lu l i:=by simp [lu]
def mg {ns:List Node} (h:gw ns) (n:Node) (i:Int):lu (bL ns n) i+iR (aA ns n.ino).av i=lu ns i+iR n.av i:=by
 rcases ke h n.ino with ⟨_,o,h2,h3,h4⟩|⟨_,h2⟩
 ·rw [kE h h2 h4]
  obtain ⟨s1,s2⟩:=pc (n:=n) h2
  have e1:lu ns i=lu (ns.take (eD ns n.ino)) i+(iR o.av i+lu (ns.drop (eD ns n.ino+1)) i):=by
   rw [<-mf,<-oX,<-s1]
  rw [s2,oX,mf,e1]
  simp only [aA,h3,Option.getD_some]
  omega
 ·rw [pg h h2]
  have e1:lu ns i=lu (ns.take (eD ns n.ino)) i+lu (ns.drop (eD ns n.ino)) i:=by
   rw [<-oX,List.take_append_drop]
  rw [oX,mf,e1]
  simp only [aA,h2,Option.getD_none,Node.zero,qV]
  omega
def yg {ns:List Node} (h:gw ns) (k i:Int):lu (ct ns k) i+iR (aA ns k).av i=lu ns i:=by
 rcases ke h k with ⟨_,o,h2,h3,h4⟩|⟨_,h2⟩
 ·rw [rP h h2 h4]
  obtain ⟨s1,_⟩:=pc (n:=o) h2
  have e1:lu ns i=lu (ns.take (eD ns k)) i+(iR o.av i+lu (ns.drop (eD ns k+1)) i):=by
   rw [<-mf,<-oX,<-s1]
  rw [oX,e1]
  simp only [aA,h3,Option.getD_some]
  omega
 ·rw [pL h2]
  simp only [aA,h2,Option.getD_none,Node.zero,qV]
  omega
def zJ {l:List b9} {i:Int}:0<iR l i↔∃e,e∈l/\e.ino=i:=by simp [iR,List.countP_pos_iff]
def mV {i:Int}:∀ {ns:List Node},0<lu ns i↔∃n e,n∈ns/\e∈n.av/\e.ino=i
 | []=>by simp [lu]
 |n::ns=>by
  rw [mf]
  constructor
  ·intro h
   rcases Nat.eq_zero_or_pos (iR n.av i) with h0|h0
   ·obtain ⟨m,e,h1,h2,h3⟩:=(mV (i:=i) (ns:=ns)).1 (by omega)
    exact ⟨m,e,List.mem_cons_of_mem _ h1,h2,h3⟩
   ·obtain ⟨e,h1,h2⟩:=zJ.1 h0
    exact ⟨n,e,List.mem_cons_self,h1,h2⟩
  ·rintro ⟨m,e,h1,h2,h3⟩
   rcases List.mem_cons.1 h1 with rfl|h1
   ·have:=zJ.2 ⟨e,h2,h3⟩; omega
   ·have:=(mV (i:=i) (ns:=ns)).2 ⟨m,e,h1,h2,h3⟩; omega
def KR {l:List b9} (h:iJ l) {e:b9} (hf:ck l e.name=none) {x:b9}:x∈ri l e↔x=e\/x∈l:=by
 rw [mr h hf]
 have:x∈l↔x∈l.take (eR l e.name)\/x∈l.drop (eR l e.name):=by rw [<-List.mem_append,List.take_append_drop]
 rw [this,List.mem_append,List.mem_cons]
 constructor
 ·rintro (h|h|h)
  ·exact .inr (.inl h)
  ·exact .inl h
  ·exact .inr (.inr h)
 ·rintro (h|h|h)
  ·exact .inr (.inl h)
  ·exact .inl h
  ·exact .inr (.inr h)
def EO {l:List b9} (h:iJ l) {e:b9} (hf:ck l e.name=none) (i:Int):iR (ri l e) i=iR l i+(if e.ino=i then 1 else 0):=by
 rw [mr h hf,qU,wK]
 have:iR l i=iR (l.take (eR l e.name)) i+iR (l.drop (eR l e.name)) i:=by rw [<-qU,List.take_append_drop]
 omega
def Fu {l:List b9} {s:Bytes} {x:b9}:x∈dR l s↔x∈l/\x.name≠s:=by simp [dR,List.mem_filter]
def CU {l:List b9} {b:Nat} {o:b9} (ho:l[b]?=some o):l=l.take b++o::l.drop (b+1):=by
 have hlt:=(List.getElem?_eq_some_iff.1 ho).1
 rw [List.getElem?_eq_getElem hlt] at ho; injection ho with ho
 conv=>lhs; rw [<-List.take_append_drop b l]
 rw [List.drop_eq_getElem_cons hlt,ho]
def BW {l:List b9} (h:iJ l) {s:Bytes} {o:b9} (hf:ck l s=some o) (i:Int):iR (dR l s) i+(if o.ino=i then 1 else 0)=iR l i:=by
 rcases nM h s with ⟨_,o',h2,h3,h4⟩|⟨_,h2⟩
 ·rw [hf] at h3; injection h3 with h3; subst h3
  rw [wP h h2 h4]
  have e1:iR l i=iR (l.take (eR l s)) i+(iR (l.drop (eR l s+1)) i+(if o.ino=i then 1 else 0)):=by
   rw [<-wK,<-qU,<-CU h2]
  rw [qU,e1]
  omega
 ·rw [hf] at h2; cases h2
def o7 {ns:List Node} (h:gw ns) {n o:Node} (hf:find ns n.ino=some o):(bL ns n).length=ns.length:=by
 rcases ke h n.ino with ⟨_,o,h2,h3,h4⟩|⟨_,h2⟩
 ·rw [kE h h2 h4,List.length_set]
 ·rw [hf] at h2; cases h2
def Nm (s:Bytes):Prop:=cD s=true
structure bm (t:Tree) (dep:Int->Nat) (x:Int):Prop where
 ft:ji t
 root:∃r,find t.nodes 1=some r/\r.kind=2/\r.up=1
 num:∀i n,find t.nodes i=some n->1<=i/\i<t.next
 kind:∀i n,find t.nodes i=some n->n.kind=1\/n.kind=2
 file:∀i n,find t.nodes i=some n->n.kind=1->n.av=[]/\n.up=0/\n.data.length<=4096
 dir:∀i n,find t.nodes i=some n->n.kind=2->n.data=[]
 uf:∀i n e,find t.nodes i=some n->e∈n.av->1<=e.af/\e.af<t.af/\e.ino≠1/\Nm e.name/\∃m,find t.nodes e.ino=some m/\(m.kind=2->m.up=i)
 po:∀i n,find t.nodes i=some n->(n.av.Pairwise fun a b=>a.af≠b.af)/\n.av.length<=64
 bw:∀i n,find t.nodes i=some n->n.bw=(lu t.nodes i:Int)+(if i=x then 1 else 0)
 one:∀i n,find t.nodes i=some n->n.kind=2->i≠1->n.bw=1
 uV:dep 1=0
 j7:∀i n,find t.nodes i=some n->n.kind=2->i≠1->dep i=dep n.up+1/\∃p,find t.nodes n.up=some p/\p.kind=2
 deep:∀i n,find t.nodes i=some n->n.kind=2->dep i<=12/\(dep i=12->n.av=[])
 nodes:t.nodes.length<=200
 next:t.next<=1099511627776
 af:1<=t.af/\t.af<=1099511627776
def bm.ino {t:Tree} {dep:Int->Nat} {x:Int} (_:bm t dep x) {i:Int} {n:Node} (hf:find t.nodes i=some n):n.ino=i:=(aY hf).2
def bm.bX {t t':Tree} {dep:Int->Nat} {x x' d:Int} {n n':Node} (h:bm t dep x) (hs:ji t') (hd:find t.nodes d=some n)
  (hf:∀i,find t'.nodes i=if i=d then some n' else find t.nodes i) (hk:n'.kind=n.kind) (hu:n'.up=n.up)
  (hfile:n.kind=1->n'.av=[]/\n'.data.length<=4096) (hdir:n.kind=2->n'.data=[])
  (hent:∀e,e∈n'.av->1<=e.af/\e.af<t'.af/\e.ino≠1/\Nm e.name/\∃m,find t.nodes e.ino=some m/\(m.kind=2->m.up=d))
  (hcook:(n'.av.Pairwise fun a b=>a.af≠b.af)/\n'.av.length<=64)
  (hc:∀i,1<=i->(lu t'.nodes i:Int)+(if i=x' then 1 else 0)=lu t.nodes i+(if i=x then 1 else 0)+(if i=d then n'.bw-n.bw else 0))
  (h1:n.kind=2->n'.bw=n.bw) (hdeep:dep d=12->n'.av=[]) (hn:t'.nodes.length<=200) (hnx:t'.next=t.next) (hck:t.af<=t'.af) (hck':t'.af<=1099511627776):bm t' dep x':=by
 have iM:∀j m,find t.nodes j=some m->∃m',find t'.nodes j=some m'/\m'.kind=m.kind/\m'.up=m.up:=by
  intro j m hm
  rw [hf]
  split
  ·rename_i he
   subst he
   rw [hd] at hm; injection hm with hm; subst hm
   exact ⟨n',rfl,hk,hu⟩
  ·exact ⟨m,hm,rfl,rfl⟩
 have back:∀j m',find t'.nodes j=some m'->(j=d/\m'=n')\/(j≠d/\find t.nodes j=some m'):=by
  intro j m' hm
  rw [hf] at hm
  split at hm
  ·rename_i he; injection hm with hm; exact .inl ⟨he,hm.symm⟩
  ·rename_i he; exact .inr ⟨he,hm⟩
 refine ⟨hs,?_,?_,?_,?_,?_,?_,?_,?_,?_,h.uV,?_,?_,hn,by rw [hnx]; exact h.next,⟨by have:=h.af.1; omega,hck'⟩⟩
 ·obtain ⟨r,h1,h2,h3⟩:=h.root
  obtain ⟨r',k1,k2,k3⟩:=iM _ _ h1
  exact ⟨r',k1,by omega,by omega⟩
 ·intro i m hm
  rw [hnx]
  rcases back i m hm with ⟨rfl,rfl⟩|⟨_,hm⟩
  ·exact h.num _ _ hd
  ·exact h.num _ _ hm
 ·intro i m hm
  rcases back i m hm with ⟨rfl,rfl⟩|⟨_,hm⟩
  ·rw [hk]; exact h.kind _ _ hd
  ·exact h.kind _ _ hm
 ·intro i m hm hk1
  rcases back i m hm with ⟨rfl,rfl⟩|⟨_,hm⟩
  ·rw [hk] at hk1
   exact ⟨(hfile hk1).1,by rw [hu]; exact (h.file _ _ hd hk1).2.1,(hfile hk1).2⟩
  ·exact h.file _ _ hm hk1
 ·intro i m hm hk1
  rcases back i m hm with ⟨rfl,rfl⟩|⟨_,hm⟩
  ·rw [hk] at hk1
   exact hdir hk1
  ·exact h.dir _ _ hm hk1
 ·intro i m e hm he
  have key:∀m,find t.nodes e.ino=some m/\(m.kind=2->m.up=i)->∃m,find t'.nodes e.ino=some m/\(m.kind=2->m.up=i):=by
   rintro m ⟨k1,k2⟩
   obtain ⟨m',j1,j2,j3⟩:=iM _ _ k1
   exact ⟨m',j1,fun hk=>by rw [j3]; exact k2 (by omega)⟩
  rcases back i m hm with ⟨rfl,rfl⟩|⟨_,hm⟩
  ·obtain ⟨a1,a2,a3,a4,k,a5⟩:=hent e he
   exact ⟨a1,a2,a3,a4,key k a5⟩
  ·obtain ⟨a1,a2,a3,a4,k,a5⟩:=h.uf _ _ e hm he
   exact ⟨a1,by omega,a3,a4,key k a5⟩
 ·intro i m hm
  rcases back i m hm with ⟨rfl,rfl⟩|⟨_,hm⟩
  ·exact hcook
  ·exact h.po _ _ hm
 ·intro i m hm
  rcases back i m hm with ⟨rfl,rfl⟩|⟨hne,hm⟩
  ·have:=hc i (h.num _ _ hd).1
   have:=h.bw _ _ hd
   simp only [↓reduceIte] at *
   omega
  ·have:=hc i (h.num _ _ hm).1
   have:=h.bw _ _ hm
   simp only [hne,↓reduceIte] at *
   omega
 ·intro i m hm hk1 hi
  rcases back i m hm with ⟨rfl,rfl⟩|⟨_,hm⟩
  ·rw [hk] at hk1
   rw [h1 hk1]; exact h.one _ _ hd hk1 hi
  ·exact h.one _ _ hm hk1 hi
 ·intro i m hm hk1 hi
  rcases back i m hm with ⟨rfl,rfl⟩|⟨_,hm⟩
  ·rw [hk] at hk1
   obtain ⟨a,p,b,c⟩:=h.j7 _ _ hd hk1 hi
   obtain ⟨p',k1,k2,_⟩:=iM _ _ b
   rw [hu]; exact ⟨a,p',k1,by omega⟩
  ·obtain ⟨a,p,b,c⟩:=h.j7 _ _ hm hk1 hi
   obtain ⟨p',k1,k2,_⟩:=iM _ _ b
   exact ⟨a,p',k1,by omega⟩
 ·intro i m hm hk1
  rcases back i m hm with ⟨rfl,rfl⟩|⟨_,hm⟩
  ·rw [hk] at hk1
   exact ⟨(h.deep _ _ hd hk1).1,hdeep⟩
  ·exact h.deep _ _ hm hk1
def bm.left {t:Tree} {dep:Int->Nat} {d:Int} {n:Node} {s:Bytes} {e:b9} (h:bm t dep 0) (hd:find t.nodes d=some n) (he:ck n.av s=some e):bm ⟨bu t.nodes d s,t.next,t.af⟩ dep e.ino:=by
 have hE:iJ n.av:=h.ft.av n (aY hd).1
 have hi:n.ino=d:=h.ino hd
 have hem:=dr he
 have hw:bu t.nodes d s=bL t.nodes { n with av:=dR n.av s }:=by simp [bu,hd]
 have hc:∀i,lu (bu t.nodes d s) i+(if e.ino=i then 1 else 0)=lu t.nodes i:=by
  intro i
  have h1:=mg h.ft.gA { n with av:=dR n.av s } i
  have h2:=BW hE he i
  rw [hw]
  have h3:aA t.nodes n.ino=n:=by simp only [aA,hi,hd,Option.getD_some]
  simp only [h3] at h1
  omega
 refine h.bX (h.ft.left d s t.next t.af) hd (dY h.ft.gA hd) rfl rfl ?_ ?_ ?_ ?_ ?_ (fun _=>rfl) ?_ ?_ rfl (Int.le_refl _) h.af.2
 ·intro hk
  obtain ⟨h1,_,h3⟩:=h.file _ _ hd hk
  exact ⟨by simp [h1,dR],h3⟩
 ·exact h.dir _ _ hd
 ·intro x hx
  exact h.uf _ _ x hd (Fu.1 hx).1
 ·exact ⟨List.Pairwise.filter _ (h.po _ _ hd).1,Nat.le_trans (List.length_filter_le _ _) (h.po _ _ hd).2⟩
 ·intro i h0
  have h1:=hc i
  rw [if_neg (show i≠0 by omega)]
  have e1:(if i=d then (n.bw-n.bw:Int) else 0)=0:=by split<;>omega
  simp only [e1]
  by_cases h0:i=e.ino
  ·subst h0
   simp only [↓reduceIte] at h1 ⊢
   omega
  ·rw [if_neg (fun hh=>h0 hh.symm)] at h1
   rw [if_neg h0]
   omega
 ·intro h12
  have:=(h.deep _ _ hd ?_).2 h12
  ·simp [this,dR]
  ·rcases h.kind _ _ hd with hk|hk
   ·have:=(h.file _ _ hd hk).1
    rw [this] at hem; cases hem.1
   ·exact hk
 ·show (bu t.nodes d s).length<=200
  rw [hw,o7 h.ft.gA (o:=n) (by simp only [hi]; exact hd)]
  exact h.nodes
def bm.iX {t:Tree} {dep:Int->Nat} {x d:Int} {n m:Node} {s:Bytes} (h:bm t dep x) (hd:find t.nodes d=some n) (hk:n.kind=2) (he:ck n.av s=none) (h64:n.av.length<64) (hnm:Nm s)
  (hx:find t.nodes x=some m) (hx1:x≠1) (hup:m.kind=2->m.up=d) (hdp:dep d<12) (hck:t.af<1099511627776):bm (dh t d s x) dep 0:=by
 have hE:iJ n.av:=h.ft.av n (aY hd).1
 have hi:n.ino=d:=h.ino hd
 have hcw:fR (t.af+1)=t.af+1:=bD (by have:=h.af; omega) (by omega)
 have hw:dh t d s x=⟨bL t.nodes { n with av:=ri n.av ⟨s,x,t.af⟩ },t.next,t.af+1⟩:=by simp only [dh,hd,Option.getD_some,hcw]
 have hfn:ck n.av (b9.mk s x t.af).name=none:=he
 have hc:∀i,lu (dh t d s x).nodes i=lu t.nodes i+(if x=i then 1 else 0):=by
  intro i
  have h1:=mg h.ft.gA { n with av:=ri n.av ⟨s,x,t.af⟩ } i
  have h2:=EO hE hfn i
  rw [hw]
  have h3:aA t.nodes n.ino=n:=by simp only [aA,hi,hd,Option.getD_some]
  simp only [h3] at h1 h2 ⊢
  omega
 have hff:∀i,find (dh t d s x).nodes i=if i=d then some { n with av:=ri n.av ⟨s,x,t.af⟩ } else find t.nodes i:=by
  intro i
  rw [hw]
  have:=dn h.ft.gA { n with av:=ri n.av ⟨s,x,t.af⟩ } i
  rw [this]
  simp only [hi]
 refine h.bX (h.ft.iX d s x (by simp [aA,hd,he])) hd hff rfl rfl ?_ ?_ ?_ ?_ ?_ (fun _=>rfl) ?_ ?_ ?_ ?_ ?_
 ·intro hk1; omega
 ·exact h.dir _ _ hd
 ·intro e hem
  rw [hw]
  rcases (KR hE hfn).1 hem with rfl|hem
  ·exact ⟨h.af.1,by simp only; omega,hx1,hnm,m,hx,hup⟩
  ·obtain ⟨a1,a2,a3,a4,a5⟩:=h.uf _ _ e hd hem
   exact ⟨a1,by simp only; omega,a3,a4,a5⟩
 ·refine ⟨?_,by simp only [mr hE hfn,List.length_append,List.length_cons,List.length_take,List.length_drop]; omega⟩
  rw [mr hE hfn]
  have hp:=(h.po _ _ hd).1
  rw [<-List.take_append_drop (eR n.av s) n.av,List.pairwise_append] at hp
  obtain ⟨p1,p2,p3⟩:=hp
  rw [List.pairwise_append]
  refine ⟨p1,List.pairwise_cons.2 ⟨fun a ha=>?_,p2⟩,fun a ha c hc=>?_⟩
  ·have:=(h.uf _ _ a hd (List.mem_of_mem_drop ha)).2.1
   simp only; omega
  ·rcases List.mem_cons.1 hc with rfl|hc
   ·have:=(h.uf _ _ a hd (List.mem_of_mem_take ha)).2.1
    simp only; omega
   ·exact p3 a ha c hc
 ·intro i h0
  have h1:=hc i
  rw [if_neg (show i≠0 by omega)]
  have e1:(if i=d then (n.bw-n.bw:Int) else 0)=0:=by split<;>omega
  simp only [e1]
  by_cases h0:i=x
  ·subst h0
   simp only [↓reduceIte] at h1 ⊢
   omega
  ·rw [if_neg (fun hh=>h0 hh.symm)] at h1
   rw [if_neg h0]
   omega
 ·intro h12; omega
 ·rw [hw]
  simp only
  rw [o7 h.ft.gA (o:=n) (by simp only [hi]; exact hd)]
  exact h.nodes
 ·rw [hw]
 ·rw [hw]; simp only; omega
 ·rw [hw]; simp only; omega
def bm.GZ {t:Tree} {dep:Int->Nat} {x x' d:Int} {n n':Node} (h:bm t dep x) (hd:find t.nodes d=some n) (hk:n.kind=1) (hi':n'.ino=d) (hk':n'.kind=1) (hu:n'.up=n.up) (he:n'.av=n.av) (hda:n'.data.length<=4096)
  (hx:∀i:Int,1<=i->(if i=x' then 1 else 0:Int)=(if i=x then 1 else 0)+(if i=d then n'.bw-n.bw else 0)):bm ⟨bL t.nodes n',t.next,t.af⟩ dep x':=by
 have hi:n.ino=d:=h.ino hd
 have hE:iJ n'.av:=by rw [he]; exact h.ft.av n (aY hd).1
 have hff:∀i,find (bL t.nodes n') i=if i=d then some n' else find t.nodes i:=by
  intro i
  rw [dn h.ft.gA n' i,hi']
 obtain ⟨f1,f2,f3⟩:=h.file _ _ hd hk
 refine h.bX (h.ft.with hE t.next t.af) hd hff (by omega) hu ?_ ?_ ?_ ?_ ?_ ?_ ?_ ?_ rfl (Int.le_refl _) h.af.2
 ·intro _; exact ⟨by rw [he]; exact f1,hda⟩
 ·intro h2; omega
 ·intro e hem; rw [he,f1] at hem; cases hem
 ·rw [he,f1]; exact ⟨List.Pairwise.nil,by simp⟩
 ·intro i h0
  have h1:=mg h.ft.gA n' i
  have h2:=hx i h0
  simp only [aA,hi',hd,Option.getD_some,he] at h1
  simp only
  omega
 ·intro h2; omega
 ·intro _; rw [he,f1]
 ·simp only
  rw [o7 h.ft.gA (o:=n) (by simp only [hi']; exact hd)]
  exact h.nodes
def bm.named {t:Tree} {dep:Int->Nat} {x:Int} (h:bm t dep x) {i:Int} {n:Node} (hi:find t.nodes i=some n) (hk:n.kind=2) (h1:i≠1) (hx:i≠x):∃p e,find t.nodes n.up=some p/\p.kind=2/\e∈p.av/\e.ino=i:=by
 have a:=h.bw _ _ hi
 have b:=h.one _ _ hi hk h1
 rw [if_neg hx] at a
 obtain ⟨m,e,e1,e2,e3⟩:=mV.1 (show 0<lu t.nodes i by omega)
 have hm:find t.nodes m.ino=some m:=(dM h.ft.gA).2 ⟨e1,rfl⟩
 obtain ⟨_,_,_,_,k,k1,k2⟩:=h.uf _ _ e hm e2
 rw [e3,hi] at k1; injection k1 with k1; subst k1
 obtain ⟨_,p,p1,p2⟩:=h.j7 _ _ hi hk h1
 rw [k2 hk] at p1 ⊢
 rw [hm] at p1; injection p1 with p1; subst p1
 exact ⟨m,e,hm,p2,e2,e3⟩
def bm.drop {t:Tree} {dep:Int->Nat} {x k:Int} {n:Node} (h:bm t dep x) (hx:x=k\/x=0) (hk:find t.nodes k=some n) (he:n.av=[]) (h1:k≠1) (hc:lu t.nodes k=0):bm ⟨ct t.nodes k,t.next,t.af⟩ dep 0:=by
 have hff:∀i m,find (ct t.nodes k) i=some m↔i≠k/\find t.nodes i=some m:=by
  intro i m
  rw [jE h.ft.gA]
  split<;>simp_all
 have hcn:∀i,lu (ct t.nodes k) i=lu t.nodes i:=by
  intro i
  have:=yg h.ft.gA k i
  simp only [aA,hk,Option.getD_some,he,qV] at this
  omega
 have hno:∀i m e,find t.nodes i=some m->e∈m.av->e.ino≠k:=by
  intro i m e hm hem hh
  have:=mV.2 ⟨m,e,(aY hm).1,hem,hh⟩
  omega
 refine ⟨h.ft.rO k t.next t.af,?_,?_,?_,?_,?_,?_,?_,?_,?_,h.uV,?_,?_,?_,h.next,h.af⟩
 ·obtain ⟨r,r1,r2⟩:=h.root
  exact ⟨r,(hff _ _).2 ⟨fun hh=>h1 hh.symm,r1⟩,r2⟩
 ·intro i m hm; exact h.num _ _ ((hff _ _).1 hm).2
 ·intro i m hm; exact h.kind _ _ ((hff _ _).1 hm).2
 ·intro i m hm; exact h.file _ _ ((hff _ _).1 hm).2
 ·intro i m hm; exact h.dir _ _ ((hff _ _).1 hm).2
 ·intro i m e hm hem
  have hm':=((hff _ _).1 hm).2
  obtain ⟨a1,a2,a3,a4,q,a5,a6⟩:=h.uf _ _ e hm' hem
  exact ⟨a1,a2,a3,a4,q,(hff _ _).2 ⟨hno _ _ e hm' hem,a5⟩,a6⟩
 ·intro i m hm; exact h.po _ _ ((hff _ _).1 hm).2
 ·intro i m hm
  obtain ⟨m1,m2⟩:=(hff _ _).1 hm
  have:=h.bw _ _ m2
  have h0:=(h.num _ _ m2).1
  rw [if_neg (show i≠0 by omega)]
  rw [if_neg (by rcases hx with rfl|rfl<;>omega)] at this
  simp only [hcn]
  exact this
 ·intro i m hm; exact h.one _ _ ((hff _ _).1 hm).2
 ·intro i m hm hk2 hi1
  obtain ⟨m1,m2⟩:=(hff _ _).1 hm
  obtain ⟨a,p,b,c⟩:=h.j7 _ _ m2 hk2 hi1
  refine ⟨a,p,(hff _ _).2 ⟨fun hh=>?_,b⟩,c⟩
  have h0:=(h.num _ _ m2).1
  obtain ⟨q,e,q1,_,q3,_⟩:=h.named m2 hk2 hi1 (by rcases hx with rfl|rfl<;>omega)
  rw [hh,hk] at q1; injection q1 with q1; subst q1
  rw [he] at q3; cases q3
 ·intro i m hm; exact h.deep _ _ ((hff _ _).1 hm).2
 ·exact Nat.le_trans (List.length_filter_le _ _) h.nodes
def bm.ZC {t:Tree} {dep dep':Int->Nat} {x to:Int} {n p:Node} (h:bm t dep x) (hx:find t.nodes x=some n) (hk:n.kind=2) (hx1:x≠1) (hp:find t.nodes to=some p) (hpk:p.kind=2)
  (h1:dep' 1=0) (hds:∀i m,find t.nodes i=some m->m.kind=2->i≠1->i≠x->dep' i=dep' m.up+1) (hdx:dep' x=dep' to+1)
  (hdeep:∀i m,find t.nodes i=some m->m.kind=2->dep' i<=12/\(dep' i=12->m.av=[])):bm ⟨bL t.nodes { n with up:=to },t.next,t.af⟩ dep' x:=by
 have hi:n.ino=x:=h.ino hx
 have hff:∀i,find (bL t.nodes { n with up:=to }) i=if i=x then some { n with up:=to } else find t.nodes i:=by
  intro i
  rw [dn h.ft.gA { n with up:=to } i]
  simp only [hi]
 have iM:∀j m,find t.nodes j=some m->∃m',find (bL t.nodes { n with up:=to }) j=some m'/\m'.kind=m.kind/\(j≠x->m'.up=m.up):=by
  intro j m hm
  rw [hff]
  split
  ·rename_i he
   subst he
   rw [hx] at hm; injection hm with hm; subst hm
   exact ⟨_,rfl,rfl,fun hh=>absurd rfl hh⟩
  ·exact ⟨m,hm,rfl,fun _=>rfl⟩
 have back:∀j m',find (bL t.nodes { n with up:=to }) j=some m'->(j=x/\m'={ n with up:=to })\/(j≠x/\find t.nodes j=some m'):=by
  intro j m' hm
  rw [hff] at hm
  split at hm
  ·rename_i he; injection hm with hm; exact .inl ⟨he,hm.symm⟩
  ·rename_i he; exact .inr ⟨he,hm⟩
 have hcn:∀i,lu (bL t.nodes { n with up:=to }) i=lu t.nodes i:=by
  intro i
  have:=mg h.ft.gA { n with up:=to } i
  have h3:aA t.nodes n.ino=n:=by simp only [aA,hi,hx,Option.getD_some]
  simp only [h3] at this
  omega
 have hc0:lu t.nodes x=0:=by
  have a:=h.bw _ n hx
  have b:=h.one _ n hx hk hx1
  simp only [↓reduceIte] at a
  omega
 have hno:∀i m e,find t.nodes i=some m->e∈m.av->e.ino≠x:=by
  intro i m e hm hem hh
  have:=mV.2 ⟨m,e,(aY hm).1,hem,hh⟩
  omega
 have hent:∀i m e,find t.nodes i=some m->e∈m.av->1<=e.af/\e.af<t.af/\e.ino≠1/\Nm e.name/\∃m,find (bL t.nodes { n with up:=to }) e.ino=some m/\(m.kind=2->m.up=i):=by
  intro i m e hm hem
  obtain ⟨a1,a2,a3,a4,q,a5,a6⟩:=h.uf _ _ e hm hem
  obtain ⟨q',j1,j2,j3⟩:=iM _ _ a5
  exact ⟨a1,a2,a3,a4,q',j1,fun hk=>by rw [j3 (hno _ _ e hm hem)]; exact a6 (by omega)⟩
 refine ⟨h.ft.with (n:={ n with up:=to }) (h.ft.av n (aY hx).1) t.next t.af,?_,?_,?_,?_,?_,?_,?_,?_,?_,h1,?_,?_,?_,h.next,h.af⟩
 ·obtain ⟨r,r1,r2,r3⟩:=h.root
  obtain ⟨r',k1,k2,k3⟩:=iM _ _ r1
  exact ⟨r',k1,by omega,by rw [k3 (fun hh=>hx1 hh.symm)]; exact r3⟩
 ·intro i m hm
  rcases back i m hm with ⟨rfl,rfl⟩|⟨_,hm⟩
  ·exact h.num _ n hx
  ·exact h.num _ _ hm
 ·intro i m hm
  rcases back i m hm with ⟨rfl,rfl⟩|⟨_,hm⟩
  ·exact h.kind _ n hx
  ·exact h.kind _ _ hm
 ·intro i m hm hk1
  rcases back i m hm with ⟨rfl,rfl⟩|⟨_,hm⟩
  ·simp only at hk1; omega
  ·exact h.file _ _ hm hk1
 ·intro i m hm hk1
  rcases back i m hm with ⟨rfl,rfl⟩|⟨_,hm⟩
  ·exact h.dir _ n hx hk
  ·exact h.dir _ _ hm hk1
 ·intro i m e hm hem
  rcases back i m hm with ⟨rfl,rfl⟩|⟨_,hm⟩
  ·exact hent _ n e hx hem
  ·exact hent _ _ e hm hem
 ·intro i m hm
  rcases back i m hm with ⟨rfl,rfl⟩|⟨_,hm⟩
  ·exact h.po _ n hx
  ·exact h.po _ _ hm
 ·intro i m hm
  simp only [hcn]
  rcases back i m hm with ⟨rfl,rfl⟩|⟨_,hm⟩
  ·exact h.bw _ n hx
  ·exact h.bw _ _ hm
 ·intro i m hm hk1 hi1
  rcases back i m hm with ⟨rfl,rfl⟩|⟨_,hm⟩
  ·exact h.one _ n hx hk hi1
  ·exact h.one _ _ hm hk1 hi1
 ·intro i m hm hk1 hi1
  rcases back i m hm with ⟨rfl,rfl⟩|⟨hne,hm⟩
  ·obtain ⟨p',k1,k2,_⟩:=iM _ _ hp
   exact ⟨hdx,p',k1,by omega⟩
  ·obtain ⟨_,q,b,c⟩:=h.j7 _ _ hm hk1 hi1
   obtain ⟨q',k1,k2,_⟩:=iM _ _ b
   exact ⟨hds _ _ hm hk1 hi1 hne,q',k1,by omega⟩
 ·intro i m hm hk1
  rcases back i m hm with ⟨rfl,rfl⟩|⟨_,hm⟩
  ·exact hdeep _ n hx hk
  ·exact hdeep _ _ hm hk1
 ·simp only
  rw [o7 h.ft.gA (o:=n) (by simp only [hi]; exact hx)]
  exact h.nodes
def bm.made {t:Tree} {dep:Int->Nat} {d kind:Int} {p:Node} (h:bm t dep 0) (hp:find t.nodes d=some p) (hpk:p.kind=2) (hk:kind=1\/kind=2) (hdp:dep d<12) (hl:t.nodes.length<200) (hn:t.next<1099511627776) :
  bm ⟨bL t.nodes ⟨t.next,kind,1,[],[],if (kind==2)=true then d else 0⟩,t.next+1,t.af⟩ (fun i=>if i=t.next then dep d+1 else dep i) t.next:=by
 have dH:find t.nodes t.next=none:=by
  cases hz:find t.nodes t.next with
  |none=>rfl
  |some m=>have:=h.num _ _ hz; omega
 have hnx:2<=t.next:=by
  obtain ⟨r,r1,_⟩:=h.root
  have:=(h.num _ _ r1).2; omega
 generalize hn':Node.mk t.next kind 1 [] [] (if (kind==2)=true then d else 0)=n'
 have i1:n'.ino=t.next:=by rw [<-hn']
 have i2:n'.kind=kind:=by rw [<-hn']
 have i3:n'.bw=1:=by rw [<-hn']
 have i4:n'.data=[]:=by rw [<-hn']
 have i5:n'.av=[]:=by rw [<-hn']
 have i6:n'.up=if (kind==2)=true then d else 0:=by rw [<-hn']
 have hff:∀i,find (bL t.nodes n') i=if i=t.next then some n' else find t.nodes i:=by
  intro i
  rw [dn h.ft.gA n' i,i1]
 have iM:∀j m,find t.nodes j=some m->find (bL t.nodes n') j=some m/\j≠t.next:=by
  intro j m hm
  have:=(h.num _ _ hm).2
  rw [hff,if_neg (by omega)]
  exact ⟨hm,by omega⟩
 have back:∀j m',find (bL t.nodes n') j=some m'->(j=t.next/\m'=n')\/(j≠t.next/\find t.nodes j=some m'):=by
  intro j m' hm
  rw [hff] at hm
  split at hm
  ·rename_i he; injection hm with hm; exact .inl ⟨he,hm.symm⟩
  ·rename_i he; exact .inr ⟨he,hm⟩
 have hcn:∀i,lu (bL t.nodes n') i=lu t.nodes i:=by
  intro i
  have:=mg h.ft.gA n' i
  simp only [aA,i1,dH,Option.getD_none,Node.zero,i5,qV] at this
  omega
 have hc0:lu t.nodes t.next=0:=by
  rcases Nat.eq_zero_or_pos (lu t.nodes t.next) with h0|h0
  ·exact h0
  ·obtain ⟨m,e,e1,e2,e3⟩:=mV.1 h0
   obtain ⟨_,_,_,_,k,k1,_⟩:=h.uf _ _ e ((dM h.ft.gA).2 ⟨e1,rfl⟩) e2
   rw [e3,dH] at k1; cases k1
 refine ⟨h.ft.with (n:=n') (by rw [i5]; exact List.Pairwise.nil) _ _,?_,?_,?_,?_,?_,?_,?_,?_,?_,?_,?_,?_,?_,?_,h.af⟩
 ·obtain ⟨r,r1,r2⟩:=h.root
  exact ⟨r,(iM _ _ r1).1,r2⟩
 ·intro i m hm
  simp only
  rcases back i m hm with ⟨rfl,rfl⟩|⟨_,hm⟩
  ·omega
  ·have:=h.num _ _ hm; omega
 ·intro i m hm
  rcases back i m hm with ⟨rfl,rfl⟩|⟨_,hm⟩
  ·rw [i2]; exact hk
  ·exact h.kind _ _ hm
 ·intro i m hm hk1
  rcases back i m hm with ⟨rfl,rfl⟩|⟨_,hm⟩
  ·rw [i2] at hk1
   exact ⟨i5,by rw [i6,hk1]; rfl,by rw [i4]; simp⟩
  ·exact h.file _ _ hm hk1
 ·intro i m hm hk1
  rcases back i m hm with ⟨rfl,rfl⟩|⟨_,hm⟩
  ·exact i4
  ·exact h.dir _ _ hm hk1
 ·intro i m e hm hem
  rcases back i m hm with ⟨rfl,rfl⟩|⟨_,hm⟩
  ·rw [i5] at hem; cases hem
  ·obtain ⟨a1,a2,a3,a4,q,a5,a6⟩:=h.uf _ _ e hm hem
   exact ⟨a1,a2,a3,a4,q,(iM _ _ a5).1,a6⟩
 ·intro i m hm
  rcases back i m hm with ⟨rfl,rfl⟩|⟨_,hm⟩
  ·rw [i5]; exact ⟨List.Pairwise.nil,by simp⟩
  ·exact h.po _ _ hm
 ·intro i m hm
  simp only [hcn]
  rcases back i m hm with ⟨rfl,rfl⟩|⟨hne,hm⟩
  ·rw [hc0,i3]; simp
  ·rw [if_neg hne]
   have:=h.bw _ _ hm
   rw [if_neg (by have:=(h.num _ _ hm).1; omega)] at this
   exact this
 ·intro i m hm hk1 hi1
  rcases back i m hm with ⟨rfl,rfl⟩|⟨_,hm⟩
  ·exact i3
  ·exact h.one _ _ hm hk1 hi1
 ·show (if (1:Int)=t.next then dep d+1 else dep 1)=0
  rw [if_neg (by omega)]; exact h.uV
 ·intro i m hm hk1 hi1
  show (if i=t.next then dep d+1 else dep i)=(if m.up=t.next then dep d+1 else dep m.up)+1/\_
  rcases back i m hm with ⟨rfl,rfl⟩|⟨hne,hm⟩
  ·rw [i2] at hk1
   have hu:m.up=d:=by rw [i6,hk1]; rfl
   rw [hu,if_pos rfl,if_neg (iM _ _ hp).2]
   exact ⟨rfl,p,(iM _ _ hp).1,hpk⟩
  ·obtain ⟨a,q,b,c⟩:=h.j7 _ _ hm hk1 hi1
   rw [if_neg hne,if_neg (iM _ _ b).2]
   exact ⟨a,q,(iM _ _ b).1,c⟩
 ·intro i m hm hk1
  show (if i=t.next then dep d+1 else dep i)<=12/\((if i=t.next then dep d+1 else dep i)=12->_)
  rcases back i m hm with ⟨rfl,rfl⟩|⟨hne,hm⟩
  ·rw [if_pos rfl]; exact ⟨by omega,fun _=>i5⟩
  ·rw [if_neg hne]; exact h.deep _ _ hm hk1
 ·have:=xW t.nodes n'
  simp only; omega
 ·simp only; omega
def cover:∀(k:Nat) (l:List Nat),(∀j,j<k->j∈l)->k<=l.length
 |0,_,_=>Nat.zero_le _
 |k+1,l,h=>by
  have hk:=h k (by omega)
  have:=cover k (l.erase k) (fun j hj=>(List.mem_erase_of_ne (by omega)).2 (h j (by omega)))
  rw [List.length_erase_of_mem hk] at this
  have:=List.length_pos_of_mem hk
  omega
def bm.ZN {t:Tree} {dep:Int->Nat} {x:Int} (h:bm t dep x):∀(m:Nat) (i:Int) (n:Node),find t.nodes i=some n->n.kind=2->dep i=m->∀k,k<=m->∃j p,find t.nodes j=some p/\dep j=k:=by
 intro m
 induction m with
 |zero=>intro i n hi _ hm k hk; exact ⟨i,n,hi,by omega⟩
 |succ m ih =>
  intro i n hi hk2 hm k hk
  rcases Nat.eq_or_lt_of_le hk with rfl|hlt
  ·exact ⟨i,n,hi,hm⟩
  ·have h1:i≠1:=fun hh=>by subst hh; have:=h.uV; omega
   obtain ⟨a,p,b,c⟩:=h.j7 _ _ hi hk2 h1
   exact ih _ p b c (by omega) k (by omega)
def bm.yj {t:Tree} {dep:Int->Nat} {x:Int} (h:bm t dep x) {i:Int} {n:Node} (hi:find t.nodes i=some n) (hk:n.kind=2):dep i<t.nodes.length:=by
 have:=cover (dep i+1) (t.nodes.map fun n=>dep n.ino) (fun j hj=>by
  obtain ⟨a,p,h1,h2⟩:=h.ZN _ _ _ hi hk rfl j (by omega)
  rw [List.mem_map]
  exact ⟨p,(aY h1).1,by rw [(aY h1).2,h2]⟩)
 rw [List.length_map] at this
 omega
def bm.B4 {t:Tree} {dep:Int->Nat} {x:Int} (h:bm t dep x):∀(m:Nat) (i:Int) (d:Nat) (n:Node),find t.nodes i=some n->n.kind=2->dep i<=m->qX t.nodes m i d=d+dep i:=by
 intro m
 induction m with
 |zero=>intro i d n _ _ hd; simp only [qX]; omega
 |succ m ih =>
  intro i d n hi hk hd
  simp only [qX]
  split
  ·rename_i h1; subst h1; have:=h.uV; omega
  ·rename_i h1
   obtain ⟨a,p,b,c⟩:=h.j7 _ _ hi hk h1
   have hu:F8 t.nodes i=n.up:=by simp [F8,hi]
   rw [hu,ih _ _ p b c (by omega)]
   omega
def bm.gU {t:Tree} {dep:Int->Nat} {x:Int} (h:bm t dep x) {i:Int} {n:Node} (hi:find t.nodes i=some n) (hk:n.kind=2):iv t.nodes i=dep i:=by
 have:=h.B4 201 i 0 n hi hk (by have:=(h.deep _ _ hi hk).1; omega)
 simp only [iv,this]; omega
def bm.pf {t:Tree} {dep:Int->Nat} {x:Int} (h:bm t dep x):∀(m:Nat) (i:Int) (out:List Int) (n:Node),find t.nodes i=some n->n.kind=2->dep i<=m->(k9 t.nodes m i out).length=out.length+dep i:=by
 intro m
 induction m with
 |zero=>intro i out n _ _ hd; simp only [k9]; omega
 |succ m ih =>
  intro i out n hi hk hd
  simp only [k9]
  by_cases h1:i=1
  ·subst h1; have:=h.uV; simp; omega
  ·obtain ⟨a,p,b,c⟩:=h.j7 _ _ hi hk h1
   simp only [bne_iff_ne,ne_eq,h1,not_false_eq_true,↓reduceIte,aA,hi,Option.isSome_some,Bool.not_true,Option.getD_some,hk,bne_self_eq_false,Bool.or_self,Bool.false_eq_true]
   rw [ih _ _ p b c (by omega)]
   simp only [List.length_append,List.length_cons,List.length_nil]
   omega
def bm.lf {t:Tree} {dep:Int->Nat} {x:Int} (h:bm t dep x) {i:Int} {n:Node} (hi:find t.nodes i=some n) (hk:n.kind=2):(ku t.nodes i).length=dep i+1:=by
 have:=h.pf t.nodes.length i [i] n hi hk (by have:=h.yj hi hk; omega)
 simp only [ku,this,List.length_cons,List.length_nil]; omega
def bm.L4 {t:Tree} {dep:Int->Nat} {x:Int} (_:bm t dep x) {i:Int} {n:Node} (hi:find t.nodes i=some n):F8 t.nodes i=n.up:=by simp [F8,hi]
def bm.uM {t:Tree} {dep:Int->Nat} {x:Int} (h:bm t dep x) (of:Int):∀(m:Nat) (i:Int) (n:Node),find t.nodes i=some n->n.kind=2->dep i<m->fy t.nodes of m i=fy t.nodes of (dep i+1) i:=by
 intro m
 induction m with
 |zero=>intro i n _ _ hd; omega
 |succ m ih =>
  intro i n hi hk hd
  by_cases h1:i=1
  ·subst h1; simp only [fy]; split<;>rfl
  ·obtain ⟨a,p,b,c⟩:=h.j7 _ _ hi hk h1
   simp only [fy,h1,↓reduceIte,h.L4 hi]
   rw [ih _ p b c (by omega),a]
def bm.ga {t:Tree} (i:Int):cH t.nodes i i=true:=by simp [cH,fy]
def bm.jt {t:Tree} {of:Int} (h1:of≠1):cH t.nodes 1 of=false:=by
 simp only [cH,fy]
 rw [if_neg (fun hh=>h1 hh.symm)]
 rfl
def bm.kH {t:Tree} {dep:Int->Nat} {x:Int} (h:bm t dep x) {of i:Int} {n:Node} (hi:find t.nodes i=some n) (hk:n.kind=2) (h1:i≠1) (ho:i≠of):cH t.nodes i of=cH t.nodes n.up of:=by
 obtain ⟨a,p,b,c⟩:=h.j7 _ _ hi hk h1
 have d1:=h.yj b c
 have d2:=h.yj hi hk
 simp only [cH]
 rw [h.uM of _ _ p b c (by omega)]
 rw [h.uM of _ _ n hi hk (by omega)]
 conv=>lhs; rw [fy]
 simp only [ho,h1,↓reduceIte,h.L4 hi]
 rw [a]
def bm.rT {t:Tree} {dep:Int->Nat} {x:Int} (h:bm t dep x) {of:Int}:∀(m:Nat) (i:Int) (n:Node),find t.nodes i=some n->n.kind=2->dep i=m->cH t.nodes i of=true->dep of<=dep i:=by
 intro m
 induction m with
 |zero =>
  intro i n hi hk hm hb
  by_cases h1:i=1
  ·by_cases h2:of=1
   ·subst h1; subst h2; exact Nat.le_refl _
   ·subst h1; rw [bm.jt h2] at hb; cases hb
  ·obtain ⟨a,_⟩:=h.j7 _ _ hi hk h1
   omega
 |succ m ih =>
  intro i n hi hk hm hb
  have h1:i≠1:=fun hh=>by subst hh; have:=h.uV; omega
  obtain ⟨a,p,b,c⟩:=h.j7 _ _ hi hk h1
  by_cases ho:i=of
  ·subst ho; exact Nat.le_refl _
  ·rw [h.kH hi hk h1 ho] at hb
   have:=ih _ p b c (by omega) hb
   omega
def AN {α:Type} [DecidableEq α]:∀(l k:List α),l.Nodup->(∀x,x∈l->x∈k)->l.length<=k.length
 | [],_,_,_=>Nat.zero_le _
 |a::l,k,h,hs=>by
  have ha:=hs a List.mem_cons_self
  obtain ⟨h1,h2⟩:=List.nodup_cons.1 h
  have:=AN l (k.erase a) h2 (fun x hx=>(List.mem_erase_of_ne (by rintro rfl; exact h1 hx)).2 (hs x (List.mem_cons_of_mem _ hx)))
  rw [List.length_erase_of_mem ha] at this
  have:=List.length_pos_of_mem ha
  simp only [List.length_cons]
  omega
def bm.few {t:Tree} {dep:Int->Nat} {x:Int} (h:bm t dep x) {i:Int} {n:Node} (hi:find t.nodes i=some n):n.av.length<=64:=(h.po _ _ hi).2
def GL (i:Int):∀(ns:List Node),(∀n,n∈ns->n.av.length<=64)->lu ns i<=64*ns.length
 | [],_=>Nat.zero_le _
 |n::ns,h=>by
  have h1:=GL i ns (fun m hm=>h m (List.mem_cons_of_mem _ hm))
  have h2:iR n.av i<=n.av.length:=List.countP_le_length
  have h3:=h n List.mem_cons_self
  rw [mf,List.length_cons]
  omega
def bm.GM {t:Tree} {dep:Int->Nat} {x:Int} (h:bm t dep x) (i:Int):lu t.nodes i<=12800:=by
 have:=GL i t.nodes (fun n hn=>h.few ((dM h.ft.gA).2 ⟨hn,rfl⟩))
 have:=h.nodes
 omega
def bm.nT {t:Tree} {dep:Int->Nat} {x:Int} (h:bm t dep x) {i:Int} {n:Node} (hi:find t.nodes i=some n) {e:b9} (he:e∈n.av):e.ino≠i:=by
 intro hh
 obtain ⟨_,_,h1,_,m,hm,hu⟩:=h.uf _ _ e hi he
 rw [hh,hi] at hm; injection hm with hm; subst hm
 have hk:n.kind=2:=by
  rcases h.kind _ _ hi with hk|hk
  ·rw [(h.file _ _ hi hk).1] at he; cases he
  ·exact hk
 have:=(h.j7 _ _ hi hk (by omega)).1
 rw [hu hk] at this
 omega
def zO {t:Tree} {ino:Int} {s:Bytes} (h:(iW t ino s != 0)=false):∃d,find t.nodes ino=some d/\d.kind=2/\cD s=true/\ck d.av s=none/\d.av.length<64/\iv t.nodes ino<12/\t.af<1099511627776:=by
 have h0:iW t ino s=0:=by simpa using h
 unfold iW at h0
 split at h0
 ·rename_i h1; exact absurd h0 h1
 ·rename_i h1
  obtain ⟨d,d1,d2,d3⟩:=pW (show (cP t.nodes ino).2=0 by omega)
  rw [d3] at h0
  split at h0
  ·cases h0
  ·rename_i h2
   split at h0
   ·cases h0
   ·rename_i h3
    split at h0
    ·cases h0
    ·rename_i h4
     simp only [Dv,(aY d1).2,Bool.or_eq_true,decide_eq_true_eq,not_or] at h4
     refine ⟨d,d1,d2,by simpa using h2,by simpa using h3,by omega,by omega,by omega⟩
def bm.cw {t:Tree} {dep:Int->Nat} {x:Int} (h:bm t dep x) (hn:t.next<1099511627776):fR (t.next+1)=t.next+1:=bD (by
 obtain ⟨r,r1,_⟩:=h.root
 have:=h.num _ _ r1; omega) (by omega)
def GA {t:Tree} {dep:Int->Nat} (h:bm t dep 0) (ino:Int) (s:Bytes) (kind:Int) (hs:cD s=true->Nm s):∃dep',bm (pN t ino s kind).1 dep' 0:=by
 unfold pN
 split
 ·exact ⟨dep,h⟩
 ·rename_i hk
  split
  ·exact ⟨dep,h⟩
  ·rename_i he
   split
   ·exact ⟨dep,h⟩
   ·rename_i hb
    obtain ⟨d,d1,d2,d3,d4,d5,d6,d7⟩:=zO (by simpa using he)
    simp only [Bool.or_eq_true,decide_eq_true_eq,not_or] at hb
    have hn:t.next<1099511627776:=by omega
    rw [h.gU d1 d2] at d6
    have hk':kind=1\/kind=2:=by
     simp only [Bool.and_eq_true,bne_iff_ne,ne_eq,not_and,Decidable.not_not] at hk
     by_cases h1:kind=1
     ·exact .inl h1
     ·exact .inr (hk h1)
    have hm:=h.made d1 d2 hk' d6 (by omega) hn
    rw [h.cw hn]
    have hlt:=(h.num _ _ d1).2
    have hne:ino≠t.next:=by omega
    refine ⟨_,hm.iX (d:=ino) (n:=d) (m:=⟨t.next,kind,1,[],[],if (kind==2)=true then ino else 0⟩) ?_ d2 d4 (by simpa using d5) (hs d3) ?_ ?_ ?_ ?_ d7⟩
    ·simp only; rw [dn h.ft.gA]; simp only [hne,↓reduceIte]; exact d1
    ·simp only; rw [dn h.ft.gA]; simp only [↓reduceIte]
    ·have:=(h.num _ _ d1).1; omega
    ·intro h2
     simp only at h2
     simp [h2]
    ·simp only [hne,↓reduceIte]; exact d6
def NQ {t:Tree} {dep:Int->Nat} (h:bm t dep 0) (ino to:Int) (s:Bytes) (hs:cD s=true->Nm s):bm (CD t ino to s).1 dep 0:=by
 unfold CD
 split
 ·exact h
 ·rename_i hf
  split
  ·exact h
  ·rename_i hk
   split
   ·exact h
   ·rename_i he
    obtain ⟨d,d1,d2,d3,d4,d5,d6,d7⟩:=zO (by simpa using he)
    rw [h.gU d1 d2] at d6
    cases hi:find t.nodes ino with
    |none=>simp [hi] at hf
    |some n =>
     simp only [aA,hi,Option.getD_some] at hk ⊢
     have hk1:n.kind=1:=by
      rcases h.kind _ _ hi with h1|h1
      ·exact h1
      ·simp [h1] at hk
     have hlk:=h.bw _ _ hi
     rw [if_neg (by have:=(h.num _ _ hi).1; omega)] at hlk
     have hcl:=h.GM ino
     have hw:fR (n.bw+1)=n.bw+1:=bD (by omega) (by omega)
     rw [hw]
     obtain ⟨f1,f2,f3⟩:=h.file _ _ hi hk1
     have hg:=h.GZ (n':={ n with bw:=n.bw+1 }) (x':=ino) hi hk1 (aY hi).2 hk1 rfl rfl f3 (fun i h0=>by
      simp only
      rw [if_neg (show i≠0 by omega)]
      split<;>omega)
     have hne:to≠ino:=fun hh=>by subst hh; rw [hi] at d1; injection d1 with d1; subst d1; omega
     refine hg.iX (d:=to) (n:=d) (m:={ n with bw:=n.bw+1 }) ?_ d2 d4 (by simpa using d5) (hs d3) ?_ ?_ ?_ d6 d7
     ·simp only; rw [dn h.ft.gA]; simp only [h.ino hi,hne,↓reduceIte]; exact d1
     ·simp only; rw [dn h.ft.gA]; simp only [h.ino hi,↓reduceIte]
     ·intro hh; subst hh
      obtain ⟨r,r1,r2,_⟩:=h.root
      rw [hi] at r1; injection r1 with r1; subst r1; omega
     ·intro h2; simp only at h2; omega
def bm.unnamed {t:Tree} {dep:Int->Nat} {k:Int} {n:Node} (h:bm t dep k) (hk:find t.nodes k=some n) (he:n.av=[]) (h1:k≠1):bm ⟨cT t.nodes k,t.next,t.af⟩ dep 0:=by
 unfold cT
 simp only [aA,hk,Option.getD_some]
 have hl:=h.bw _ _ hk
 simp only [↓reduceIte] at hl
 split
 ·rename_i h2
  have:=h.one _ _ hk (by simpa using h2) h1
  exact h.drop (.inl rfl) hk he h1 (by omega)
 ·rename_i h2
  have hk1:n.kind=1:=by
   rcases h.kind _ _ hk with h1|h1
   ·exact h1
   ·simp [h1] at h2
  have hcl:=h.GM k
  have hw:fR (n.bw-1)=n.bw-1:=bD (by omega) (by omega)
  rw [hw]
  obtain ⟨f1,f2,f3⟩:=h.file _ _ hk hk1
  exact h.GZ (n':={ n with bw:=n.bw-1 }) (x':=0) hk hk1 (aY hk).2 hk1 rfl rfl f3 (fun i h0=>by
   simp only
   rw [if_neg (show i≠0 by omega)]
   split<;>omega)
def bm.un {t:Tree} {dep:Int->Nat} (h:bm t dep 0) {d:Int} {n m:Node} {s:Bytes} {e:b9} (hd:find t.nodes d=some n) (he:ck n.av s=some e) (hm:find t.nodes e.ino=some m) (hm0:m.av=[]):bm ⟨cT (bu t.nodes d s) e.ino,t.next,t.af⟩ dep 0:=by
 have hem:=(dr he).1
 have hl:=h.left hd he
 refine hl.unnamed (n:=m) ?_ hm0 (h.uf _ _ e hd hem).2.2.1
 simp only
 rw [dY h.ft.gA hd,if_neg (h.nT hd hem)]
 exact hm
def O3 {t:Tree} {dep:Int->Nat} (h:bm t dep 0) (ino:Int) (s:Bytes):bm (C2 t ino s).1 dep 0:=by
 unfold C2
 split
 ·exact h
 ·rename_i hl
  obtain ⟨d,e,d1,d2,d3,d4,d5⟩:=look_ok (by simpa using hl)
  rw [d5]
  split
  ·exact h
  ·rename_i h0
   obtain ⟨_,_,_,_,m,hm,_⟩:=h.uf _ _ e d1 (dr d4).1
   simp only [aA,hm,Option.getD_some,decide_eq_true_eq] at h0
   exact h.un d1 d4 hm (List.length_eq_zero_iff.1 (by omega))
def Ls {t:Tree} {dep:Int->Nat} (h:bm t dep 0) (ino:Int) (data:Bytes):bm (nF t ino data).1 dep 0:=by
 unfold nF
 split
 ·exact h
 ·rename_i hf
  split
  ·exact h
  ·rename_i hk
   split
   ·exact h
   ·rename_i hd
    cases hi:find t.nodes ino with
    |none=>simp [hi] at hf
    |some n =>
     simp only [aA,hi,Option.getD_some] at hk ⊢
     have hk1:n.kind=1:=by
      rcases h.kind _ _ hi with h1|h1
      ·exact h1
      ·simp [h1] at hk
     simp only [decide_eq_true_eq] at hd
     exact h.GZ (n':={ n with data:=data }) (x':=0) hi hk1 (aY hi).2 hk1 rfl rfl (by simp only; omega) (fun i h0=>by
      simp only
      rw [if_neg (show i≠0 by omega)]
      split<;>omega)
def wU {t:Tree} {dep:Int->Nat} (h:bm t dep 0) (ino:Int):bm (ig t ino).1 dep 0:=by
 unfold ig
 split
 ·exact h
 ·rename_i hf
  split
  ·exact h
  ·rename_i hk
   split
   ·exact h
   ·rename_i hd
    cases hi:find t.nodes ino with
    |none=>simp [hi] at hf
    |some n =>
     simp only [aA,hi,Option.getD_some] at hk hd
     have hk1:n.kind=1:=by
      rcases h.kind _ _ hi with h1|h1
      ·exact h1
      ·simp [h1] at hk
     simp only [decide_eq_true_eq] at hd
     have hl:=h.bw _ _ hi
     rw [if_neg (by have:=(h.num _ _ hi).1; omega)] at hl
     refine h.drop (.inr rfl) hi (h.file _ _ hi hk1).1 ?_ (by omega)
     intro hh; subst hh
     obtain ⟨r,r1,r2,_⟩:=h.root
     rw [hi] at r1; injection r1 with r1; subst r1; omega
def Dc:∀ {a b:List Node},gw a->gw b->(∀m,m∈a↔m∈b)->a=b
 | [],[],_,_,_=>rfl
 | [],y::b,_,_,h=>by have:=(h y).2 List.mem_cons_self; cases this
 |x::a,[],_,_,h=>by have:=(h x).1 List.mem_cons_self; cases this
 |x::a,y::b,ha,hb,h=>by
  obtain ⟨a1,a2⟩:=List.pairwise_cons.1 ha
  obtain ⟨b1,b2⟩:=List.pairwise_cons.1 hb
  have hxy:x=y:=by
   rcases List.mem_cons.1 ((h x).1 List.mem_cons_self) with h1|h1
   ·exact h1
   ·rcases List.mem_cons.1 ((h y).2 List.mem_cons_self) with h2|h2
    ·exact h2.symm
    ·have:=b1 x h1; have:=a1 y h2; omega
  subst hxy
  rw [Dc a2 b2 (fun m=>?_)]
  constructor
  ·intro hm
   rcases List.mem_cons.1 ((h m).1 (List.mem_cons_of_mem _ hm)) with h1|h1
   ·subst h1; have:=a1 m hm; omega
   ·exact h1
  ·intro hm
   rcases List.mem_cons.1 ((h m).2 (List.mem_cons_of_mem _ hm)) with h1|h1
   ·subst h1; have:=b1 m hm; omega
   ·exact h1
def G5 {a b:List Node} (ha:gw a) (hb:gw b) (h:∀i,find a i=find b i):a=b :=
 Dc ha hb fun m=>by
  constructor
  ·intro hm
   have:=(dM ha).2 ⟨hm,rfl⟩
   rw [h] at this
   exact (aY this).1
  ·intro hm
   have:=(dM hb).2 ⟨hm,rfl⟩
   rw [<-h] at this
   exact (aY this).1
def rL {nodes:List Node} (h:gw nodes) (k:Int):gw (cT nodes k):=by
 unfold cT
 split
 ·exact kx h _
 ·exact gY h _
def jz {nodes:List Node} (h:gw nodes) (k:Int) (s:Bytes):gw (bu nodes k s):=gY h _
def DK (n:Node):Option Node:=if (n.kind==2)=true then none else some { n with bw:=fR (n.bw-1) }
def lP {nodes:List Node} (h:gw nodes) {k:Int} {n:Node} (hk:find nodes k=some n) (i:Int):find (cT nodes k) i=if i=k then DK n else find nodes i:=by
 unfold cT DK
 simp only [aA,hk,Option.getD_some]
 split
 ·rw [jE h]
 ·rw [dn h]
  simp only [(aY hk).2]
def B5 (l:List b9) (a b:Bytes):dR (dR l a) b=dR (dR l b) a:=by
 simp only [dR,List.filter_filter]
 congr 1
 funext e
 rw [Bool.and_comm]
def L3 {nodes:List Node} (h:gw nodes) {f to y:Int} {s nm:Bytes} {dF dT m:Node} (hF:find nodes f=some dF) (hT:find nodes to=some dT) (hy:find nodes y=some m) (h1:y≠f) (h2:y≠to) :
  cT (bu (bu nodes f s) to nm) y=bu (cT (bu nodes to nm) y) f s:=by
 have a1:=jz h f s
 have a2:=jz h to nm
 have a3:=jz a1 to nm
 have a4:=rL a2 y
 have f1:=dY h hF (s:=s)
 have f2:=dY h hT (s:=nm)
 have hy1:find (bu nodes to nm) y=some m:=by rw [f2,if_neg h2]; exact hy
 have f4:=lP a2 hy1
 obtain ⟨dT',hT'⟩:∃dT',find (bu nodes f s) to=some dT':=by rw [f1]; split<;>simp_all
 have f3:=dY a1 hT' (s:=nm)
 have hy3:find (bu (bu nodes f s) to nm) y=some m:=by rw [f3,if_neg h2,f1,if_neg h1]; exact hy
 have f5:=lP a3 hy3
 obtain ⟨dF',hF'⟩:∃dF',find (cT (bu nodes to nm) y) f=some dF':=by rw [f4,if_neg (fun hh=>h1 hh.symm),f2]; split<;>simp_all
 have f6:=dY a4 hF' (s:=s)
 refine G5 (rL a3 y) (jz a4 f s) (fun i=>?_)
 rw [f5,f6,f4,f3]
 rw [f1] at hT'
 rw [f4,if_neg (fun hh=>h1 hh.symm),f2] at hF'
 by_cases i1:i=y
 ·subst i1; simp [h1]
 ·simp only [i1,↓reduceIte]
  by_cases i2:i=to
  ·subst i2
   simp only [↓reduceIte]
   by_cases i3:i=f
   ·subst i3
    simp only [↓reduceIte] at hT' hF' ⊢
    injection hT' with hT'; injection hF' with hF'
    rw [<-hT',<-hF']
    rw [hF] at hT; injection hT with hT; subst hT
    simp only [B5]
   ·simp only [i3,↓reduceIte] at hT' ⊢
    rw [f2]; simp only [↓reduceIte]
    rw [hT] at hT'; injection hT' with hT'; rw [hT']
  ·simp only [i2,↓reduceIte]
   rw [f1,f2]
   by_cases i3:i=f
   ·subst i3
    simp only [↓reduceIte,i2] at hF' ⊢
    rw [hF] at hF'; injection hF' with hF'; rw [hF']
   ·simp only [i3,i2,↓reduceIte]
def zM {l:List b9} {s:Bytes} {e:b9} (h:ck l s=some e):(dR l s).length<l.length:=by
 obtain ⟨h1,h2⟩:=dr h
 refine Nat.lt_of_le_of_ne (List.length_filter_le _ _) fun hh=>?_
 have:=List.length_filter_eq_length_iff.1 hh e h1
 simp [h2] at this
def bm.PN {t:Tree} {dep dep':Int->Nat} {f to:Int} {s nm:Bytes} {dF dT m:Node} {e:b9} (h:bm t dep 0) (hF:find t.nodes f=some dF) (he:ck dF.av s=some e) (hT:find t.nodes to=some dT) (hTk:dT.kind=2) (hfree:ck dT.av nm=none) (hroom:to≠f->dT.av.length<64) (hnm:Nm nm)
  (hm:find t.nodes e.ino=some m) (hne:e.ino≠to) (hd12:dep' to<12) (hck:t.af<1099511627776)
  (hcase:(m.kind=1/\dep'=dep)\/(m.kind=2/\dep' 1=0/\(∀i n,find t.nodes i=some n->n.kind=2->i≠1->i≠e.ino->dep' i=dep' n.up+1)/\dep' e.ino=dep' to+1 /\
   ∀i n,find t.nodes i=some n->n.kind=2->dep' i<=12/\(dep' i=12->n.av=[]))):bm (ny t f s to nm e.ino 0) dep' 0:=by
 have hem:=(dr he).1
 have hnf:e.ino≠f:=h.nT hF hem
 have h1:e.ino≠1:=(h.uf _ _ e hF hem).2.2.1
 have hl:=h.left hF he
 have fl:=dY h.ft.gA hF (s:=s)
 have hmx:find (bu t.nodes f s) e.ino=some m:=by rw [fl,if_neg hnf]; exact hm
 obtain ⟨d1,g1,g2,g3,g4⟩:∃d1,find (bu t.nodes f s) to=some d1/\d1.kind=2/\ck d1.av nm=none/\d1.av.length<64:=by
  rw [fl]
  split
  ·rename_i hh
   subst hh
   rw [hF] at hT; injection hT with hT; subst hT
   exact ⟨_,rfl,hTk,mj hfree,Nat.lt_of_lt_of_le (zM he) (h.few hF)⟩
  ·rename_i hh
   exact ⟨dT,hT,hTk,hfree,hroom hh⟩
 have hnode:aA t.nodes e.ino=m:=by simp [aA,hm]
 unfold ny
 simp only [hnode,bne_self_eq_false,Bool.false_eq_true,↓reduceIte]
 rcases hcase with ⟨hk,rfl⟩|⟨hk,c1,c2,c3,c4⟩
 ·rw [if_neg (by simp [hk])]
  exact hl.iX g1 g2 g3 g4 hnm hmx h1 (fun h2=>by omega) hd12 hck
 ·rw [if_pos (by simp [hk])]
  have hs:=hl.ZC (dep':=dep') hmx hk h1 g1 g2 c1 (fun i n hi hk2 hi1 hie=>by
    simp only [fl] at hi
    split at hi
    ·rename_i hh; subst hh
     injection hi with hi; subst hi
     exact c2 i dF hF hk2 hi1 hie
    ·exact c2 _ _ hi hk2 hi1 hie) c3 (fun i n hi hk2=>by
    simp only [fl] at hi
    split at hi
    ·rename_i hh; subst hh
     injection hi with hi; subst hi
     obtain ⟨q1,q2⟩:=c4 i dF hF hk2
     exact ⟨q1,fun h12=>by simp [q2 h12,dR]⟩
    ·exact c4 _ _ hi hk2)
  have hmi:m.ino=e.ino:=(aY hm).2
  have fw:=dn (jz h.ft.gA f s) { m with up:=to }
  refine hs.iX (n:=d1) (m:={ m with up:=to }) ?_ g2 g3 g4 hnm ?_ h1 (fun _=>rfl) hd12 hck
  ·simp only
   rw [fw]
   rw [if_neg (show ¬to=m.ino from fun hh=>hne (by omega))]
   exact g1
  ·simp only
   rw [fw]
   simp only [hmi,↓reduceIte]
def lR (nodes:List Node) (at' d:Int) (n:Node):Int :=
 if decide ((0:Int)<n.av.length)=true then fR (fR (fR (at'+iv nodes n.ino)-d)+1) else fR (fR (at'+iv nodes n.ino)-d)
def Ak (nodes:List Node) (ino at' d:Int) (n:Node) (most:Int):most<=mo nodes ino at' d n most/\((n.kind==2&&cH nodes n.ino ino)=true->lR nodes at' d n<=mo nodes ino at' d n most):=by
 have e:mo nodes ino at' d n most=if (n.kind==2&&cH nodes n.ino ino)=true then (if lR nodes at' d n>most then lR nodes at' d n else most) else most:=rfl
 rw [e]
 split
 ·split
  ·exact ⟨by omega,fun _=>Int.le_refl _⟩
  ·exact ⟨Int.le_refl _,fun _=>by omega⟩
 ·rename_i h; exact ⟨Int.le_refl _,fun hh=>absurd hh h⟩
def sq (nodes:List Node) (ino at' d:Int):∀(l:List Node) (most:Int),most<=pZ nodes ino at' d l most/\∀n,n∈l->(n.kind==2&&cH nodes n.ino ino)=true->lR nodes at' d n<=pZ nodes ino at' d l most
 | [],most=>⟨Int.le_refl _,fun n hn=>by cases hn⟩
 |m::l,most=>by
  obtain ⟨h1,h2⟩:=sq nodes ino at' d l (mo nodes ino at' d m most)
  obtain ⟨h3,h4⟩:=Ak nodes ino at' d m most
  rw [pZ]
  refine ⟨by omega,fun n hn hb=>?_⟩
  rcases List.mem_cons.1 hn with rfl|hn
  ·have:=h4 hb; omega
  ·exact h2 n hn hb
def jd (nodes:List Node) (dep:Int->Nat) (x to:Int):Int->Nat:=fun i=>if cH nodes i x=true then dep i+(dep to+1)-dep x else dep i
def bm.wZ {t:Tree} {dep:Int->Nat} (h:bm t dep 0) {x to i:Int} {m n:Node} (hx:find t.nodes x=some m) (hk:m.kind=2) (hd:dep to<12) (hi:find t.nodes i=some n) (hk2:n.kind=2) (hb:cH t.nodes i x=true) :
  lR t.nodes (((dep to+1:Nat):Int)) (dep x) n=((jd t.nodes dep x to i+(if 0<n.av.length then 1 else 0):Nat):Int):=by
 have d1:=(h.deep _ _ hi hk2).1
 have d2:=(h.deep _ _ hx hk).1
 have d3:=h.rT _ i n hi hk2 rfl hb
 have hdn:iv t.nodes n.ino=dep i:=by rw [h.ino hi]; exact h.gU hi hk2
 have w1:fR ((((dep to+1:Nat):Int))+(dep i:Nat))=(((dep to+1:Nat):Int))+(dep i:Nat):=bD (by omega) (by omega)
 have w2:fR ((((dep to+1:Nat):Int))+(dep i:Nat)-(dep x:Nat))=(((dep to+1:Nat):Int))+(dep i:Nat)-(dep x:Nat):=bD (by omega) (by omega)
 have w3:fR ((((dep to+1:Nat):Int))+(dep i:Nat)-(dep x:Nat)+1)=(((dep to+1:Nat):Int))+(dep i:Nat)-(dep x:Nat)+1:=bD (by omega) (by omega)
 unfold lR jd
 rw [if_pos hb,hdn,w1,w2,w3]
 by_cases hl:0<n.av.length
 ·rw [if_pos (by simpa using hl),if_pos hl]; omega
 ·rw [if_neg (by simpa using hl),if_neg hl]; omega
def bm.TD {t:Tree} {dep:Int->Nat} (h:bm t dep 0) {x to:Int} {m dT:Node} (hx:find t.nodes x=some m) (hk:m.kind=2) (hx1:x≠1) (hT:find t.nodes to=some dT) (hTk:dT.kind=2) (hnb:cH t.nodes to x=false) (hd:dep to<12)
  (hh:w6 t.nodes x (((dep to+1:Nat):Int))<=12) :
  jd t.nodes dep x to 1=0/\(∀i n,find t.nodes i=some n->n.kind=2->i≠1->i≠x->jd t.nodes dep x to i=jd t.nodes dep x to n.up+1)/\jd t.nodes dep x to x=jd t.nodes dep x to to+1 /\
   (∀i n,find t.nodes i=some n->n.kind=2->jd t.nodes dep x to i<=12/\(jd t.nodes dep x to i=12->n.av=[]))/\jd t.nodes dep x to to=dep to:=by
 have hto:jd t.nodes dep x to to=dep to:=by unfold jd; rw [if_neg (by simp [hnb])]
 refine ⟨?_,?_,?_,?_,hto⟩
 ·unfold jd
  rw [if_neg (by simp [bm.jt hx1])]
  exact h.uV
 ·intro i n hi hk2 hi1 hix
  obtain ⟨a,p,b,c⟩:=h.j7 _ _ hi hk2 hi1
  have hb:=h.kH hi hk2 hi1 hix
  unfold jd
  rw [hb]
  split
  ·rename_i hb2
   have:=h.rT _ _ p b c rfl hb2
   omega
  ·exact a
 ·rw [hto]
  unfold jd
  rw [if_pos (bm.ga x)]
  omega
 ·intro i n hi hk2
  by_cases hb:cH t.nodes i x=true
  ·have h1:=(sq t.nodes x (((dep to+1:Nat):Int)) (iv t.nodes x) t.nodes 0).2 n (aY hi).1 (by rw [hk2,h.ino hi,hb]; rfl)
   rw [h.gU hx hk,h.wZ hx hk hd hi hk2 hb] at h1
   unfold w6 at hh
   rw [h.gU hx hk] at hh
   have h2:=Int.le_trans h1 hh
   split at h2
   ·rename_i hl
    exact ⟨by omega,fun h12=>by omega⟩
   ·rename_i hl
    exact ⟨by omega,fun _=>List.length_eq_zero_iff.1 (by omega)⟩
  ·have:jd t.nodes dep x to i=dep i:=by unfold jd; rw [if_neg hb]
   rw [this]
   exact h.deep _ _ hi hk2
def u9 {l:List b9} {s r:Bytes} (h:r≠s):ck (dR l s) r=ck l r:=by
 unfold ck dR
 rw [List.find?_filter]
 congr 1
 funext e
 by_cases he:e.name=r
 ·have hn:e.name≠s:=he▸h
  simp [he,h]
 ·simp [he]
structure Um (t:Tree) (dep:Int->Nat) (f:Int) (s:Bytes) (to:Int) (nm:Bytes) (dF dT m:Node) (e:b9):Prop where
 hF:find t.nodes f=some dF
 kF:dF.kind=2
 he:ck dF.av s=some e
 hT:find t.nodes to=some dT
 kT:dT.kind=2
 hn:cD nm=true
 hm:find t.nodes e.ino=some m
 ne:e.ino≠to
 nf:e.ino≠f
 loop:m.kind=2->cH t.nodes to e.ino=false
 deep:dep to<12
 high:m.kind=2->w6 t.nodes e.ino (((dep to+1:Nat):Int))<=12
 af:t.af<1099511627776
 room:ck dT.av nm=none->to≠f->dT.av.length<64
 aex:∀e2,ck dT.av nm=some e2->e2.ino≠e.ino/\∃y,find t.nodes e2.ino=some y/\y.av=[]/\(m.kind=2↔y.kind=2)/\e2.ino≠f/\e2.ino≠to
def bm.mv {t:Tree} {dep:Int->Nat} (h:bm t dep 0) {f:Int} {s:Bytes} {to:Int} {nm:Bytes} {dF dT m:Node} {e:b9} (hs:cD nm=true->Nm nm) (k:Um t dep f s to nm dF dT m e):∃dep',bm (ny t f s to nm e.ino (dN dT.av nm)) dep' 0:=by
 have hem:=(dr k.he).1
 have hx1:=(h.uf _ _ e k.hF hem).2.2.1
 have hcase:∃dep':Int->Nat,dep' to<12/\((m.kind=1/\dep'=dep)\/(m.kind=2/\dep' 1=0/\(∀i n,find t.nodes i=some n->n.kind=2->i≠1->i≠e.ino->dep' i=dep' n.up+1)/\dep' e.ino=dep' to+1 /\
   ∀i n,find t.nodes i=some n->n.kind=2->dep' i<=12/\(dep' i=12->n.av=[]))):=by
  rcases h.kind _ _ k.hm with hk|hk
  ·exact ⟨dep,k.deep,.inl ⟨hk,rfl⟩⟩
  ·obtain ⟨c1,c2,c3,c4,c5⟩:=h.TD k.hm hk hx1 k.hT k.kT (k.loop hk) k.deep (k.high hk)
   exact ⟨jd t.nodes dep e.ino to,by rw [c5]; exact k.deep,.inr ⟨hk,c1,c2,c3,c4⟩⟩
 obtain ⟨dep',hd12,hcase⟩:=hcase
 refine ⟨dep',?_⟩
 cases hfr:ck dT.av nm with
 |none =>
  have hu:dN dT.av nm=0:=by simp [dN,hfr]
  rw [hu]
  exact h.PN k.hF k.he k.hT k.kT hfr (k.room hfr) (hs k.hn) k.hm k.ne hd12 k.af hcase
 |some e2 =>
  have hu:dN dT.av nm=e2.ino:=by simp [dN,hfr]
  rw [hu]
  obtain ⟨q1,y,q2,q3,q4,q5,q6⟩:=k.aex e2 hfr
  have h1:=h.un k.hT hfr q2 q3
  have a2:=jz h.ft.gA to nm
  have f2:=dY h.ft.gA k.hT (s:=nm)
  have hy1:find (bu t.nodes to nm) e2.ino=some y:=by rw [f2,if_neg q6]; exact q2
  have f4:∀i,find (cT (bu t.nodes to nm) e2.ino) i=if i=e2.ino then DK y else if i=to then some { dT with av:=dR dT.av nm } else find t.nodes i:=by
   intro i
   rw [lP a2 hy1,f2]
  have hnn:aA (cT (bu t.nodes to nm) e2.ino) e.ino=aA t.nodes e.ino:=by
   simp only [aA]
   rw [f4,if_neg (fun hh=>q1 hh.symm),if_neg k.ne]
  have hy0:=(h.num _ _ q2).1
  have hmv:ny t f s to nm e.ino e2.ino=ny ⟨cT (bu t.nodes to nm) e2.ino,t.next,t.af⟩ f s to nm e.ino 0:=by
   unfold ny
   simp only [hnn]
   rw [L3 h.ft.gA k.hF k.hT q2 q5 q6]
   have e1:(e2.ino != 0)=true:=by simp; omega
   simp only [e1,bne_self_eq_false,Bool.false_eq_true,↓reduceIte]
  rw [hmv]
  have hsn:to=f->s≠nm:=fun hh hsn=>by
   subst hh; subst hsn
   have:=k.hF; rw [k.hT] at this; injection this with this; subst this
   have:=k.he; rw [hfr] at this; injection this with this; subst this
   exact q1 rfl
  obtain ⟨dF',g1,g2⟩:∃dF',find (cT (bu t.nodes to nm) e2.ino) f=some dF'/\ck dF'.av s=some e:=by
   rw [f4,if_neg (fun hh=>q5 hh.symm)]
   split
   ·rename_i hh
    refine ⟨_,rfl,?_⟩
    rw [u9 (hsn hh.symm)]
    subst hh
    have:=k.hF; rw [k.hT] at this; injection this with this; subst this
    exact k.he
   ·exact ⟨dF,k.hF,k.he⟩
  have back:∀i n,find (cT (bu t.nodes to nm) e2.ino) i=some n->n.kind=2->∃n0,find t.nodes i=some n0/\n0.kind=2/\n0.up=n.up/\(n0.av=[]->n.av=[]):=by
   intro i n hi hk
   rw [f4] at hi
   split at hi
   ·unfold DK at hi
    split at hi
    ·cases hi
    ·rename_i hh
     injection hi with hi; subst hi
     simp only at hk
     simp [hk] at hh
   ·split at hi
    ·rename_i hh; subst hh
     injection hi with hi; subst hi
     exact ⟨dT,k.hT,hk,rfl,fun h0=>by simp [h0,dR]⟩
    ·exact ⟨n,hi,hk,rfl,fun h0=>h0⟩
  refine h1.PN (dep':=dep') g1 g2 (dT:={ dT with av:=dR dT.av nm }) ?_ k.kT (tz _ _) (fun _=>Nat.lt_of_lt_of_le (zM hfr) (h.few k.hT)) (hs k.hn) (m:=m) ?_ k.ne hd12 k.af ?_
  ·simp only; rw [f4,if_neg (fun hh=>q6 hh.symm),if_pos rfl]
  ·simp only; rw [f4,if_neg (fun hh=>q1 hh.symm),if_neg k.ne]; exact k.hm
  ·rcases hcase with hc|⟨hk,c1,c2,c3,c4⟩
   ·exact .inl hc
   ·refine .inr ⟨hk,c1,?_,c3,?_⟩
    ·intro i n hi hk2 hi1 hie
     obtain ⟨n0,b1,b2,b3,_⟩:=back i n hi hk2
     rw [<-b3]; exact c2 i n0 b1 b2 hi1 hie
    ·intro i n hi hk2
     obtain ⟨n0,b1,b2,_,b4⟩:=back i n hi hk2
     exact ⟨(c4 i n0 b1 b2).1,fun h12=>b4 ((c4 i n0 b1 b2).2 h12)⟩
def bm.zero {t:Tree} {dep:Int->Nat} {x:Int} (h:bm t dep x):find t.nodes 0=none:=by
 cases hz:find t.nodes 0 with
 |none=>rfl
 |some m=>have:=h.num _ _ hz; omega
def Fx {t:Tree} {dep:Int->Nat} (h:bm t dep 0) (f:Int) (s:Bytes) (to:Int) (nm:Bytes) :
  ((xy t f s to nm).1=t/\(xy t f s to nm).2.1=0/\(xy t f s to nm).2.2≠0) \/
  (xy t f s to nm=(t,0,0)/\∃dF dT e e2,find t.nodes f=some dF/\dF.kind=2/\cD s=true/\ck dF.av s=some e/\bU t.nodes f s=(e.ino,0)/\find t.nodes to=some dT/\dT.kind=2/\cD nm=true/\ck dT.av nm=some e2/\e2.ino=e.ino) \/
  ∃dF dT m e,Um t dep f s to nm dF dT m e/\cD s=true/\bU t.nodes f s=(e.ino,0)/\xy t f s to nm=(ny t f s to nm e.ino (dN dT.av nm),dN dT.av nm,0):=by
 unfold xy
 split
 ·rename_i c1; exact .inl ⟨rfl,rfl,by simpa using c1⟩
 rename_i c1
 split
 ·rename_i c2; exact .inl ⟨rfl,rfl,by simpa using c2⟩
 rename_i c2
 split
 ·exact .inl ⟨rfl,rfl,by simp⟩
 rename_i c3
 obtain ⟨dF,e,e1,e2,e3,e4,e5⟩:=look_ok (by simpa using c1)
 obtain ⟨dT,g1,g2,g3⟩:=pW (show (cP t.nodes to).2=0 by simpa using c2)
 have hem:=(dr e4).1
 obtain ⟨_,_,x1,_,m,hm,hup⟩:=h.uf _ _ e e1 hem
 have hnode:aA t.nodes e.ino=m:=by simp [aA,hm]
 simp only [e5,g3,hnode]
 split
 ·rename_i c4
  right; left
  refine ⟨rfl,dF,dT,e,?_⟩
  have c4':dN dT.av nm=e.ino:=by simpa using c4
  cases hfr:ck dT.av nm with
  |none=>simp only [dN,hfr] at c4'; have:=(h.num _ _ hm).1; omega
  |some e2'=>simp only [dN,hfr] at c4'; exact ⟨e2',e1,e2,e3,e4,rfl,g1,g2,by simpa using c3,rfl,c4'⟩
 rename_i c4
 split
 ·exact .inl ⟨rfl,rfl,by simp⟩
 rename_i c5
 split
 ·rename_i c6; exact .inl ⟨rfl,rfl,by simpa using c6⟩
 rename_i c6
 split
 ·exact .inl ⟨rfl,rfl,by simp⟩
 rename_i c7
 right; right
 have hdt:=h.gU g1 g2
 simp only [manyN,hdt,Bool.or_eq_true,Bool.and_eq_true,beq_iff_eq,decide_eq_true_eq,not_or,not_and,bne_iff_ne] at c7
 obtain ⟨r1,r2,r3,r4⟩:=c7
 have hw:fR (((dep to:Nat):Int)+1)=((dep to+1:Nat):Int):=by
  have:=(h.deep _ _ g1 g2).1
  rw [show (((dep to:Nat):Int)+1)=((dep to+1:Nat):Int) by omega]
  exact bD (by omega) (by omega)
 rw [hw] at r3
 have hnf:=h.nT e1 hem
 have hne:e.ino≠to:=fun hh=>by
  rw [hh,g1] at hm; injection hm with hm; subst hm
  simp only [g2,beq_self_eq_true,Bool.true_and] at c5
  rw [hh,bm.ga] at c5
  exact c5 rfl
 refine ⟨dF,dT,m,e,⟨e1,e2,e4,g1,g2,by simpa using c3,hm,hne,hnf,?_,by omega,?_,by omega,?_,?_⟩,e3,rfl,rfl⟩
 ·intro hk
  simpa [hk] using c5
 ·intro hk
  have:=r3 hk; omega
 ·intro hfr hne
  have hu:dN dT.av nm=0:=by simp [dN,hfr]
  have:=r1 ⟨hu,hne⟩
  omega
 ·intro e2' hfr
  have hu:dN dT.av nm=e2'.ino:=by simp [dN,hfr]
  rw [hu] at c4 c6
  obtain ⟨_,_,_,_,y,hy,_⟩:=h.uf _ _ e2' g1 (dr hfr).1
  have hny:aA t.nodes e2'.ino=y:=by simp [aA,hy]
  have hto:=h.nT g1 (dr hfr).1
  simp only [pS,hy,Option.isSome_some,Bool.not_true,Bool.false_eq_true,↓reduceIte,hny,bne_iff_ne,ne_eq,Decidable.not_not] at c6
  split at c6
  ·cases c6
  ·rename_i k1
   split at c6
   ·cases c6
   ·rename_i k2
    split at c6
    ·cases c6
    ·rename_i k3
     have hy0:y.av=[]:=List.length_eq_zero_iff.1 (by simpa using k3)
     refine ⟨by simpa using c4,y,hy,hy0,?_,?_,hto⟩
     ·simp at k1 k2
      constructor
      ·exact k1
      ·intro hy2
       rcases h.kind _ _ hm with hk|hk
       ·exact absurd hy2 (k2 (by omega))
       ·exact hk
     ·intro hh
      rw [hh,e1] at hy; injection hy with hy; subst hy
      rw [hy0] at hem; cases hem
def Ot {t:Tree} {dep:Int->Nat} (h:bm t dep 0) (f:Int) (s:Bytes) (to:Int) (nm:Bytes) (hs:cD nm=true->Nm nm):∃dep',bm (xy t f s to nm).1 dep' 0:=by
 rcases Fx h f s to nm with ⟨h1,_⟩|⟨h1,_⟩|⟨dF,dT,m,e,k,_,_,hk⟩
 ·rw [h1]; exact ⟨dep,h⟩
 ·rw [h1]; exact ⟨dep,h⟩
 ·rw [hk]; exact h.mv hs k
def KS:bm wA (fun _=>0) 0:=by
 have hf:∀i n,find wA.nodes i=some n->i=1/\n=⟨1,2,0,[],[],1⟩:=by
  intro i n hi
  obtain ⟨h1,h2⟩:=aY hi
  simp [wA] at h1
  subst h1
  exact ⟨h2.symm,rfl⟩
 refine ⟨⟨?_,?_⟩,⟨_,rfl,rfl,rfl⟩,?_,?_,?_,?_,?_,?_,?_,?_,rfl,?_,?_,by simp [wA],by simp [wA],by simp [wA]⟩
 ·simp [wA,gw]
 ·intro n hn; simp [wA] at hn; subst hn; exact List.Pairwise.nil
 ·intro i n hi; obtain ⟨rfl,rfl⟩:=hf i n hi; simp [wA]
 ·intro i n hi; obtain ⟨rfl,rfl⟩:=hf i n hi; simp
 ·intro i n hi; obtain ⟨rfl,rfl⟩:=hf i n hi; simp
 ·intro i n hi; obtain ⟨rfl,rfl⟩:=hf i n hi; simp
 ·intro i n e hi he; obtain ⟨rfl,rfl⟩:=hf i n hi; cases he
 ·intro i n hi; obtain ⟨rfl,rfl⟩:=hf i n hi; exact ⟨List.Pairwise.nil,by simp⟩
 ·intro i n hi; obtain ⟨rfl,rfl⟩:=hf i n hi; simp [wA,lu,iR]
 ·intro i n hi _ h1; exact absurd (hf i n hi).1 h1
 ·intro i n hi _ h1; exact absurd (hf i n hi).1 h1
 ·intro i n hi; obtain ⟨rfl,rfl⟩:=hf i n hi; simp
section
attribute [local irreducible] cJ cE gD gK bG kr ai ak aV aF
def qQ:∀(d:Bytes),bytesOf (d.map jk)=some d
 | []=>rfl
 |b::d=>by
  rw [List.map_cons]
  show aF (bytesOf (d.map jk)) (fun l=>some (UInt8.ofNat ((b.toNat:Int)).toNat::l))=some (b::d)
  rw [qQ d,aE]
  simp
def c99 (a b:Bytes):ai aQ 99 [dg a,dg b] []=some (.bool (a==b),[]):=by
 refine aq ?_
 simp only [Rs,E99,qQ,EN,simprocAttr]
def k99 (a b:Bytes) (M:ag):ak (ai aQ) 99 [dg a,dg b] M=some (.bool (a==b),M):=cO (c99 a b) M
def aca (x y:b9):decide (x=y)=(x.name==y.name&&(x.ino==y.ino&&(x.af==y.af&&true))):=by
 cases x; cases y
 simp only [b9.mk.injEq,Bool.and_true]
 rw [Bool.eq_iff_iff]
 simp
def Wa (x y:b9):fm [.s,.i,.i] (cI x) (cI y)=some (decide (x=y)):=by
 rw [aca]
 simp only [cI,fm,fq,aE,↓reduceIte]
def Qo (x:b9):(cI x).all ae.c8=true:=rfl
def aaC (x:Node):(aw x).all ae.c8=true:=rfl
def NS {a b:List b9} (ha:a.length<=100000) {k:List K} {R:Bool->Option (ae×ag)}
  (hx:∀e,kr (ai aQ) [.tmp 4] 0 k ⟨.exit 0,e,[]⟩=R true) (hr:kr (ai aQ) [.tmp 4] 0 k ⟨.ret,[(4,.bool false)],[]⟩=R false) :
  ∀(l m pre pre':List b9),a=pre++l->b=pre'++m->pre.length=pre'.length->l.length=m.length->cJ (ai aQ) [.tmp 4] 0 k (.loop [0,1,12,13] Np) [(0,fa a),(1,fa b),(12,.int .i64 a.length),(13,.int .i64 pre.length)] []=R (decide (l=m)):=by
 intro l
 induction l with
 |nil =>
  intro m pre pre' h h' hp hl
  have hm:m=[]:=List.length_eq_zero_iff.1 hl.symm
  subst hm
  rw [aB]
  simp only [xZ,c9 h,EN,simprocAttr]
  exact hx _
 |cons n r ih =>
  intro m pre pre' h h' hp hl
  cases m with
  |nil=>cases hl
  |cons n' m =>
  rw [aB]
  have hlen:pre.length+1<=100000:=by rw [h] at ha; simp at ha; omega
  have hw:IntKind.i64.wrap ((pre.length:Int)+1)=((pre++[n]).length:Int):=by rw [bD (by omega) (by omega)]; exact bK
  have hi:=ih m (pre++[n]) (pre'++[n']) (by rw [h]; simp) (by rw [h']; simp) (by simp [hp]) (by simpa using hl)
  have ha2:b[pre.length]?=some n':=by rw [hp]; exact cn h'
  have hdc:decide (n::r=n'::m)=(decide (n=n')&&decide (r=m)):=by
   rw [Bool.eq_iff_iff]; simp
  rw [hdc]
  simp only [List.length_append,List.length_cons,List.length_nil] at hi
  simp only [xZ,cC h,cn h,ha2,TS,TK,Wa,Qo,EN,simprocAttr]
  refine aC (fun hb=>?_) (fun hb=>?_)
  ·have hb':decide (n=n')=false:=by simpa using hb
   simp only [xZ,hb',Bool.false_and,EN,simprocAttr]
   exact hr
  ·have hb':decide (n=n')=true:=by simpa using hb
   simp only [xZ,hb',Bool.true_and,hw,EN,simprocAttr]
   exact hi
def Vx (a b:List b9) (ha:a.length<=100000):ai aQ 100 [fa a,fa b] []=some (.bool (decide (a=b)),[]):=by
 refine aq ?_
 simp only [G7,xZ,EN,simprocAttr]
 refine aC (fun hb=>?_) (fun hb=>?_)
 ·have:decide (a=b)=false:=by
   simp at hb ⊢
   rintro rfl; exact hb rfl
  simp only [xZ,this,EN,simprocAttr]
 ·simp only [xZ,EN,simprocAttr]
  exact NS (R:=fun z=>some (.bool z,[])) ha (fun e=>by simp only [xZ,EN,simprocAttr]) (by simp only [xZ,EN,simprocAttr]) a b [] [] rfl rfl rfl (by simp at hb; omega)
def acs (a b:List b9) (ha:a.length<=100000) (M:ag):ak (ai aQ) 100 [fa a,fa b] M=some (.bool (decide (a=b)),M):=cO (Vx a b ha) M
def Xy (x y:Node):decide (x=y)=(x.ino==y.ino&&(x.kind==y.kind&&(x.bw==y.bw&&(x.up==y.up&&(x.data==y.data&&decide (x.av=y.av)))))):=by
 cases x; cases y
 simp only [Node.mk.injEq]
 rw [Bool.eq_iff_iff]
 simp only [decide_eq_true_eq,Bool.and_eq_true,beq_iff_eq]
 constructor
 ·rintro ⟨h1,h2,h3,h4,h5,h6⟩; exact ⟨h1,h2,h3,h6,h4,h5⟩
 ·rintro ⟨h1,h2,h3,h6,h4,h5⟩; exact ⟨h1,h2,h3,h4,h5,h6⟩
def c98 (x y:Node) (hx:x.av.length<=100000):ai aQ 98 [aX x,aX y] []=some (.bool (decide (x=y)),[]):=by
 rw [Xy]
 refine aq ?_
 simp only [Rr,E98,aX,aw,EN,simprocAttr]
 repeat' ((first|refine aC (fun hb=>?_) (fun hb=>?_)|refine bc (fun hb=>?_) (fun hb=>?_)|refine bZ (fun hb=>?_) (fun hb=>?_))<;>simp only [hb,EN,E98,k99,acs,hx,simprocAttr])
 all_goals simp_all only [jZ,↓reduceIte,reduceCtorEq,bne_self_eq_false]
def k98 (x y:Node) (hx:x.av.length<=100000) (M:ag):ak (ai aQ) 98 [.agg (aw x),.agg (aw y)] M=some (.bool (decide (x=y)),M):=cO (c98 x y hx) M
def NT {a b:List Node} (ha:a.length<=100000) (he:∀n,n∈a->n.av.length<=100000) {k:List K} {R:Bool->Option (ae×ag)}
  (hx:∀e,kr (ai aQ) [.tmp 6] 0 k ⟨.exit 0,e,[]⟩=R true) (hr:∀M,kr (ai aQ) [.tmp 6] 0 k ⟨.ret,[(6,.bool false)],M⟩=R false) :
  ∀(l m pre pre':List Node),a=pre++l->b=pre'++m->pre.length=pre'.length->l.length=m.length->cJ (ai aQ) [.tmp 6] 0 k (.loop [1,2,15,16,17] Nq) [(1,az b),(2,.func 98 []),(15,az a),(16,.int .i64 a.length),(17,.int .i64 pre.length)] []=R (decide (l=m)):=by
 intro l
 induction l with
 |nil =>
  intro m pre pre' h h' hp hl
  have hm:m=[]:=List.length_eq_zero_iff.1 hl.symm
  subst hm
  rw [aB]
  simp only [x4,c9 h,EN,simprocAttr]
  exact hx _
 |cons n r ih =>
  intro m pre pre' h h' hp hl
  cases m with
  |nil=>cases hl
  |cons n' m =>
  rw [aB]
  have hlen:pre.length+1<=100000:=by rw [h] at ha; simp at ha; omega
  have hw:IntKind.i64.wrap ((pre.length:Int)+1)=((pre++[n]).length:Int):=by rw [bD (by omega) (by omega)]; exact bK
  have hi:=ih m (pre++[n]) (pre'++[n']) (by rw [h]; simp) (by rw [h']; simp) (by simp [hp]) (by simpa using hl)
  have ha2:b[pre.length]?=some n':=by rw [hp]; exact cn h'
  have hen:=he n (by rw [h]; simp)
  have hdc:decide (n::r=n'::m)=(decide (n=n')&&decide (r=m)):=by
   rw [Bool.eq_iff_iff]; simp
  have hfl:List.flatMap ae.fz (aw n)=[]:=rfl
  have hfl':List.flatMap ae.fz (aw n')=[]:=rfl
  rw [hdc]
  simp only [List.length_append,List.length_cons,List.length_nil] at hi
  simp only [x4,cC h,cn h,ha2,ZK,ZD,aaC,k98,hen,hfl,hfl',EN,simprocAttr]
  refine aC (fun hb=>?_) (fun hb=>?_)
  ·have hb':decide (n=n')=false:=by simpa using hb
   simp only [x4,hb',Bool.false_and,EN,simprocAttr]
   exact hr _
  ·have hb':decide (n=n')=true:=by simpa using hb
   simp only [x4,hb',Bool.true_and,hw,EN,simprocAttr]
   exact hi
def aaO (a b:List Node) (ha:a.length<=100000) (he:∀n,n∈a->n.av.length<=100000):ai aQ 101 [az a,az b,.func 98 []] []=some (.bool (decide (a=b)),[]):=by
 refine aq ?_
 simp only [G8,x4,EN,simprocAttr]
 refine aC (fun hb=>?_) (fun hb=>?_)
 ·have:decide (a=b)=false:=by
   simp at hb ⊢
   rintro rfl; exact hb rfl
  simp only [x4,this,EN,simprocAttr]
 ·simp only [x4,EN,simprocAttr]
  exact NT (R:=fun z=>some (.bool z,[])) ha he (fun e=>by simp only [x4,EN,simprocAttr]) (fun M=>by simp only [x4,EN,simprocAttr]) a b [] [] rfl rfl rfl (by simp at hb; omega)
def acu (a b:List Node) (ha:a.length<=100000) (he:∀n,n∈a->n.av.length<=100000) (M:ag):ak (ai aQ) 101 [az a,az b,.func 98 []] M=some (.bool (decide (a=b)),M):=cO (aaO a b ha he) M
def ZM (x y:Tree):decide (x=y)=(x.next==y.next&&(x.af==y.af&&decide (x.nodes=y.nodes))):=by
 cases x; cases y
 simp only [Tree.mk.injEq]
 rw [Bool.eq_iff_iff]
 simp only [decide_eq_true_eq,Bool.and_eq_true,beq_iff_eq]
 constructor
 ·rintro ⟨h1,h2,h3⟩; exact ⟨h2,h3,h1⟩
 ·rintro ⟨h2,h3,h1⟩; exact ⟨h1,h2,h3⟩
def c41 (a b:Tree) (ha:Small a):ai aQ 41 [bj a,bj b] []=some (.bool (decide (a=b)),[]):=by
 rw [ZM]
 have h1:=ha.nodes
 have h2:=ha.av
 refine aq ?_
 simp only [Re,E41,bj,ar,EN,simprocAttr]
 repeat' ((first|refine aC (fun hb=>?_) (fun hb=>?_)|refine bc (fun hb=>?_) (fun hb=>?_)|refine bZ (fun hb=>?_) (fun hb=>?_))<;>simp only [hb,EN,E41,acu _ _ h1 h2,simprocAttr])
 all_goals simp_all only [jZ,↓reduceIte,reduceCtorEq,bne_self_eq_false]
def bm.dH {t:Tree} {dep:Int->Nat} {x:Int} (h:bm t dep x):∀m,m∈t.nodes->m.ino<t.next:=fun m hm=>(h.num _ _ ((dM h.ft.gA).2 ⟨hm,rfl⟩)).2
end
def bm.wa {t:Tree} {dep:Int->Nat} {x:Int} (h:bm t dep x) {i:Int} {n:Node} (hi:find t.nodes i=some n) (hk:n.kind=2):jJ t.nodes i=dep i:=by
 simp only [jJ,h.lf hi hk]; omega
def bm.F9 {t:Tree} {dep:Int->Nat} {x:Int} (h:bm t dep x) (of:Int):∀(m:Nat) (i:Int) (out:List Int) (n:Node),find t.nodes i=some n->n.kind=2->dep i<=m->out.contains i=true->(k9 t.nodes m i out).contains of=(out.contains of||fy t.nodes of (m+1) i):=by
 intro m
 induction m with
 |zero =>
  intro i out n hi hk hd ho
  simp only [k9,fy]
  by_cases h1:i=of
  ·subst h1; rw [ho]; rfl
  ·simp [h1]
 |succ m ih =>
  intro i out n hi hk hd ho
  simp only [k9]
  rw [fy]
  by_cases h1:i=1
  ·by_cases h2:i=of
   ·subst h2; simp [h1] at ho ⊢; exact ho
   ·simp [h1,h2]
    intro h3; exact absurd (h1.trans h3) h2
  ·obtain ⟨a,p,b,c⟩:=h.j7 _ _ hi hk h1
   simp only [bne_iff_ne,ne_eq,h1,not_false_eq_true,↓reduceIte,aA,hi,Option.isSome_some,Bool.not_true,Option.getD_some,hk,bne_self_eq_false,Bool.or_self,Bool.false_eq_true]
   rw [ih _ _ p b c (by omega) (by simp),h.L4 hi]
   by_cases h2:i=of
   ·subst h2
    have:(out++[n.up]).contains i=true:=by simp at ho ⊢; exact .inl ho
    rw [this,ho]; simp
   ·rw [if_neg h2]
    by_cases h3:n.up=of
    ·have:fy t.nodes of (m+1) n.up=true:=by simp [fy,h3]
     rw [this]; simp
    ·have:(out++[n.up]).contains of=out.contains of:=by
      simp
      intro hh; exact absurd hh.symm h3
     rw [this]
def bm.pH {t:Tree} {dep:Int->Nat} {x:Int} (h:bm t dep x) (of:Int) {i:Int} {n:Node} (hi:find t.nodes i=some n) (hk:n.kind=2):(ku t.nodes i).contains of=cH t.nodes i of:=by
 have:=h.F9 of t.nodes.length i [i] n hi hk (by have:=h.yj hi hk; omega) (by simp)
 simp only [ku,this,cH]
 by_cases h2:i=of
 ·subst h2; simp [fy]
 ·have:([i]:List Int).contains of=false:=by simp; exact fun hh=>h2 hh.symm
  rw [this]; rfl
def bm.under {t:Tree} {dep:Int->Nat} (h:bm t dep 0) {to:Int} {nm:Bytes} {dT:Node} (hT:find t.nodes to=some dT):(eS t.nodes dT.av nm).ino=dN dT.av nm:=by
 unfold eS dN
 cases he:ck dT.av nm with
 |none=>rfl
 |some e =>
  obtain ⟨_,_,_,_,m,hm,_⟩:=h.uf _ _ e hT (dr he).1
  simp [aA,hm,(aY hm).2]
def KO {t:Tree} {dep:Int->Nat} (h:bm t dep 0) (dir:Int) (s:Bytes):gj t dir s=iW t dir s:=by
 unfold gj iW
 by_cases h0:(cP t.nodes dir).2=0
 ·obtain ⟨d,d1,d2,d3⟩:=pW h0
  have hf:Dv t d=(decide ((64:Int)<=d.av.length)||(decide ((12:Int)<=jJ t.nodes dir)||decide ((1099511627776:Int)<=t.af))):=by
   unfold Dv
   rw [(aY d1).2,h.gU d1 d2,h.wa d1 d2]
  simp only [d3,hf,bne_self_eq_false,Bool.false_eq_true,↓reduceIte,ne_eq,not_true_eq_false]
  cases cD s<;>simp
 ·rw [if_pos (by simpa using h0),if_pos h0]
def Mr {t:Tree} {dep:Int->Nat} (h:bm t dep 0) (dir:Int) (s:Bytes) (kind:Int):BB t dir s kind=pN t dir s kind:=by
 unfold BB pN
 rw [KO h]
def SH {t:Tree} {dep:Int->Nat} (h:bm t dep 0) (ino dir:Int) (s:Bytes):T5 t ino dir s=CD t ino dir s:=by
 unfold T5 CD
 rw [KO h]
def ua {nodes:List Node} {x:Int} {m:Node} (hx:find nodes x=some m):dW nodes m=cT nodes x:=by
 unfold dW cT
 simp only [aA,hx,Option.getD_some,(aY hx).2]
def TW {t:Tree} {dep:Int->Nat} (h:bm t dep 0) (dir:Int) (s:Bytes):P9 t dir s=C2 t dir s:=by
 unfold P9 C2
 split
 ·rfl
 ·rename_i hl
  obtain ⟨d,e,d1,d2,d3,d4,d5⟩:=look_ok (by simpa using hl)
  simp only [d5]
  obtain ⟨_,_,_,_,m,hm,_⟩:=h.uf _ _ e d1 (dr d4).1
  have hm':find (bu t.nodes dir s) e.ino=some m:=by
   rw [dY h.ft.gA d1,if_neg (h.nT d1 (dr d4).1)]; exact hm
  have hn:aA t.nodes e.ino=m:=by simp [aA,hm]
  rw [hn,ua hm']
def w5 (nodes:List Node) (ino at' d:Int) (b:Int):∀(l:List Node) (most:Int),b<pZ nodes ino at' d l most->b<most\/∃n,n∈l/\(n.kind==2&&cH nodes n.ino ino)=true/\b<lR nodes at' d n
 | [],most,h => .inl h
 |m::l,most,h=>by
  rw [pZ] at h
  rcases w5 nodes ino at' d b l _ h with h1|⟨n,h1,h2,h3⟩
  ·have e:mo nodes ino at' d m most=if (m.kind==2&&cH nodes m.ino ino)=true then (if lR nodes at' d m>most then lR nodes at' d m else most) else most:=rfl
   rw [e] at h1
   split at h1
   ·rename_i hb
    split at h1
    ·exact .inr ⟨m,List.mem_cons_self,hb,h1⟩
    ·exact .inl h1
   ·exact .inl h1
  ·exact .inr ⟨n,List.mem_cons_of_mem _ h1,h2,h3⟩
def bm.MJ {t:Tree} {dep:Int->Nat} (h:bm t dep 0) {x to:Int} {m:Node} (hx:find t.nodes x=some m) (hk:m.kind=2) (hd:dep to<12) :
  wM t.nodes x (((dep to+1:Nat):Int))=decide ((12:Int)<w6 t.nodes x (((dep to+1:Nat):Int))):=by
 have key:∀n,n∈t.nodes->kK t.nodes (((dep to+1:Nat):Int)) ((dep x:Nat):Int) x n=((n.kind==2&&cH t.nodes n.ino x)&&decide ((12:Int)<lR t.nodes (((dep to+1:Nat):Int)) ((dep x:Nat):Int) n)):=by
  intro n hn
  have hi:find t.nodes n.ino=some n:=(dM h.ft.gA).2 ⟨hn,rfl⟩
  unfold kK
  by_cases hk2:n.kind=2
  ·rw [h.pH x hi hk2,h.lf hi hk2]
   by_cases hb:cH t.nodes n.ino x=true
   ·rw [h.wZ hx hk hd hi hk2 hb]
    have d1:=(h.deep _ _ hi hk2).1
    have d2:=(h.deep _ _ hx hk).1
    have d3:=h.rT _ _ n hi hk2 rfl hb
    have w1:fR ((((dep to+1:Nat):Int))+((dep n.ino+1:Nat):Int))=(((dep to+1:Nat):Int))+((dep n.ino+1:Nat):Int):=bD (by omega) (by omega)
    have w2:fR ((((dep to+1:Nat):Int))+((dep n.ino+1:Nat):Int)-1)=(((dep to+1:Nat):Int))+((dep n.ino+1:Nat):Int)-1:=bD (by omega) (by omega)
    have w3:fR ((((dep to+1:Nat):Int))+((dep n.ino+1:Nat):Int)-1-(dep x:Nat))=(((dep to+1:Nat):Int))+((dep n.ino+1:Nat):Int)-1-(dep x:Nat):=bD (by omega) (by omega)
    rw [w1,w2,w3]
    unfold jd
    rw [if_pos hb,hb]
    simp only [hk2,beq_self_eq_true,Bool.true_and]
    rw [Bool.eq_iff_iff]
    simp only [Bool.or_eq_true,Bool.and_eq_true,decide_eq_true_eq,beq_iff_eq]
    split<;>omega
   ·have:cH t.nodes n.ino x=false:=by simpa using hb
    simp [this]
  ·have:(n.kind==2)=false:=by simpa using hk2
   simp [this]
 have hdx:(jJ t.nodes x:Int)=((dep x:Nat):Int):=by rw [h.wa hx hk]
 unfold wM w6
 rw [h.gU hx hk,hdx]
 rw [Bool.eq_iff_iff]
 simp only [List.any_eq_true,decide_eq_true_eq]
 constructor
 ·rintro ⟨n,hn,hp⟩
  rw [key n hn] at hp
  simp only [Bool.and_eq_true,decide_eq_true_eq] at hp
  have:=(sq t.nodes x (((dep to+1:Nat):Int)) ((dep x:Nat):Int) t.nodes 0).2 n hn (by simp [hp.1.1,hp.1.2])
  omega
 ·intro hh
  rcases w5 t.nodes x _ _ 12 t.nodes 0 hh with h1|⟨n,h1,h2,h3⟩
  ·omega
  ·exact ⟨n,h1,by rw [key n h1,h2]; simpa using h3⟩
def SP {t:Tree} {dep:Int->Nat} (h:bm t dep 0) (f:Int) (s:Bytes) (to:Int) (nm:Bytes):DQ t f s to nm=xy t f s to nm:=by
 unfold DQ xy
 split
 ·rfl
 rename_i c1
 split
 ·rfl
 rename_i c2
 split
 ·rfl
 obtain ⟨dF,e,e1,e2,e3,e4,e5⟩:=look_ok (by simpa using c1)
 obtain ⟨dT,g1,g2,g3⟩:=pW (show (cP t.nodes to).2=0 by simpa using c2)
 have hem:=(dr e4).1
 obtain ⟨_,_,x1,_,m,hm,hup⟩:=h.uf _ _ e e1 hem
 have hnode:aA t.nodes e.ino=m:=by simp [aA,hm]
 simp only [e5,g3,hnode,h.under g1,h.pH e.ino g1 g2]
 split
 ·rfl
 rename_i c4
 split
 ·rfl
 rename_i c5
 have hup':dN dT.av nm≠e.ino:=by simpa using c4
 have hnf:=h.nT e1 hem
 have hne:e.ino≠to:=fun hh=>by
  rw [hh,g1] at hm; injection hm with hm; subst hm
  simp only [g2,beq_self_eq_true,Bool.true_and] at c5
  rw [hh,bm.ga] at c5
  exact c5 rfl
 have hmany:∀there:Bool,(dN dT.av nm==0) = !there->vv t f to dT.av there m.kind e.ino=manyN t f to dT.av m.kind (dN dT.av nm) e.ino:=by
  intro there hth
  unfold vv manyN
  rw [hth,h.lf g1 g2,h.gU g1 g2]
  by_cases hd:dep to<12
  ·have hw:fR (((dep to:Nat):Int)+1)=((dep to+1:Nat):Int):=by
    rw [show (((dep to:Nat):Int)+1)=((dep to+1:Nat):Int) by omega]
    exact bD (by omega) (by omega)
   rw [hw]
   have hdd:decide ((12:Int)<((dep to+1:Nat):Int))=decide ((12:Int)<=((dep to:Nat):Int)):=by
    rw [decide_eq_decide]; omega
   rw [hdd]
   rcases h.kind _ _ hm with hk|hk
   ·simp [hk]
   ·rw [h.MJ hm hk hd]
  ·have h1:decide ((12:Int)<((dep to+1:Nat):Int))=true:=by rw [decide_eq_true_eq]; omega
   have h2:decide ((12:Int)<=((dep to:Nat):Int))=true:=by rw [decide_eq_true_eq]; omega
   rw [h1,h2]; simp
 cases hfr:ck dT.av nm with
 |none =>
  have hu:dN dT.av nm=0:=by simp [dN,hfr]
  have hm1:=hmany false (by rw [hu]; rfl)
  rw [hu] at hm1 ⊢
  have hcl:pS t.nodes m.kind 0=0:=by simp [pS,h.zero]
  simp only [Option.isSome_none,Bool.false_and,Bool.false_eq_true,↓reduceIte,hcl,bne_self_eq_false,hm1]
  split
  ·rfl
  ·unfold pD ny
   simp only [hnode,Bool.false_eq_true,↓reduceIte,bne_self_eq_false]
 |some e2 =>
  have hu:dN dT.av nm=e2.ino:=by simp [dN,hfr]
  obtain ⟨_,_,_,_,y,hy,_⟩:=h.uf _ _ e2 g1 (dr hfr).1
  have hny:aA t.nodes e2.ino=y:=by simp [aA,hy]
  have hto:=h.nT g1 (dr hfr).1
  have hy0:=(h.num _ _ hy).1
  have hm1:=hmany true (by rw [hu]; simp; omega)
  have hnu:eS t.nodes dT.av nm=y:=by simp [eS,hfr,hny]
  rw [hu] at hm1 ⊢
  have hcl:pS t.nodes m.kind e2.ino=rq m y:=by
   unfold pS rq
   simp only [hy,Option.isSome_some,Bool.not_true,Bool.false_eq_true,↓reduceIte,hny]
  rw [hnu,hcl]
  simp only [Option.isSome_some,Bool.true_and,hm1]
  split
  ·rfl
  rename_i c6
  split
  ·rfl
  have hy00:y.av=[]:=by
   have:rq m y=0:=by simpa using c6
   unfold rq at this
   split at this
   ·cases this
   split at this
   ·cases this
   split at this
   ·cases this
   ·rename_i k3; exact List.length_eq_zero_iff.1 (by simpa using k3)
  have hnf2:e2.ino≠f:=fun hh=>by
   rw [hh,e1] at hy; injection hy with hy; subst hy
   rw [hy00] at hem; cases hem
  have hyl:find (bu (bu t.nodes f s) to nm) e2.ino=some y:=by
   have f1:=dY h.ft.gA e1 (s:=s)
   obtain ⟨dT',hT'⟩:∃dT',find (bu t.nodes f s) to=some dT':=by rw [f1]; split<;>simp_all
   rw [dY (jz h.ft.gA f s) hT',if_neg hto,f1,if_neg hnf2]
   exact hy
  have hb:(e2.ino != 0)=true:=by simp; omega
  unfold pD ny
  simp only [hnode,↓reduceIte,hb,ua hyl]
def MG {C:bt} {f p:Nat} {x:b9} {r:ae} {M:ag} {z:Int} (hM:nth M p=some (.cells [.int .i64 z])) (h:C f [.agg (cI x),.ptr 0 0] [.cells [.int .i64 z]]=some (r,[.cells [.int .i64 z]])) (h3:r.pB=true) (h5:r.ui (pn [p])=r) :
  ak C f [.agg (cI x),.ptr p 0] M=some (r,M):=by
 have hids:[ae.agg (cI x),.ptr p 0].flatMap ae.ids=[p]:=rfl
 have hi:iE M [p]=[]:=by simp [iE,hM,aK.ids,ae.fz,ae.cm]
 have e0:ep M [p]=[p]:=by simp [ep,hi,dU]
 have e1:reach M [p]=[p]:=by
  have ea:dU [] [p]=[p]:=rfl
  simp only [reach,ea,e0]
 have hfl:[ae.agg (cI x),.ptr p 0].all ae.flat=true:=rfl
 unfold ak
 rw [if_pos hfl,hids,e1]
 have hpk:dv M (cM [p]) [p]=some [.cells [.int .i64 z]]:=by simp [dv,hM,aK.flat,aK.ik,ae.km,ae.jV,ae.nu,ae.wR]
 rw [hpk]
 simp only [aE]
 rw [if_pos e0]
 have hrn:[ae.agg (cI x),.ptr p 0].map (ae.ik (cM [p]))=[ae.agg (cI x),.ptr 0 0]:=by
  simp [ae.ik,ae.km,ae.jV,cM,cI]
 rw [hrn,h]
 simp only [aE]
 rw [if_pos ⟨by trivial,h3,rfl⟩,h5]
 have hs:eJ [p] M [p] [.cells [.int .i64 z]]=M:=by
  simp only [eJ,aK.ik,List.map_cons,List.map_nil,ae.km,ae.jV]
  exact gG hM
 rw [hs]
def Zm (xs:List ae) (z:Int):dv [.arr 3 0 xs,.cells [.int .i64 z]] (cM [0,1]) [0,1]=some [.arr 3 0 xs,.cells [.int .i64 z]]:=rfl
section
attribute [local irreducible] cJ cE gD gK bG kr ai ak aV aF
def abE (e:b9) (z:Int):ai aQ 215 [cQ e,.ptr 0 0] [.cells [.int .i64 z]]=some (.bool (decide (e.af<z)),[.cells [.int .i64 z]]):=by
 refine aq ?_
 simp only [HS,aag,cQ,cI,EN,simprocAttr]
def Xb (e:b9) (z:Int) (p:Nat) (M:ag) (hM:nth M p=some (.cells [.int .i64 z])):ak (ai aQ) 215 [.agg (cI e),.ptr p 0] M=some (.bool (decide (e.af<z)),M) :=
 MG hM (abE e z) rfl rfl
def sr (z:Int):List b9->Nat->Int
 | [],_ => -1
 |e::r,i=>if decide (e.af<z)=true then (i:Int) else sr z r (i+1)
def NW {xs:List b9} {z:Int} (hn:xs.length<=100000) {k:List K} {R:Int->Option (ae×ag)}
  (hx:∀e,kr (ai aQ) [.tmp 4] 2 k ⟨.exit 0,e,[.arr 3 0 (xs.map cQ),.cells [.int .i64 z]]⟩=R (-1)) (hr:∀(i:Nat),kr (ai aQ) [.tmp 4] 2 k ⟨.ret,[(4,.int .i64 i)],[.arr 3 0 (xs.map cQ),.cells [.int .i64 z]]⟩=R i) :
  ∀(l pre:List b9),xs=pre++l->cJ (ai aQ) [.tmp 4] 2 k (.loop [0,1,7,8] DH) [(0,.aZ 0 0 3 0 xs.length),(1,.func 215 [.ptr 1 0]),(7,.int .i64 xs.length),(8,.int .i64 pre.length)] [.arr 3 0 (xs.map cQ),.cells [.int .i64 z]]=R (sr z l pre.length):=by
 intro l
 induction l with
 |nil =>
  intro pre h
  rw [aB]
  simp only [pj,c9 h,EN,simprocAttr]
  exact hx _
 |cons n rest ih =>
  intro pre h
  rw [aB]
  have hlen:pre.length+1<=100000:=by rw [h] at hn; simp at hn; omega
  have hw:IntKind.i64.wrap ((pre.length:Int)+1)=((pre++[n]).length:Int):=by rw [bD (by omega) (by omega)]; exact bK
  have hi:=ih (pre++[n]) (by rw [h]; simp)
  simp only [List.length_append,List.length_cons,List.length_nil] at hi
  have q59:=fun e=>Xb e z 1 [.arr 3 0 (xs.map cQ),.cells [.int .i64 z]] rfl
  have hlt:((pre.length:Int)<((xs.length-0:Nat):Int))=True:=by simp only [eq_iff_iff,iff_true]; rw [h]; simp; omega
  rw [sr]
  simp only [pj,cC h,cn h,TS,TK,q59,hlt,EN,simprocAttr]
  refine aC (fun hb=>?_) (fun hb=>?_)
  ·simp only [pj,hb,EN,simprocAttr]
   exact hr _
  ·simp only [pj,hb,hw,Bool.false_eq_true,EN,simprocAttr]
   exact hi
def aa7 (xs:List b9) (z:Int) (hn:xs.length<=100000):ai aQ 145 [.aZ 0 0 3 0 xs.length,.func 215 [.ptr 1 0]] [.arr 3 0 (xs.map cQ),.cells [.int .i64 z]]=some (.int .i64 (sr z xs 0),[.arr 3 0 (xs.map cQ),.cells [.int .i64 z]]):=by
 refine aq ?_
 simp only [z6,pj,Nat.sub_zero,EN,simprocAttr]
 exact NW (R:=fun i=>some (.int .i64 i,[.arr 3 0 (xs.map cQ),.cells [.int .i64 z]])) hn (fun e=>by simp only [pj,EN,simprocAttr]) (fun i=>by simp only [pj,EN,simprocAttr]) xs [] rfl
def acF (xs:List b9) (z:Int) (hn:xs.length<=100000):ak (ai aQ) 145 [.aZ 0 0 3 0 xs.length,.func 215 [.ptr 1 0]] [.arr 3 0 (xs.map cQ),.cells [.int .i64 z]]=some (.int .i64 (sr z xs 0),[.arr 3 0 (xs.map cQ),.cells [.int .i64 z]]) :=
 eh (ids:=[0,1]) rfl rfl (Zm ..) rfl rfl (aa7 xs z hn) rfl rfl rfl rfl rfl
def eF (z:Int) (l:List b9):List b9:=l.filter fun e => !decide (e.af<z)
def p6 (z:Int) (x:b9) (l:List b9):eF z (x::l)=if decide (x.af<z)=true then eF z l else x::eF z l:=by
 unfold eF
 rw [List.filter_cons]
 cases decide (x.af<z)<;>rfl
def LS (xs:List b9) (b:Nat) (o n:b9) (h:xs[b]?=some o):(cS (xs.map cQ) b (putCells (cQ o) 0 (cI n)))=(xs.set b n).map cQ:=by
 have:putCells (cQ o) 0 (cI n)=cQ n:=rfl
 rw [this,cd,List.map_set]
def Te (x:b9):(cI x).all ae.plainCell=true:=rfl
def N6 {z:Int} {N:Nat} (hN:N<=100000) {k:List K} {R:List b9->Nat->Option (ae×ag)}
  (hx:∀(A G:List b9) v q,A.length+G.length=N->G≠[]->kr (ai aQ) [.tmp 4] 2 k ⟨.exit 0,[(0,.aZ 0 0 3 0 N),(1,.func 215 [.ptr 1 0]),(5,.int .i64 A.length),(6,v),(19,q)],[.arr 3 0 ((A++G).map cQ),.cells [.int .i64 z]]⟩=R A G.length) :
  ∀(T A G:List b9),A.length+G.length+T.length=N->G≠[]->cJ (ai aQ) [.tmp 4] 2 k (.loop [0,1,5,6] ND) [(0,.aZ 0 0 3 0 N),(1,.func 215 [.ptr 1 0]),(5,.int .i64 A.length),(6,.int .i64 ((A.length+G.length:Nat):Int))] [.arr 3 0 ((A++G++T).map cQ),.cells [.int .i64 z]]=R (A++eF z T) (N-(A++eF z T).length):=by
 intro T
 induction T with
 |nil =>
  intro A G hl hg
  have hlt:(((A.length+G.length:Nat):Int)<((N-0:Nat):Int))=False:=by simp only [eq_iff_iff,iff_false]; simp at hl ⊢; omega
  have hk:eF z []=[]:=rfl
  have hgl:N-(A++eF z []).length=G.length:=by rw [hk]; simp at hl ⊢; omega
  rw [hgl,hk,List.append_nil,List.append_nil]
  rw [aB]
  simp only [x7,hlt,EN,simprocAttr]
  exact hx A G _ _ (by simpa using hl) hg
 |cons x T ih =>
  intro A G hl hg
  simp only [List.length_cons] at hl
  have hlt:(((A.length+G.length:Nat):Int)<((N-0:Nat):Int))=True:=by simp only [eq_iff_iff,iff_true]; omega
  have hnn:((0:Int)<=((A.length+G.length:Nat):Int))=True:=by simp only [eq_iff_iff,iff_true]; omega
  have hat:(A++G++x::T)[A.length+G.length]?=some x:=by
   rw [List.getElem?_append_right (by simp)]; simp
  have hw:IntKind.i64.wrap (((A.length+G.length:Nat):Int)+1)=((A.length+G.length+1:Nat):Int):=by rw [bD (by omega) (by omega)]; omega
  have hw1:IntKind.i64.wrap ((A.length:Int)+1)=((A.length+1:Nat):Int):=by rw [bD (by omega) (by omega)]; omega
  have q59:=fun e a b M=>Xb e z 1 (a :: .cells [.int .i64 z]::b::M) rfl
  obtain ⟨g,G',hG⟩:=List.exists_cons_of_ne_nil hg
  have hga:(A++G++x::T)[A.length]?=some g:=by rw [hG]; simp
  have hset:(A++G++x::T).set A.length x=(A++[x])++(G'++[x])++T:=by rw [hG]; simp
  have hlt2:((A.length:Int)<((N-0:Nat):Int))=True:=by simp only [eq_iff_iff,iff_true]; omega
  have h1:=ih (A++[x]) (G'++[x]) (by rw [hG] at hl; simp at hl ⊢; omega) (by simp)
  have h2:=ih A (G++[x]) (by simp; omega) (by simp)
  have hl1:(((A++[x]).length+(G'++[x]).length:Nat):Int)=((A.length+G.length+1:Nat):Int):=by rw [hG]; simp; omega
  have hl2:((A.length+(G++[x]).length:Nat):Int)=((A.length+G.length+1:Nat):Int):=by simp; omega
  have hl3:((A++[x]).length:Int)=((A.length+1:Nat):Int):=by simp
  have e2:A++(G++[x])++T=A++G++x::T:=by simp
  have e1:A++[x]++eF z T=A++x::eF z T:=by simp
  rw [hl1,hl3,e1] at h1
  rw [hl2,e2] at h2
  simp only [List.length_append,List.length_cons] at h1 h2
  have hput:=LS (A++G++x::T) A.length g x hga
  rw [hset] at hput
  rw [p6]
  rw [aB]
  simp only [x7,hlt,hnn,hat,TS,TK,Qo,q59,EN,simprocAttr]
  refine aC (fun hb=>?_) (fun hb=>?_)
  ·have hb':decide (x.af<z)=false:=by simpa using hb
   simp only [x7,hb',hlt2,hga,hput,TS,TK,Te,hw,hw1,Bool.false_eq_true,EN,simprocAttr]
   exact h1
  ·have hb':decide (x.af<z)=true:=by simpa using hb
   simp only [x7,hb',hw,EN,simprocAttr]
   exact h2
def Bp:b9:=⟨[],0,0⟩
def w7 (z:Int):∀(l:List b9) (i:Nat),sr z l i = -1->eF z l=l
 | [],_,_=>rfl
 |x::l,i,h=>by
  rw [sr] at h
  split at h
  ·omega
  ·rename_i hx
   rw [p6,if_neg hx,w7 z l _ h]
def w8 (z:Int):∀(l:List b9) (i:Nat),sr z l i ≠ -1->∃A x T,l=A++x::T/\sr z l i=((i+A.length:Nat):Int)/\eF z l=A++eF z T
 | [],_,h=>absurd rfl h
 |x::l,i,h=>by
  rw [sr] at h ⊢
  rw [p6]
  split
  ·rename_i hx; exact ⟨[],x,l,rfl,rfl,rfl⟩
  ·rename_i hx
   rw [if_neg hx] at h
   obtain ⟨A,y,T,h1,h2,h3⟩:=w8 z l (i+1) h
   exact ⟨x::A,y,T,by rw [h1]; rfl,by rw [h2]; simp; omega,by rw [h3]; rfl⟩
def yO (m:Nat):ae:=if m=0 then .slice .sh [] else .aZ 0 0 3 0 m
def EF (A G:List b9):((A++G).map cQ).take A.length++(List.replicate G.length (ae.agg [.str [],.int .i64 0,.int .i64 0])++((A++G).map cQ).drop (A++G).length)=(A++List.replicate G.length Bp).map cQ:=by
 have h1:((A++G).map cQ).take A.length=A.map cQ:=by simp [List.take_append_of_le_length]
 have h2:((A++G).map cQ).drop (A++G).length=[]:=by rw [List.drop_eq_nil_iff]; simp
 rw [h1,h2]
 simp [List.map_replicate]
 exact .inr rfl
def VF (xs:List b9) (z:Int) (hn:xs.length<=100000) (h0:xs≠[]):ai aQ 213 [.aZ 0 0 3 0 xs.length,.func 215 [.ptr 1 0]] [.arr 3 0 (xs.map cQ),.cells [.int .i64 z]] =
  some (yO (eF z xs).length,[.arr 3 0 ((eF z xs++List.replicate (xs.length-(eF z xs).length) Bp).map cQ),.cells [.int .i64 z]]):=by
 have q89:=acF xs z hn
 refine aq ?_
 by_cases hi:sr z xs 0 = -1
 ·have hk:=w7 z xs 0 hi
  have hb:(sr z xs 0 == -1)=true:=by simpa using hi
  have hl:xs.length≠0:=fun hh=>h0 (List.length_eq_zero_iff.1 hh)
  rw [hk]
  simp only [Aa,x7,q89,hb,EN,simprocAttr]
  simp [yO,hl]
 ·obtain ⟨A,x,T,h1,h2,h3⟩:=w8 z xs 0 hi
  have hb:(sr z xs 0 == -1)=false:=by simpa using hi
  simp only [Nat.zero_add] at h2
  have hlen:xs.length=A.length+(T.length+1):=by rw [h1]; simp
  have hw:IntKind.i64.wrap ((A.length:Int)+1)=((A.length+[x].length:Nat):Int):=by rw [bD (by omega) (by omega)]; simp
  have hlp:=fun k R hx=>N6 (z:=z) hn (k:=k) (R:=R) hx T A [x] (by simp; omega) (by simp)
  have e1:A++[x]++T=xs:=by rw [h1]; simp
  rw [e1] at hlp
  rw [h2] at hb q89
  rw [h3]
  simp only [Aa,x7,q89,hb,hw,EN,simprocAttr]
  refine (hlp _ (fun A' g=>some (yO A'.length,[.arr 3 0 ((A'++List.replicate g Bp).map cQ),.cells [.int .i64 z]])) (fun A' G v q hl hg=>?_)).trans (by simp only [List.length_append])
  have hgl:G.length≠0:=fun hh=>hg (List.length_eq_zero_iff.1 hh)
  have b1:(((A'.length:Nat):Int)<=(xs.length:Int))=True:=by simp only [eq_iff_iff,iff_true]; omega
  have b2:(((A'.length:Nat):Int)==(xs.length:Int))=false:=by simp; omega
  have hcl:=EF A' G
  have hN:(A'++G).length=xs.length:=by simp; omega
  have hd:xs.length-A'.length=G.length:=by omega
  rw [hN] at hcl
  have hz0:Int.toNat ((0:Nat):Int)=0:=rfl
  have hb0:((0:Int)<=((A'.length:Nat):Int))=True:=by simp
  by_cases hA:A'.length=0
  ·have b3:((0:Int)==((A'.length:Nat):Int))=true:=by simp [hA]
   simp only [x7,bO,Nat.sub_zero,Int.le_refl,b1,b2,hd,hcl,b3,hz0,hb0,EN,simprocAttr]
   simp [yO,hA]
  ·have b3:((0:Int)==((A'.length:Nat):Int))=false:=by simp; omega
   simp only [x7,bO,Nat.sub_zero,Int.le_refl,b1,b2,hd,hcl,b3,hz0,hb0,EN,simprocAttr]
   simp [yO,hA]
end
structure bT where
 bq:Int
 handle:Int
 ino:Int
 deriving DecidableEq,Inhabited
structure bp where
 ino:Int
 nodes:Int
 bytes:Int
 deriving DecidableEq,Inhabited
structure jK where
 nU:Int
 CZ:Int
 node:Node
 deriving DecidableEq,Inhabited
structure fx where
 id:Int
 ino:Int
 at':Int
 deriving DecidableEq,Inhabited
structure eu where
 now:Tree
 tick:Int
 since:List Int
 cv:List jK
 taken:List fx
 next:Int
 deriving DecidableEq,Inhabited
structure aa where
 s:eu
 holds:List bT
 bJ:List bp
 deriving DecidableEq,Inhabited
structure er where
 kind:Int
 bq:Int
 path:Bytes
 nj:Bytes
 n:Int
 m:Int
 handle:Int
 data:Bytes
 deriving DecidableEq,Inhabited
structure Gj where
 err:Int
 ino:Int
 kind:Int
 n:Int
 m:Int
 names:List Bytes
 data:Bytes
 deriving DecidableEq,Inhabited
structure Bx where
 bq:Int
 seq:Int
 ans:Gj
 deriving DecidableEq,Inhabited
def fF (h:bT):List ae:=[.int .i64 h.bq,.int .i64 h.handle,.int .i64 h.ino]
def eA (h:bT):ae := .agg (fF h)
abbrev dC (l:List bT):ae := .slice .sh (l.map eA)
def eL (q:bp):List ae:=[.int .i64 q.ino,.int .i64 q.nodes,.int .i64 q.bytes]
def bA (q:bp):ae := .agg (eL q)
abbrev bC (l:List bp):ae := .slice .sh (l.map bA)
def iw (p:jK):List ae := .int .i64 p.nU :: .int .i64 p.CZ::aw p.node
def jP (p:jK):ae := .agg (iw p)
abbrev mX (l:List jK):ae := .slice .sh (l.map jP)
def dL (s:fx):List ae:=[.int .i64 s.id,.int .i64 s.ino,.int .i64 s.at']
def gZ (s:fx):ae := .agg (dL s)
abbrev fb (l:List fx):ae := .slice .sh (l.map gZ)
abbrev nS (l:List Int):ae := .slice .sh (l.map pr)
abbrev fN (l:List Bytes):ae := .slice .sh (l.map ae.str)
def a8 (s:eu):List ae:=[az s.now.nodes,.int .i64 s.now.next,.int .i64 s.now.af,.int .i64 s.tick,nS s.since,mX s.cv,fb s.taken,.int .i64 s.next]
def iy (s:eu):ae := .agg (a8 s)
def dB (f:aa):List ae:=[az f.s.now.nodes,.int .i64 f.s.now.next,.int .i64 f.s.now.af,.int .i64 f.s.tick,nS f.s.since,mX f.s.cv,fb f.s.taken,.int .i64 f.s.next,dC f.holds,bC f.bJ]
def gM (o:er):List ae:=[.int .i64 o.kind,.int .i64 o.bq,.str o.path,.str o.nj,.int .i64 o.n,.int .i64 o.m,.int .i64 o.handle,dg o.data]
def QX (o:er):ae := .agg (gM o)
def gq (a:Gj):List ae:=[.int .i64 a.err,.int .i64 a.ino,.int .i64 a.kind,.int .i64 a.n,.int .i64 a.m,fN a.names,dg a.data]
def pX (s:Bx):List ae := .int .i64 s.bq :: .int .i64 s.seq::gq s.ans
def GR (s:Bx):ae := .agg (pX s)
def zD (n:bT):(eA n).cells=fF n:=rfl
def ye (n:bp):(bA n).cells=eL n:=rfl
def zF (n:jK):(jP n).cells=iw n:=rfl
def zH (n:fx):(gZ n).cells=dL n:=rfl
def zG (n:Bx):(GR n).cells=pX n:=rfl
def Ct (n:bT):(fF n).length=3:=rfl
def AD (n:bp):(eL n).length=3:=rfl
def Cw (n:jK):(iw n).length=8:=rfl
def Cy (n:fx):(dL n).length=3:=rfl
def Cx (n:Bx):(pX n).length=9:=rfl
def kv {α:Type} (f:α->ae) (k:Nat) (h:∀a,(f a).cells.length=k) (l:List α):wid (l.map f) k=True:=by
 simp only [eq_iff_iff,iff_true]
 intro x hx
 obtain ⟨n,_,rfl⟩:=List.mem_map.1 hx
 exact h n
def Gd (l:List bT):wid (l.map eA) 3=True:=kv eA _ (fun _=>rfl) l
def C4 (l:List bp):wid (l.map bA) 3=True:=kv bA _ (fun _=>rfl) l
def Gf (l:List jK):wid (l.map jP) 8=True:=kv jP _ (fun _=>rfl) l
def Gh (l:List fx):wid (l.map gZ) 3=True:=kv gZ _ (fun _=>rfl) l
def Gg (l:List Bx):wid (l.map GR) 9=True:=kv GR _ (fun _=>rfl) l
def L6 (l:List Bytes):wid (l.map ae.str) 1=True:=kv ae.str _ (fun _=>rfl) l
def tkH (n:bT):List.take 3 (fF n)=fF n:=rfl
def shH (n:bT):List.map ae.shut (fF n)=fF n:=rfl
def Z1 (n:bp):List.take 3 (eL n)=eL n:=rfl
def Z0 (n:bp):List.map ae.shut (eL n)=eL n:=rfl
def tkP (n:jK):List.take 8 (iw n)=iw n:=rfl
def shP (n:jK):List.map ae.shut (iw n)=iw n:=rfl
def tkS (n:fx):List.take 3 (dL n)=dL n:=rfl
def shS (n:fx):List.map ae.shut (dL n)=dL n:=rfl
def tkU (n:Bx):List.take 9 (pX n)=pX n:=rfl
def shU (n:Bx):List.map ae.shut (pX n)=pX n:=rfl
def VP:((2:Nat):Int)=2:=rfl
def C0:Int.toNat 0=0:=rfl
def TT:Int.toNat 1=1:=rfl
def acb (a b c d:Int):fm [FK.i,FK.i] [.int .i64 a,.int .i64 b] [.int .i64 c,.int .i64 d]=some (a==c&&b==d):=by
 simp [fm,fq]
def acd (a b c a' b' c':Int):fm [FK.i,FK.i,FK.i] [.int .i64 a,.int .i64 b,.int .i64 c] [.int .i64 a',.int .i64 b',.int .i64 c']=some (a==a'&&(b==b'&&c==c')):=by
 simp [fm,fq]
set_option linter.defProp false in
def EVF:=And.intro @acb (And.intro @acd (And.intro @List.getElem?_cons_zero.{0} (And.intro @List.getElem?_cons_succ.{0} (And.intro @VP (And.intro @C0 (And.intro @TT (And.intro @Nat.zero_mul (And.intro @Nat.one_mul (And.intro @zD (And.intro @ye (And.intro @zF (And.intro @zH (And.intro @zG (And.intro @Ct (And.intro @AD (And.intro @Cw (And.intro @Cy (And.intro @Cx (And.intro @Gd (And.intro @C4 (And.intro @Gf (And.intro @Gh (And.intro @Gg (And.intro @L6 (And.intro @tkH (And.intro @shH (And.intro @Z1 (And.intro @Z0 (And.intro @tkP (And.intro @shP (And.intro @tkS (And.intro @shS (And.intro @tkU (And.intro @shU (And.intro @ZK (And.intro @ZD (And.intro @TS (@TK))))))))))))))))))))))))))))))))))))))
set_option linter.defProp false in
def EW:=And.intro EVF EN
section
attribute [local irreducible] cJ cE gD gK bG kr ai ak aV aF
def c87 (h:bT):ai aQ 87 [eA h] []=some (.agg [.int .i64 h.bq,.int .i64 h.handle],[]):=by
 refine aq ?_
 simp only [Rk,E87,eA,fF,EW,simprocAttr]
def k87 (h:bT) (M:ag):ak (ai aQ) 87 [.agg (fF h)] M=some (.agg [.int .i64 h.bq,.int .i64 h.handle],M):=cO (c87 h) M
def lC (n:Node):Bool:=n.kind==1&&n.bw==0
def abi (n:Node):ai aQ 163 [aX n] []=some (.bool (lC n),[]):=by
 refine aq ?_
 simp only [Hv,Ub,aX,aw,EW,simprocAttr]
 repeat' ((first|refine aC (fun hb=>?_) (fun hb=>?_)|refine bc (fun hb=>?_) (fun hb=>?_)|refine bZ (fun hb=>?_) (fun hb=>?_))<;>simp only [hb,EW,Ub,simprocAttr])
 all_goals (simp_all only [lC,jZ,↓reduceIte,reduceCtorEq,bne_self_eq_false]; done)
def RB (n:Node) (M:ag):ak (ai aQ) 163 [.agg (aw n)] M=some (.bool (lC n),M):=cO (abi n) M
def DE (c h:Int):Bool:=decide (0<=c)&&decide (c<16)&&decide (0<=h)&&decide (h<100)
def c88 (c h:Int):ai aQ 88 [.agg [.int .i64 c,.int .i64 h]] []=some (.bool (DE c h),[]):=by
 refine aq ?_
 simp only [Rl,E88,EW,simprocAttr]
 repeat' ((first|refine aC (fun hb=>?_) (fun hb=>?_)|refine bc (fun hb=>?_) (fun hb=>?_)|refine bZ (fun hb=>?_) (fun hb=>?_))<;>simp only [hb,EW,E88,simprocAttr])
 all_goals (simp_all only [DE,jZ,↓reduceIte,reduceCtorEq,bne_self_eq_false]; done)
def k88 (c h:Int) (M:ag):ak (ai aQ) 88 [.agg [.int .i64 c,.int .i64 h]] M=some (.bool (DE c h),M):=cO (c88 c h) M
def PR (a b:Int):Int:=if (a != 0)=true then a else b
def aey (a b:Int) (ha:(a != 0)=false):PR a b=b:=by simp [PR,ha]
def abc (a b:Int):ai aQ 153 [.slice .sh [.int .i64 a,.int .i64 b]] []=some (.int .i64 (PR a b),[]):=by
 refine aq ?_
 simp only [Dr,y8,EW,simprocAttr]
 rw [aB]
 simp only [Dr,y8,EW,simprocAttr]
 refine aC (fun hb=>?_) (fun hb=>?_)
 ·simp only [y8,hb,PR,EW,simprocAttr]
 ·have w1:IntKind.i64.wrap 1=1:=bD (by decide) (by decide)
  have w2:IntKind.i64.wrap 2=2:=bD (by decide) (by decide)
  simp only [y8,hb,aey a b hb,w1,EW,simprocAttr]
  rw [aB]
  simp only [y8,EW,simprocAttr]
  refine aC (fun hc=>?_) (fun hc=>?_)
  ·simp only [y8,hc,EW,simprocAttr]
  ·simp only [y8,hc,w2,EW,simprocAttr]
   rw [aB]
   simp only [y8,EW,simprocAttr]
   have:b=0:=by simpa using hc
   rw [this]
def acI (a b:Int) (M:ag):ak (ai aQ) 153 [.slice .sh [.int .i64 a,.int .i64 b]] M=some (.int .i64 (PR a b),M):=cO (abc a b) M
def cF (x:bT) (c h:Int):Int:=PR (iL x.bq c) (iL x.handle h)
def c89 (c h a b:Int) (x:bT):ai aQ 89 [.agg [.int .i64 c,.int .i64 h],eA x,.agg [.int .i64 a,.int .i64 b]] []=some (.int .i64 (cF x c h),[]):=by
 refine aq ?_
 simp only [Rm,E89,eA,k87,Nh,acI,cF,EW,simprocAttr]
def k89 (c h a b:Int) (x:bT) (M:ag):ak (ai aQ) 89 [.agg [.int .i64 c,.int .i64 h],.agg (fF x),.agg [.int .i64 a,.int .i64 b]] M=some (.int .i64 (cF x c h),M):=cO (c89 c h a b x) M
def iz (c h:Int) (x:bT):Bool:=x.bq==c&&x.handle==h
def abG (c h:Int) (x:bT):ai aQ 222 [.agg [.int .i64 c,.int .i64 h],eA x] []=some (.bool (iz c h x),[]):=by
 refine aq ?_
 simp only [HU,aah,eA,k87,iz,EW,simprocAttr]
def acQ (c h:Int) (x:bT) (M:ag):ak (ai aQ) 222 [.agg [.int .i64 c,.int .i64 h],.agg (fF x)] M=some (.bool (iz c h x),M):=cO (abG c h x) M
end
section
def jy {α:Type} (p:α->Bool):List α->Nat->Int
 | [],_ => -1
 |x::r,i=>if p x=true then (i:Int) else jy p r (i+1)
def w9 {α:Type} (p:α->Bool):∀(l:List α) (i:Nat),decide (0<=jy p l i)=l.any p
 | [],_=>rfl
 |x::r,i=>by
  rw [jy,List.any_cons]
  by_cases h:p x=true
  ·simp [h]
  ·simp only [h,Bool.false_eq_true,if_false,Bool.false_or]
   exact w9 p r (i+1)
def vk {α:Type} (p:α->Bool) (l:List α):decide (0<=jy p l 0)=l.any p:=w9 p l 0
def o4 {α:Type} (p:α->Bool):∀(l:List α) (i:Nat),(jy p l i = -1/\l.find? p=none)\/∃(m:Nat) (x:α),jy p l i=((i+m:Nat):Int)/\l[m]?=some x/\l.find? p=some x/\l.eraseIdx m=l.eraseP p
 | [],i => .inl ⟨rfl,rfl⟩
 |x::r,i=>by
  rw [jy]
  by_cases h:p x=true
  ·exact .inr ⟨0,x,by simp [h],rfl,by simp [h],by simp [h]⟩
  ·rcases o4 p r (i+1) with ⟨h1,h2⟩|⟨m,y,h1,h2,h3,h4⟩
   ·exact .inl ⟨by simp [h,h1],by simp [h,h2]⟩
   ·exact .inr ⟨m+1,y,by simp only [h,Bool.false_eq_true,if_false,h1]; simp; omega,by simpa using h2,by simp [h,h3],by simp [h,h4]⟩
structure Gw {α:Type} (lt:α->Bool) (l:List α) (b:Nat):Prop where
 le:b<=l.length
 lt:∀h n,l[h]?=some n->(lt n=true↔h<b)
def jm {α:Type} (lt:α->Bool) (l:List α):Nat:=(l.takeWhile lt).length
def yB {α:Type} {lt:α->Bool}:∀ {l:List α},l.Pairwise (fun a b=>lt b=true->lt a=true)->Gw lt l (jm lt l)
 | [],_=>⟨Nat.le_refl _,fun h n hn=>by simp at hn⟩
 |a::r,h=>by
  obtain ⟨h1,h2⟩:=List.pairwise_cons.1 h
  obtain ⟨i1,i2⟩:=yB h2
  unfold jm at i1 i2 ⊢
  by_cases ha:lt a=true
  ·rw [List.takeWhile_cons,if_pos ha]
   refine ⟨by simpa using i1,fun k n hn=>?_⟩
   cases k with
   |zero=>simp at hn; subst hn; simp [ha]
   |succ k=>rw [i2 k n (by simpa using hn)]; simp
  ·rw [List.takeWhile_cons,if_neg ha]
   refine ⟨by simp,fun k n hn=>?_⟩
   simp only [List.length_nil,Nat.not_lt_zero,iff_false]
   cases k with
   |zero=>simp at hn; subst hn; exact ha
   |succ k=>exact fun hc=>ha (h1 n (List.mem_of_getElem? (by simpa using hn)) hc)
def kQ {α:Type} (eq:α->Bool) (l:List α) (b:Nat):Bool:=match l[b]? with
 |some n=>eq n
 |none=>false
def oV {C:bt} {f p:Nat} {vs:List ae} {r:ae} {M:ag} {cs:List ae} (hM:nth M p=some (.cells cs)) (h:C f (vs++[.ptr 0 0]) [.cells cs]=some (r,[.cells cs])) (h1:vs.all ae.flat=true) (h2:vs.flatMap ae.ids=[]) (h3:r.pB=true)
  (h4:vs.map (ae.ik (cM [p]))=vs) (h5:r.ui (pn [p])=r) (h6:cs.all ae.nu=true) (h7:cs.flatMap ae.fz=[]) (h8:cs.map (ae.km (cM [p]))=cs) (h10:cs.map (ae.km (pn [p]))=cs) :
  ak C f (vs++[.ptr p 0]) M=some (r,M):=by
 have hids:(vs++[ae.ptr p 0]).flatMap ae.ids=[p]:=by simp [ae.ids,ae.fz,ae.cm,h2]
 have hi:iE M [p]=[]:=by simp [iE,hM,aK.ids,h7]
 have e0:ep M [p]=[p]:=by simp [ep,hi,dU]
 have e1:reach M [p]=[p]:=by
  have ea:dU [] [p]=[p]:=rfl
  simp only [reach,ea,e0]
 have hfl:(vs++[ae.ptr p 0]).all ae.flat=true:=by rw [List.all_append,h1]; rfl
 unfold ak
 rw [if_pos hfl,hids,e1]
 have hpk:dv M (cM [p]) [p]=some [.cells cs]:=by simp [dv,hM,aK.flat,h6,aK.ik,h8]
 rw [hpk]
 simp only [aE]
 rw [if_pos e0]
 have hrn:(vs++[ae.ptr p 0]).map (ae.ik (cM [p]))=vs++[.ptr 0 0]:=by
  rw [List.map_append,h4]
  simp [ae.ik,ae.km,ae.jV,cM]
 rw [hrn,h]
 simp only [aE]
 rw [if_pos ⟨by trivial,h3,by simp [aK.flat,h6]⟩,h5]
 simp only [eJ,aK.ik,h10]
 rw [gG hM]
def Ln (z:Int):dv [.cells [.int .i64 z]] (cM [0]) [0]=some [.cells [.int .i64 z]]:=rfl
def CQ (u v:Int):dv [.cells [.int .i64 u],.cells [.int .i64 v]] (cM [0,1]) [0,1]=some [.cells [.int .i64 u],.cells [.int .i64 v]]:=rfl
attribute [local irreducible] cJ cE gD gK bG kr ai ak aV aF
def abj (x:bT) (z:Int):ai aQ 165 [eA x,.ptr 0 0] [.cells [.int .i64 z]]=some (.bool (x.ino==z),[.cells [.int .i64 z]]):=by
 refine aq ?_
 simp only [Hw,Z7,eA,fF,EW,simprocAttr]
def abq (x:bT) (z:Int):ai aQ 199 [eA x,.ptr 0 0] [.cells [.int .i64 z]]=some (.bool (x.ino==z),[.cells [.int .i64 z]]):=by
 refine aq ?_
 simp only [HH,aab,eA,fF,EW,simprocAttr]
def abT (q:bp) (ino:Int):ai aQ 245 [bA q,.int .i64 ino] []=some (.int .i64 (iL q.ino ino),[]):=by
 refine aq ?_
 simp only [H8,aan,bA,eL,Nh,EW,simprocAttr]
def Xd (n:bp) (ino:Int) (M:ag):ak (ai aQ) 245 [.agg (eL n),.int .i64 ino] M=some (.int .i64 (iL n.ino ino),M):=cO (abT n ino) M
def abg (n:Node) (ino:Int):ai aQ 161 [aX n,.int .i64 ino] []=some (.int .i64 (iL n.ino ino),[]):=by
 refine aq ?_
 simp only [Ht,Z6,aX,aw,Nh,EW,simprocAttr]
def WT (n:Node) (ino:Int) (M:ag):ak (ai aQ) 161 [.agg (aw n),.int .i64 ino] M=some (.int .i64 (iL n.ino ino),M):=cO (abg n ino) M
def oz (nU CZ:Int) (x:fx):Bool:=decide (nU<=x.at')&&decide (x.at'<CZ)
def abO (x:fx) (a b:Int):ai aQ 238 [gZ x,.ptr 0 0,.ptr 1 0] [.cells [.int .i64 a],.cells [.int .i64 b]]=some (.bool (oz a b x),[.cells [.int .i64 a],.cells [.int .i64 b]]):=by
 refine aq ?_
 simp only [H4,Ug,gZ,dL,EW,simprocAttr]
 repeat' ((first|refine aC (fun hb=>?_) (fun hb=>?_)|refine bc (fun hb=>?_) (fun hb=>?_)|refine bZ (fun hb=>?_) (fun hb=>?_))<;>simp only [hb,EW,Ug,simprocAttr])
 all_goals (simp_all only [oz,jZ,↓reduceIte,reduceCtorEq,bne_self_eq_false]; done)
def KK {xs:List bT} {c g:Int} (hn:xs.length<=100000) {k:List K} {R:Int->Option (ae×ag)}
  (hx:∀e,kr (ai aQ) [.tmp 4] 0 k ⟨.exit 0,e,[]⟩=R (-1)) (hr:∀(i:Nat),kr (ai aQ) [.tmp 4] 0 k ⟨.ret,[(4,.int .i64 i)],[]⟩=R i) :
  ∀(l pre:List bT),xs=pre++l->cJ (ai aQ) [.tmp 4] 0 k (.loop [0,1,7,8] yz) [(0,.slice .sh (xs.map eA)),(1,.iA 222 [.agg [.int .i64 c,.int .i64 g]]),(7,.int .i64 xs.length),(8,.int .i64 pre.length)] []=R (jy (iz c g) l pre.length):=by
 intro l
 induction l with
 |nil =>
  intro pre h
  rw [aB]
  simp only [lM,c9 h,EW,simprocAttr]
  exact hx _
 |cons n rest ih =>
  intro pre h
  rw [aB]
  have hlen:pre.length+1<=100000:=by rw [h] at hn; simp at hn; omega
  have hw:IntKind.i64.wrap ((pre.length:Int)+1)=((pre++[n]).length:Int):=by rw [bD (by omega) (by omega)]; exact bK
  have hi:=ih (pre++[n]) (by rw [h]; simp)
  simp only [List.length_append,List.length_cons,List.length_nil] at hi
  have hk:∀x:bT,ak (ai aQ) 222 [.agg [.int .i64 c,.int .i64 g],.agg (fF x)] []=some (.bool ((iz c g) x),[]):=fun x=>acQ c g x []
  rw [jy]
  simp only [lM,cC h,cn h,hk,EW,simprocAttr]
  refine aC (fun hb=>?_) (fun hb=>?_)
  ·simp only [lM,hb,EW,simprocAttr]
   exact hr _
  ·simp only [lM,hb,hw,Bool.false_eq_true,EW,simprocAttr]
   exact hi
def VJ (xs:List bT) (c g:Int) (hn:xs.length<=100000):ai aQ 221 [.slice .sh (xs.map eA),.iA 222 [.agg [.int .i64 c,.int .i64 g]]] []=some (.int .i64 (jy (iz c g) xs 0),[]):=by
 refine aq ?_
 simp only [Ab,lM,EW,simprocAttr]
 exact KK (R:=fun i=>some (.int .i64 i,[])) hn (fun e=>by simp only [lM,EW,simprocAttr]) (fun i=>by simp only [lM,EW,simprocAttr]) xs [] rfl
def PL (xs:List bT) (c g:Int) (hn:xs.length<=100000) (M:ag):ak (ai aQ) 221 [.slice .sh (xs.map eA),.iA 222 [.agg [.int .i64 c,.int .i64 g]]] M=some (.int .i64 (jy (iz c g) xs 0),M):=cO (VJ xs c g hn) M
def KI {xs:List bT} {z:Int} (hn:xs.length<=100000) {k:List K} {R:Int->Option (ae×ag)}
  (hx:∀e,kr (ai aQ) [.tmp 4] 1 k ⟨.exit 0,e,[aK.cells [.int .i64 z]]⟩=R (-1)) (hr:∀(i:Nat),kr (ai aQ) [.tmp 4] 1 k ⟨.ret,[(4,.int .i64 i)],[aK.cells [.int .i64 z]]⟩=R i) :
  ∀(l pre:List bT),xs=pre++l->cJ (ai aQ) [.tmp 4] 1 k (.loop [0,1,7,8] yz) [(0,.slice .sh (xs.map eA)),(1,.func 165 [.ptr 0 0]),(7,.int .i64 xs.length),(8,.int .i64 pre.length)] [aK.cells [.int .i64 z]]=R (jy (fun x:bT=>x.ino==z) l pre.length):=by
 intro l
 induction l with
 |nil =>
  intro pre h
  rw [aB]
  simp only [lM,c9 h,EW,simprocAttr]
  exact hx _
 |cons n rest ih =>
  intro pre h
  rw [aB]
  have hlen:pre.length+1<=100000:=by rw [h] at hn; simp at hn; omega
  have hw:IntKind.i64.wrap ((pre.length:Int)+1)=((pre++[n]).length:Int):=by rw [bD (by omega) (by omega)]; exact bK
  have hi:=ih (pre++[n]) (by rw [h]; simp)
  simp only [List.length_append,List.length_cons,List.length_nil] at hi
  have hk:∀x:bT,ak (ai aQ) 165 [.agg (fF x),.ptr 0 0] [aK.cells [.int .i64 z]]=some (.bool ((fun x:bT=>x.ino==z) x),[aK.cells [.int .i64 z]]):=fun x=>oV (f:=165) (p:=0) (vs:=[.agg (fF x)]) (M:=[aK.cells [.int .i64 z]]) rfl (abj x z) rfl rfl rfl rfl rfl rfl rfl rfl rfl
  rw [jy]
  simp only [lM,cC h,cn h,hk,EW,simprocAttr]
  refine aC (fun hb=>?_) (fun hb=>?_)
  ·simp only [lM,hb,EW,simprocAttr]
   exact hr _
  ·simp only [lM,hb,hw,Bool.false_eq_true,EW,simprocAttr]
   exact hi
def VH (xs:List bT) (z:Int) (hn:xs.length<=100000):ai aQ 221 [.slice .sh (xs.map eA),.func 165 [.ptr 0 0]] [aK.cells [.int .i64 z]]=some (.int .i64 (jy (fun x:bT=>x.ino==z) xs 0),[aK.cells [.int .i64 z]]):=by
 refine aq ?_
 simp only [Ab,lM,EW,simprocAttr]
 exact KI (R:=fun i=>some (.int .i64 i,[aK.cells [.int .i64 z]])) hn (fun e=>by simp only [lM,EW,simprocAttr]) (fun i=>by simp only [lM,EW,simprocAttr]) xs [] rfl
def VB (xs:List bT) (z:Int) (hn:xs.length<=100000):ai aQ 164 [.slice .sh (xs.map eA),.func 165 [.ptr 0 0]] [aK.cells [.int .i64 z]]=some (.bool (xs.any (fun x:bT=>x.ino==z)),[aK.cells [.int .i64 z]]):=by
 refine aq ?_
 have hk:ak (ai aQ) 221 [.slice .sh (xs.map eA),.func 165 [.ptr 0 0]] [aK.cells [.int .i64 z]]=some (.int .i64 (jy (fun x:bT=>x.ino==z) xs 0),[aK.cells [.int .i64 z]]):=eh (ids:=[0]) rfl rfl (Ln z) rfl rfl (VH xs z hn) rfl rfl rfl rfl rfl
 simp only [Dt,Uc,hk,vk,EW,simprocAttr]
def KJ {xs:List bT} {z:Int} (hn:xs.length<=100000) {k:List K} {R:Int->Option (ae×ag)}
  (hx:∀e,kr (ai aQ) [.tmp 4] 1 k ⟨.exit 0,e,[aK.cells [.int .i64 z]]⟩=R (-1)) (hr:∀(i:Nat),kr (ai aQ) [.tmp 4] 1 k ⟨.ret,[(4,.int .i64 i)],[aK.cells [.int .i64 z]]⟩=R i) :
  ∀(l pre:List bT),xs=pre++l->cJ (ai aQ) [.tmp 4] 1 k (.loop [0,1,7,8] yz) [(0,.slice .sh (xs.map eA)),(1,.func 199 [.ptr 0 0]),(7,.int .i64 xs.length),(8,.int .i64 pre.length)] [aK.cells [.int .i64 z]]=R (jy (fun x:bT=>x.ino==z) l pre.length):=by
 intro l
 induction l with
 |nil =>
  intro pre h
  rw [aB]
  simp only [lM,c9 h,EW,simprocAttr]
  exact hx _
 |cons n rest ih =>
  intro pre h
  rw [aB]
  have hlen:pre.length+1<=100000:=by rw [h] at hn; simp at hn; omega
  have hw:IntKind.i64.wrap ((pre.length:Int)+1)=((pre++[n]).length:Int):=by rw [bD (by omega) (by omega)]; exact bK
  have hi:=ih (pre++[n]) (by rw [h]; simp)
  simp only [List.length_append,List.length_cons,List.length_nil] at hi
  have hk:∀x:bT,ak (ai aQ) 199 [.agg (fF x),.ptr 0 0] [aK.cells [.int .i64 z]]=some (.bool ((fun x:bT=>x.ino==z) x),[aK.cells [.int .i64 z]]):=fun x=>oV (f:=199) (p:=0) (vs:=[.agg (fF x)]) (M:=[aK.cells [.int .i64 z]]) rfl (abq x z) rfl rfl rfl rfl rfl rfl rfl rfl rfl
  rw [jy]
  simp only [lM,cC h,cn h,hk,EW,simprocAttr]
  refine aC (fun hb=>?_) (fun hb=>?_)
  ·simp only [lM,hb,EW,simprocAttr]
   exact hr _
  ·simp only [lM,hb,hw,Bool.false_eq_true,EW,simprocAttr]
   exact hi
def VI (xs:List bT) (z:Int) (hn:xs.length<=100000):ai aQ 221 [.slice .sh (xs.map eA),.func 199 [.ptr 0 0]] [aK.cells [.int .i64 z]]=some (.int .i64 (jy (fun x:bT=>x.ino==z) xs 0),[aK.cells [.int .i64 z]]):=by
 refine aq ?_
 simp only [Ab,lM,EW,simprocAttr]
 exact KJ (R:=fun i=>some (.int .i64 i,[aK.cells [.int .i64 z]])) hn (fun e=>by simp only [lM,EW,simprocAttr]) (fun i=>by simp only [lM,EW,simprocAttr]) xs [] rfl
def VC (xs:List bT) (z:Int) (hn:xs.length<=100000):ai aQ 164 [.slice .sh (xs.map eA),.func 199 [.ptr 0 0]] [aK.cells [.int .i64 z]]=some (.bool (xs.any (fun x:bT=>x.ino==z)),[aK.cells [.int .i64 z]]):=by
 refine aq ?_
 have hk:ak (ai aQ) 221 [.slice .sh (xs.map eA),.func 199 [.ptr 0 0]] [aK.cells [.int .i64 z]]=some (.int .i64 (jy (fun x:bT=>x.ino==z) xs 0),[aK.cells [.int .i64 z]]):=eh (ids:=[0]) rfl rfl (Ln z) rfl rfl (VI xs z hn) rfl rfl rfl rfl rfl
 simp only [Dt,Uc,hk,vk,EW,simprocAttr]
def KL {xs:List fx} {u v:Int} (hn:xs.length<=100000) {k:List K} {R:Int->Option (ae×ag)}
  (hx:∀e,kr (ai aQ) [.tmp 4] 2 k ⟨.exit 0,e,[aK.cells [.int .i64 u],aK.cells [.int .i64 v]]⟩=R (-1)) (hr:∀(i:Nat),kr (ai aQ) [.tmp 4] 2 k ⟨.ret,[(4,.int .i64 i)],[aK.cells [.int .i64 u],aK.cells [.int .i64 v]]⟩=R i) :
  ∀(l pre:List fx),xs=pre++l->cJ (ai aQ) [.tmp 4] 2 k (.loop [0,1,7,8] NN) [(0,.slice .sh (xs.map gZ)),(1,.func 238 [.ptr 0 0,.ptr 1 0]),(7,.int .i64 xs.length),(8,.int .i64 pre.length)] [aK.cells [.int .i64 u],aK.cells [.int .i64 v]]=R (jy (oz u v) l pre.length):=by
 intro l
 induction l with
 |nil =>
  intro pre h
  rw [aB]
  simp only [Bv,c9 h,EW,simprocAttr]
  exact hx _
 |cons n rest ih =>
  intro pre h
  rw [aB]
  have hlen:pre.length+1<=100000:=by rw [h] at hn; simp at hn; omega
  have hw:IntKind.i64.wrap ((pre.length:Int)+1)=((pre++[n]).length:Int):=by rw [bD (by omega) (by omega)]; exact bK
  have hi:=ih (pre++[n]) (by rw [h]; simp)
  simp only [List.length_append,List.length_cons,List.length_nil] at hi
  have hk:∀x:fx,ak (ai aQ) 238 [.agg (dL x),.ptr 0 0,.ptr 1 0] [aK.cells [.int .i64 u],aK.cells [.int .i64 v]]=some (.bool ((oz u v) x),[aK.cells [.int .i64 u],aK.cells [.int .i64 v]]):=fun x=>eh (ids:=[0,1]) rfl rfl (CQ u v) rfl rfl (abO x u v) rfl rfl rfl rfl rfl
  rw [jy]
  simp only [Bv,cC h,cn h,hk,EW,simprocAttr]
  refine aC (fun hb=>?_) (fun hb=>?_)
  ·simp only [Bv,hb,EW,simprocAttr]
   exact hr _
  ·simp only [Bv,hb,hw,Bool.false_eq_true,EW,simprocAttr]
   exact hi
def VM (xs:List fx) (u v:Int) (hn:xs.length<=100000):ai aQ 275 [.slice .sh (xs.map gZ),.func 238 [.ptr 0 0,.ptr 1 0]] [aK.cells [.int .i64 u],aK.cells [.int .i64 v]]=some (.int .i64 (jy (oz u v) xs 0),[aK.cells [.int .i64 u],aK.cells [.int .i64 v]]):=by
 refine aq ?_
 simp only [Ik,Bv,EW,simprocAttr]
 exact KL (R:=fun i=>some (.int .i64 i,[aK.cells [.int .i64 u],aK.cells [.int .i64 v]])) hn (fun e=>by simp only [Bv,EW,simprocAttr]) (fun i=>by simp only [Bv,EW,simprocAttr]) xs [] rfl
def VK (xs:List fx) (u v:Int) (hn:xs.length<=100000):ai aQ 237 [.slice .sh (xs.map gZ),.func 238 [.ptr 0 0,.ptr 1 0]] [aK.cells [.int .i64 u],aK.cells [.int .i64 v]]=some (.bool (xs.any (oz u v)),[aK.cells [.int .i64 u],aK.cells [.int .i64 v]]):=by
 refine aq ?_
 have hk:ak (ai aQ) 275 [.slice .sh (xs.map gZ),.func 238 [.ptr 0 0,.ptr 1 0]] [aK.cells [.int .i64 u],aK.cells [.int .i64 v]]=some (.int .i64 (jy (oz u v) xs 0),[aK.cells [.int .i64 u],aK.cells [.int .i64 v]]):=eh (ids:=[0,1]) rfl rfl (CQ u v) rfl rfl (VM xs u v hn) rfl rfl rfl rfl rfl
 simp only [H3,aak,hk,vk,EW,simprocAttr]
def Od {xs:List bp} {ino:Int} {b:Nat} (hb:Gw (fun x=>decide (iL x.ino ino<0)) xs b) (hn:xs.length<=100000) {k:List K} {r:Option (ae×ag)}
  (hx:∀v q,kr (ai aQ) [.tmp 6,.tmp 7] 0 k ⟨.exit 0,[(0,.slice .sh (xs.map bA)),(1,.int .i64 ino),(2,.func 245 []),(8,.int .i64 xs.length),(9,.int .i64 b),(10,v),(17,q)],[]⟩=r) :
  ∀(f i j:Nat),j-i<=f->i<=b->b<=j->j<=xs.length->cJ (ai aQ) [.tmp 6,.tmp 7] 0 k (.loop [0,1,2,8,9,10] NJ) [(0,.slice .sh (xs.map bA)),(1,.int .i64 ino),(2,.func 245 []),(8,.int .i64 xs.length),(9,.int .i64 i),(10,.int .i64 j)] []=r:=by
 intro f
 induction f with
 |zero =>
  intro i j h1 h2 h3 h4
  obtain rfl:i=b:=by omega
  rw [aB]
  have hlt:((i:Int)<(j:Int))=False:=by simp; omega
  simp only [zb,hlt,EW,simprocAttr]
  exact hx _ _
 |succ f ih =>
  intro i j h1 h2 h3 h4
  rw [aB]
  by_cases hij:i<j
  ·have hlt:((i:Int)<(j:Int))=True:=by simp; omega
   obtain ⟨m1,m2,m3,m4,m5⟩:=vz i j (by omega) (by omega)
   have hmid:(i+j) / 2<xs.length:=by omega
   have hx:=List.getElem?_eq_getElem hmid
   have hl:=hb.lt _ _ hx
   have hk:=fun x:bp=>Xd x ino []
   simp only [zb,hlt,m1,m2,m3,m4,hx,hk,EW,simprocAttr]
   refine aC (fun hq=>?_) (fun hq=>?_)
   ·simp only [zb,m5,EW,simprocAttr]
    exact ih ((i+j) / 2+1) j (by omega) (hl.1 hq) h3 h4
   ·simp only [zb,EW,simprocAttr]
    exact ih i ((i+j) / 2) (by omega) h2 (Nat.not_lt.1 fun h=>by rw [hl.2 h] at hq; cases hq) (by omega)
  ·obtain rfl:i=b:=by omega
   have hlt:((i:Int)<(j:Int))=False:=by simp; omega
   simp only [zb,hlt,EW,simprocAttr]
   exact hx _ _
def abR (xs:List bp) (ino:Int) (b:Nat) (hb:Gw (fun x=>decide (iL x.ino ino<0)) xs b) (hn:xs.length<=100000):ai aQ 244 [.slice .sh (xs.map bA),.int .i64 ino,.func 245 []] []=some (.tuple [.int .i64 b,.bool (kQ (fun x=>iL x.ino ino==0) xs b)],[]):=by
 refine aq ?_
 simp only [H7,zb,EW,simprocAttr]
 refine Od hb hn (fun v q=>?_) xs.length 0 xs.length (by omega) (by omega) hb.le (by omega)
 have hk:=fun x:bp=>Xd x ino []
 unfold kQ
 by_cases hlt:b<xs.length
 ·have hx:=List.getElem?_eq_getElem hlt
  have h1:((b:Int)<(xs.length:Int))=True:=by simp; omega
  simp only [zb,hx,h1,hk,EW,simprocAttr]
 ·have hx:xs[b]?=none:=List.getElem?_eq_none (by omega)
  have h1:((b:Int)<(xs.length:Int))=False:=by simp; omega
  simp only [zb,hx,h1,EW,simprocAttr]
def KG {xs:List Node} {ino:Int} {b:Nat} (hb:Gw (fun x=>decide (iL x.ino ino<0)) xs b) (hn:xs.length<=100000) {k:List K} {r:Option (ae×ag)}
  (hx:∀v q,kr (ai aQ) [.tmp 6,.tmp 7] 0 k ⟨.exit 0,[(0,.slice .sh (xs.map aX)),(1,.int .i64 ino),(2,.func 161 []),(8,.int .i64 xs.length),(9,.int .i64 b),(10,v),(17,q)],[]⟩=r) :
  ∀(f i j:Nat),j-i<=f->i<=b->b<=j->j<=xs.length->cJ (ai aQ) [.tmp 6,.tmp 7] 0 k (.loop [0,1,2,8,9,10] DI) [(0,.slice .sh (xs.map aX)),(1,.int .i64 ino),(2,.func 161 []),(8,.int .i64 xs.length),(9,.int .i64 i),(10,.int .i64 j)] []=r:=by
 intro f
 induction f with
 |zero =>
  intro i j h1 h2 h3 h4
  obtain rfl:i=b:=by omega
  rw [aB]
  have hlt:((i:Int)<(j:Int))=False:=by simp; omega
  simp only [pk,hlt,EW,simprocAttr]
  exact hx _ _
 |succ f ih =>
  intro i j h1 h2 h3 h4
  rw [aB]
  by_cases hij:i<j
  ·have hlt:((i:Int)<(j:Int))=True:=by simp; omega
   obtain ⟨m1,m2,m3,m4,m5⟩:=vz i j (by omega) (by omega)
   have hmid:(i+j) / 2<xs.length:=by omega
   have hx:=List.getElem?_eq_getElem hmid
   have hl:=hb.lt _ _ hx
   have hk:=fun x:Node=>WT x ino []
   simp only [pk,hlt,m1,m2,m3,m4,hx,hk,EW,simprocAttr]
   refine aC (fun hq=>?_) (fun hq=>?_)
   ·simp only [pk,m5,EW,simprocAttr]
    exact ih ((i+j) / 2+1) j (by omega) (hl.1 hq) h3 h4
   ·simp only [pk,EW,simprocAttr]
    exact ih i ((i+j) / 2) (by omega) h2 (Nat.not_lt.1 fun h=>by rw [hl.2 h] at hq; cases hq) (by omega)
  ·obtain rfl:i=b:=by omega
   have hlt:((i:Int)<(j:Int))=False:=by simp; omega
   simp only [pk,hlt,EW,simprocAttr]
   exact hx _ _
def VA (xs:List Node) (ino:Int) (b:Nat) (hb:Gw (fun x=>decide (iL x.ino ino<0)) xs b) (hn:xs.length<=100000):ai aQ 160 [.slice .sh (xs.map aX),.int .i64 ino,.func 161 []] []=some (.tuple [.int .i64 b,.bool (kQ (fun x=>iL x.ino ino==0) xs b)],[]):=by
 refine aq ?_
 simp only [Ds,pk,EW,simprocAttr]
 refine KG hb hn (fun v q=>?_) xs.length 0 xs.length (by omega) (by omega) hb.le (by omega)
 have hk:=fun x:Node=>WT x ino []
 unfold kQ
 by_cases hlt:b<xs.length
 ·have hx:=List.getElem?_eq_getElem hlt
  have h1:((b:Int)<(xs.length:Int))=True:=by simp; omega
  simp only [pk,hx,h1,hk,EW,simprocAttr]
 ·have hx:xs[b]?=none:=List.getElem?_eq_none (by omega)
  have h1:((b:Int)<(xs.length:Int))=False:=by simp; omega
  simp only [pk,hx,h1,EW,simprocAttr]
def N7 {xs:List bT} {c g:Int} {b:Nat} (hb:Gw (fun x=>decide (cF x c g<0)) xs b) (hn:xs.length<=100000) {k:List K} {r:Option (ae×ag)}
  (hx:∀v q,kr (ai aQ) [.tmp 6,.tmp 7] 0 k ⟨.exit 0,[(0,.slice .sh (xs.map eA)),(2,.iA 89 [.agg [.int .i64 c,.int .i64 g]]),(4,.ptr 0 0),(8,.int .i64 xs.length),(9,.int .i64 b),(10,v),(17,q)],[.cells [.int .i64 c,.int .i64 g]]⟩=r) :
  ∀(f i j:Nat),j-i<=f->i<=b->b<=j->j<=xs.length->cJ (ai aQ) [.tmp 6,.tmp 7] 0 k (.loop [0,2,4,8,9,10] NF) [(0,.slice .sh (xs.map eA)),(2,.iA 89 [.agg [.int .i64 c,.int .i64 g]]),(4,.ptr 0 0),(8,.int .i64 xs.length),(9,.int .i64 i),(10,.int .i64 j)] [.cells [.int .i64 c,.int .i64 g]]=r:=by
 intro f
 induction f with
 |zero =>
  intro i j h1 h2 h3 h4
  obtain rfl:i=b:=by omega
  rw [aB]
  have hlt:((i:Int)<(j:Int))=False:=by simp; omega
  simp only [za,hlt,EW,simprocAttr]
  exact hx _ _
 |succ f ih =>
  intro i j h1 h2 h3 h4
  rw [aB]
  by_cases hij:i<j
  ·have hlt:((i:Int)<(j:Int))=True:=by simp; omega
   obtain ⟨m1,m2,m3,m4,m5⟩:=vz i j (by omega) (by omega)
   have hmid:(i+j) / 2<xs.length:=by omega
   have hx:=List.getElem?_eq_getElem hmid
   have hl:=hb.lt _ _ hx
   have hk:=fun x:bT=>k89 c g c g x [.cells [.int .i64 c,.int .i64 g]]
   simp only [za,hlt,m1,m2,m3,m4,hx,hk,EW,simprocAttr]
   refine aC (fun hq=>?_) (fun hq=>?_)
   ·simp only [za,m5,EW,simprocAttr]
    exact ih ((i+j) / 2+1) j (by omega) (hl.1 hq) h3 h4
   ·simp only [za,EW,simprocAttr]
    exact ih i ((i+j) / 2) (by omega) h2 (Nat.not_lt.1 fun h=>by rw [hl.2 h] at hq; cases hq) (by omega)
  ·obtain rfl:i=b:=by omega
   have hlt:((i:Int)<(j:Int))=False:=by simp; omega
   simp only [za,hlt,EW,simprocAttr]
   exact hx _ _
def abF (xs:List bT) (c g:Int) (b:Nat) (hb:Gw (fun x=>decide (cF x c g<0)) xs b) (hn:xs.length<=100000):ai aQ 218 [.slice .sh (xs.map eA),.agg [.int .i64 c,.int .i64 g],.iA 89 [.agg [.int .i64 c,.int .i64 g]]] []=some (.tuple [.int .i64 b,.bool (kQ (fun x=>cF x c g==0) xs b)],[]):=by
 refine aq ?_
 simp only [HT,za,EW,simprocAttr]
 refine N7 hb hn (fun v q=>?_) xs.length 0 xs.length (by omega) (by omega) hb.le (by omega)
 have hk:=fun x:bT=>k89 c g c g x [.cells [.int .i64 c,.int .i64 g]]
 unfold kQ
 by_cases hlt:b<xs.length
 ·have hx:=List.getElem?_eq_getElem hlt
  have h1:((b:Int)<(xs.length:Int))=True:=by simp; omega
  simp only [za,hx,h1,hk,EW,simprocAttr]
 ·have hx:xs[b]?=none:=List.getElem?_eq_none (by omega)
  have h1:((b:Int)<(xs.length:Int))=False:=by simp; omega
  simp only [za,hx,h1,EW,simprocAttr]
end
section
section
variable {α:Type} (enc:α->ae) {f sz bytes:Nat}
def um (hp:aQ.fT f=some (fg sz bytes)) (hw:∀a,(enc a).cells.length=sz) (hb:bytes<=1000) {l:List α} (h0:l≠[]) (hn:l.length<=100000) (M:ag) :
  ai aQ f [.slice .sh (l.map enc)] M=some (.aZ M.length 0 sz 0 l.length,M++[.arr sz 0 (l.map enc)]):=by
 refine bz (g:=fg sz bytes) hp ?_
 obtain ⟨a,r,rfl⟩:=List.exists_cons_of_ne_nil h0
 have hw:wid ((a::r).map enc) sz:=by have:=kv enc sz hw (a::r); simpa using this
 have hr:bB ((a::r).map enc).length bytes:=by have:=dj (a:=(a::r).length) (b:=bytes) (by omega) (by omega); simpa using this
 unfold fg
 simp only [List.map_cons] at hw hr ⊢
 rw [aM ⟨hw,hr⟩]
 simp
def ve (hp:aQ.fT f=some (fg sz bytes)) {l:List α} (h0:l=[]) (M:ag):ai aQ f [.slice .sh (l.map enc)] M=some (.slice .c0 [],M):=by
 subst h0; exact bz (g:=fg sz bytes) hp rfl
def Ah (hp:aQ.fT f=some (ef sz bytes)) (hb:bytes<=1000) {l:List α} {b id v:Nat} (h:b<=l.length) (hn:l.length<=100000) (x:ae) (hx:x.cells.length=sz) (M:ag) (hM:nth M id=some (.arr sz v (l.map enc))) :
  ai aQ f [.aZ id v sz 0 l.length,.int .i64 b,.slice .sh [x]] M=some (.aZ id (v+1) sz 0 (l.length+1),cS M id (.arr sz (v+1) ((l.map enc).take b++x::(l.map enc).drop b))):=by
 refine bz (g:=ef sz bytes) hp ?_
 have hr:bB ((l.map enc).length+1) bytes:=by have:=dj (a:=l.length+1) (b:=bytes) (by omega) (by omega); simpa using this
 unfold ef
 simp only [hM]
 rw [aM ⟨trivial,trivial,trivial,by simp,by omega,by simpa using h,hx,hr⟩]
 simp
def wX (hp:aQ.fT f=some (ef sz bytes)) {b:Nat} (h0:b=0) (x:ae) (hx:x.cells.length=sz) (M:ag) :
  ai aQ f [.slice .c0 [],.int .i64 (b:Int),.slice .sh [x]] M=some (.aZ M.length 0 sz 0 1,M++[.arr sz 0 [x]]):=by
 subst h0
 refine bz (g:=ef sz bytes) hp ?_
 unfold ef
 simp only []
 rw [aM ⟨rfl,hx⟩]
def WC (hp:aQ.fT f=some (eB sz)) {l:List α} {b id v:Nat} (h:b<l.length) (hn:l.length<=100000) (M:ag) (hM:nth M id=some (.arr sz v (l.map enc))) :
  ai aQ f [.aZ id v sz 0 l.length,.int .i64 b,.int .i64 ((b+1:Nat):Int)] M=some (.aZ id (v+1) sz 0 (l.length-1),cS M id (.arr sz (v+1) ((l.map enc).take b++(l.map enc).drop (b+1)))):=by
 refine bz (g:=eB sz) hp ?_
 unfold eB
 simp only [hM]
 rw [aM ⟨trivial,trivial,trivial,by simp,by omega,by simpa using h,by omega,by simp; omega⟩]
 simp
def F2 {M:ag} (i:Nat) (a b:aK):cS (cS M i a) i b=cS M i b:=by
 induction M generalizing i with
 |nil=>rfl
 |cons x r ih =>
  cases i with
  |zero=>rfl
  |succ i=>simp only [cS,ih]
def ML {l:List α} {b:Nat} (h:b<l.length):List.take (l.length-1) ((l.map enc).take b++(l.map enc).drop (b+1))=(l.eraseIdx b).map enc:=by
 rw [List.take_of_length_le (by simp; omega),List.eraseIdx_eq_take_drop_succ]
 simp
def wW (hp:aQ.fT f=some (jU sz)) {l:List α} {b id v:Nat} (h:b<l.length) (hn:l.length<=100000) (M:ag) (hM:nth M id=some (.arr sz v (l.map enc))) :
  ai aQ f [.aZ id v sz 0 l.length,.int .i64 b,.int .i64 ((b+1:Nat):Int)] M=some (.slice .sh ((l.eraseIdx b).map enc),cS M id (.tick sz (l.length-1))):=by
 refine bz (g:=jU sz) hp ?_
 unfold jU eB
 simp only [hM]
 rw [aM ⟨trivial,trivial,trivial,by simp,by omega,by simpa using h,by omega,by simp; omega⟩]
 simp only [aE,ae.mY,ae.gr,yQ hM,ae.ids,ae.fz,ae.cm,kh,F2,if_true,List.drop_zero,Int.toNat_natCast,List.length_map]
 rw [ML enc h]
 have:(List.take b (l.map enc)++List.drop (b+1) (l.map enc)).length=l.length-1:=by simp; omega
 rw [this]
def DB {l:List α} {b:Nat} (h:b<=l.length) (x:α):List.take (l.length+1) ((l.map enc).take b++enc x::(l.map enc).drop b)=(l.take b++x::l.drop b).map enc:=by
 rw [List.take_of_length_le (by simp; omega)]
 simp
end
attribute [local irreducible] cJ cE gD gK bG kr ai ak aV aF
def Ma (t:Tree) (ino:Int) (ht:Small t) (hr:ji t) (M:ag):ak (ai aQ) 86 [.agg [az t.nodes,.int .i64 t.next,.int .i64 t.af],.int .i64 ino] M=some (.tuple [.agg (aw (aA t.nodes ino)),.bool (find t.nodes ino).isSome],M) :=
 cO (c86 t ino ht hr) M
def WY (t:Tree) (ino:Int) (ht:Small t) (hr:ji t) (M:ag):ak (ai aQ) 200 [.agg [az t.nodes,.int .i64 t.next,.int .i64 t.af],.int .i64 ino] M=some (.tuple [.agg (ar (ig t ino).1),.int .i64 (ig t ino).2],M) :=
 cO (abr t ino ht hr) M
end
section
attribute [local irreducible] cJ cE gD gK bG kr ai ak aV aF
def yt (l:List bT) (c h:Int):Int×Int:=match l.find? (iz c h) with
 |some x=>(x.ino,0)
 |none=>(0,80)
def abI (l:List bT) (c h:Int) (hn:l.length<=100000):ai aQ 226 [dC l,.int .i64 c,.int .i64 h] []=some (.tuple [.int .i64 (yt l c h).1,.int .i64 (yt l c h).2],[]):=by
 refine aq ?_
 have hk:=PL l c h hn
 simp only [HW,Qk,hk,EW,simprocAttr]
 unfold yt
 rcases o4 (iz c h) l 0 with ⟨h1,h2⟩|⟨m,x,h1,h2,h3,_⟩
 ·simp only [Qk,h1,h2,EW,simprocAttr]
 ·have hlt:(((0+m:Nat):Int)<0)=False:=by simp
  simp only [Qk,h1,h2,h3,hlt,fF,Nat.zero_add,EW,simprocAttr]
def acR (l:List bT) (c h:Int) (hn:l.length<=100000) (M:ag):ak (ai aQ) 226 [dC l,.int .i64 c,.int .i64 h] M=some (.tuple [.int .i64 (yt l c h).1,.int .i64 (yt l c h).2],M):=cO (abI l c h hn) M
def vj (l:List bT) (ino:Int):Bool:=l.any fun x=>x.ino==ino
def c92 (l:List bT) (ino:Int) (hn:l.length<=100000):ai aQ 92 [dC l,.int .i64 ino] []=some (.bool (vj l ino),[]):=by
 refine aq ?_
 have hk:ak (ai aQ) 164 [dC l,.func 165 [.ptr 0 0]] [.cells [.int .i64 ino]]=some (.bool (vj l ino),[.cells [.int .i64 ino]]):=eh (ids:=[0]) rfl rfl (Ln ino) rfl rfl (VB l ino hn) rfl rfl rfl rfl rfl
 simp only [Ro,E92,hk,EW,simprocAttr]
def fe (t:Tree):List Int:=(t.nodes.filter lC).map Node.ino
def nA (t:Tree) (l:List bT) (c h ino:Int):List bT×Int :=
 if (!DE c h)=true then (l,1)
 else if (!(find t.nodes ino).isSome||lC (aA t.nodes ino))=true then (l,70)
 else if ((aA t.nodes ino).kind==2)=true then (l,72)
 else if kQ (fun x=>cF x c h==0) l (jm (fun x=>decide (cF x c h<0)) l)=true then (l,71)
 else if decide (64<=(l.length:Int))=true then (l,76)
 else (l.take (jm (fun x=>decide (cF x c h<0)) l)++⟨c,h,ino⟩::l.drop (jm (fun x=>decide (cF x c h<0)) l),0)
def nV (a b:bT):Prop:=a.bq<b.bq\/(a.bq=b.bq/\a.handle<b.handle)
abbrev qp (l:List bT):Prop:=l.Pairwise nV
def kO (x:bT) (c h:Int):(cF x c h<0)↔(x.bq<c\/(x.bq=c/\x.handle<h)):=by
 unfold cF PR iL
 by_cases h1:x.bq<c
 ·simp [h1]
 ·by_cases h2:c<x.bq
  ·simp [h1,h2]; omega
  ·have:x.bq=c:=by omega
   by_cases h3:x.handle<h
   ·simp [h3,this]
   ·by_cases h4:h<x.handle
    ·simp [h3,h4,this]
    ·simp [h3,h4,this]
def Cm (x:bT) (c h:Int):(cF x c h=0)↔(x.bq=c/\x.handle=h):=by
 unfold cF PR iL
 by_cases h1:x.bq<c
 ·simp [h1]; omega
 ·by_cases h2:c<x.bq
  ·simp [h1,h2]; omega
  ·have:x.bq=c:=by omega
   by_cases h3:x.handle<h
   ·simp [h3,this]; omega
   ·by_cases h4:h<x.handle
    ·simp [h3,h4,this]; omega
    ·simp [h3,h4,this]; omega
def vu {l:List bT} (h:qp l) (c g:Int):Gw (fun x=>decide (cF x c g<0)) l (jm (fun x=>decide (cF x c g<0)) l):=by
 refine yB (h.imp ?_)
 intro a b hab hb
 simp only [decide_eq_true_eq,kO] at hb ⊢
 unfold nV at hab
 omega
def acP (l:List bT) (c g:Int) (hl:qp l) (hn:l.length<=100000) (M:ag):ak (ai aQ) 218 [dC l,.agg [.int .i64 c,.int .i64 g],.iA 89 [.agg [.int .i64 c,.int .i64 g]]] M =
  some (.tuple [.int .i64 (jm (fun x=>decide (cF x c g<0)) l),.bool (kQ (fun x=>cF x c g==0) l (jm (fun x=>decide (cF x c g<0)) l))],M) :=
 cO (abF l c g _ (vu hl c g) hn) M
def aa0 (t:Tree) (l:List bT) (c h ino:Int) (ht:Small t) (hr:ji t) (hl:qp l) (hn:l.length<=64):ai aQ 135 [bj t,dC l,.int .i64 c,.int .i64 h,.int .i64 ino] []=some (.tuple [dC (nA t l c h ino).1,.int .i64 (nA t l c h ino).2],[]):=by
 refine aq ?_
 have q1:=Ma t ino ht hr
 have q2:=acP l c h hl (by omega)
 have hb:=(vu hl c h).le
 unfold nA
 generalize jm (fun x=>decide (cF x c h<0)) l=b at q2 hb ⊢
 generalize kQ (fun x=>cF x c h==0) l b=e at q2 ⊢
 simp only [Hk,Eg,bj,ar,k88,q1,q2,EW,simprocAttr]
 refine aC (fun h1=>?_) (fun h1=>?_)
 ·simp only [Eg,h1,EW,simprocAttr]
 ·have q3:=fun M=>RB (aA t.nodes ino) M
  simp only [aw] at q3
  by_cases h0:l=[]
  ·have hb0:b=0:=by subst h0; simpa using hb
   have p1:=fun M=>ve eA (f:=220) (sz:=3) (bytes:=24) rfl h0 M
   have p2:=fun M=>wX (f:=219) (sz:=3) (bytes:=24) rfl hb0 (.agg [.int .i64 c,.int .i64 h,.int .i64 ino]) rfl M
   simp only [Eg,h1,q1,q2,q3,aw,EW,simprocAttr]
   repeat' ((first|refine aC (fun hb=>?_) (fun hb=>?_)|refine bc (fun hb=>?_) (fun hb=>?_)|refine bZ (fun hb=>?_) (fun hb=>?_))<;>simp only [hb,EW,Eg,q3,p1,p2,aw,simprocAttr])
   all_goals clear q1 q2 q3 p1 p2
   all_goals first|(simp_all only [jZ,↓reduceIte,reduceCtorEq,bne_self_eq_false]; done)|(simp_all only [jZ,↓reduceIte,reduceCtorEq,bne_self_eq_false]; rfl)
  ·have hb0:=hb
   have p1:=fun M=>um eA (f:=220) (sz:=3) (bytes:=24) rfl (fun _=>rfl) (by omega) h0 (by omega) M
   have p2:=fun M=>Ah eA (f:=219) (sz:=3) (bytes:=24) (v:=0) (id:=3) rfl (by omega) hb (by omega) (.agg [.int .i64 c,.int .i64 h,.int .i64 ino]) rfl M
   simp only [Eg,h1,q1,q2,q3,aw,EW,simprocAttr]
   repeat' ((first|refine aC (fun hb=>?_) (fun hb=>?_)|refine bc (fun hb=>?_) (fun hb=>?_)|refine bZ (fun hb=>?_) (fun hb=>?_))<;>simp only [hb,EW,Eg,q3,p1,p2,aw,simprocAttr])
   all_goals clear q1 q2 q3 p1 p2
   all_goals first|(simp_all only [jZ,↓reduceIte,reduceCtorEq,bne_self_eq_false]; done)|(simp_all only [jZ,↓reduceIte,reduceCtorEq,bne_self_eq_false]; exact congrArg (fun z=>some (ae.tuple [ae.slice .sh z,ae.int .i64 0],([]:ag))) (DB eA hb0 ⟨c,h,ino⟩))
def acA (t:Tree) (l:List bT) (c h ino:Int) (ht:Small t) (hr:ji t) (hl:qp l) (hn:l.length<=64) (M:ag):ak (ai aQ) 135 [.agg [az t.nodes,.int .i64 t.next,.int .i64 t.af],dC l,.int .i64 c,.int .i64 h,.int .i64 ino] M=some (.tuple [dC (nA t l c h ino).1,.int .i64 (nA t l c h ino).2],M) :=
 cO (aa0 t l c h ino ht hr hl hn) M
def k92 (l:List bT) (ino:Int) (hn:l.length<=100000) (M:ag):ak (ai aQ) 92 [dC l,.int .i64 ino] M=some (.bool (vj l ino),M):=cO (c92 l ino hn) M
def eY (t:Tree) (l:List bT) (c h:Int):Tree×List bT×Int:=match l.find? (iz c h) with
 |none=>(t,l,80)
 |some x=>(if ((find t.nodes x.ino).isSome&&lC (aA t.nodes x.ino) && !vj (l.eraseP (iz c h)) x.ino)=true then (ig t x.ino).1 else t,l.eraseP (iz c h),0)
def aa1 (t:Tree) (l:List bT) (c h:Int) (ht:Small t) (hr:ji t) (hn:l.length<=64):ai aQ 136 [bj t,dC l,.int .i64 c,.int .i64 h] []=some (.tuple [bj (eY t l c h).1,dC (eY t l c h).2.1,.int .i64 (eY t l c h).2.2],[]):=by
 refine aq ?_
 have hk:=PL l c h (by omega)
 unfold eY
 rcases o4 (iz c h) l 0 with ⟨h1,h2⟩|⟨m,x,h1,h2,h3,h4⟩
 ·simp only [Dq,Qd,hk,h1,h2,bj,ar,EW,simprocAttr]
 ·have hlt:(((0+m:Nat):Int)<0)=False:=by simp
  have hm:m<l.length:=(List.getElem?_eq_some_iff.1 h2).1
  have hne:l≠[]:=by rintro rfl; simp at hm
  have p1:=fun M=>um eA (f:=220) (sz:=3) (bytes:=24) rfl (fun _=>rfl) (by omega) hne (by omega) M
  have p2:=fun M=>wW eA (f:=223) (sz:=3) (v:=0) (id:=2) rfl hm (by omega) M
  have hw:IntKind.i64.wrap ((m:Int)+1)=((m+1:Nat):Int):=by rw [bD (by omega) (by omega)]; rfl
  have q1:=Ma t x.ino ht hr
  have q2:=WY t x.ino ht hr
  have q3:=fun M=>RB (aA t.nodes x.ino) M
  have q4:=k92 (l.eraseP (iz c h)) x.ino (by have:=List.length_eraseP_le (p:=iz c h) (l:=l); omega)
  simp only [h3]
  generalize ig t x.ino=fr at q2 ⊢
  rw [h4] at p2
  simp only [aw,ar] at q1 q2 q3
  simp only [Dq,Qd,hk,h1,h2,hlt,Nat.zero_add,fF,p1,p2,hw,q1,q3,aw,bj,ar,FZ,kh,EW,simprocAttr]
  repeat' ((first|refine aC (fun hb=>?_) (fun hb=>?_)|refine bc (fun hb=>?_) (fun hb=>?_)|refine bZ (fun hb=>?_) (fun hb=>?_))<;>simp only [hb,EW,Qd,hk,h1,h2,hlt,p1,p2,hw,q1,q2,q3,q4,aw,FZ,kh,simprocAttr])
  all_goals clear q1 q2 q3 q4 p1 p2 hk
  all_goals first|rfl|(simp_all only [jZ,↓reduceIte,reduceCtorEq,bne_self_eq_false]; done)|(simp_all only [jZ,↓reduceIte,reduceCtorEq,bne_self_eq_false]; rfl)|skip
def WN (t:Tree) (l:List bT) (c h:Int) (ht:Small t) (hr:ji t) (hn:l.length<=64) (M:ag):ak (ai aQ) 136 [.agg [az t.nodes,.int .i64 t.next,.int .i64 t.af],dC l,.int .i64 c,.int .i64 h] M=some (.tuple [.agg (ar (eY t l c h).1),dC (eY t l c h).2.1,.int .i64 (eY t l c h).2.2],M) :=
 cO (aa1 t l c h ht hr hn) M
def bm.sz {t:Tree} {dep:Int->Nat} {x:Int} (h:bm t dep x):Sz 200 t where
 nodes:=h.nodes
 av:=fun n hn=>by have:=(h.po _ _ ((dM h.ft.gA).2 ⟨hn,rfl⟩)).2; omega
 data:=fun n hn=>by
  have hi:=(dM h.ft.gA).2 ⟨hn,rfl⟩
  rcases h.kind _ _ hi with h1|h1
  ·have:=(h.file _ _ hi h1).2.2; omega
  ·rw [h.dir _ _ hi h1]; simp
def Sz.yR {b:Nat} {t:Tree} (h:Sz b t) (hb:b<=100000:=by omega):Small t:=h.small hb
def Rt (t:Tree):Prop:=∃dep,bm t dep 0
def Rt.ft {t:Tree} (h:Rt t):ji t:=let ⟨_,g⟩:=h; g.ft
def Rt.sz {t:Tree} (h:Rt t):Sz 200 t:=let ⟨_,g⟩:=h; g.sz
def Rt.small {t:Tree} (h:Rt t):Small t:=h.sz.small (by omega)
def Rt.free {t:Tree} (h:Rt t) (ino:Int):Rt (ig t ino).1:=let ⟨_,g⟩:=h; ⟨_,wU g ino⟩
def Rt.close {t:Tree} (h:Rt t) (l:List bT) (c g:Int):Rt (eY t l c g).1:=by
 unfold eY
 split
 ·exact h
 ·split
  ·exact h.free _
  ·exact h
def pT (t:Tree) (l:List bT) (c g:Int):(eY t l c g).2.1.length<=l.length:=by
 unfold eY
 split
 ·exact Nat.le_refl _
 ·exact List.length_eraseP_le
def wc (n:Tree) (B:Nat) (M:ag):List.map (ae.ew B M) (ar n)=ar n:=rfl
def SM {t:Tree} (ht:t.nodes.length<=100000) {k:List K} {R:List Int->Option (ae×ag)}
  (hx:∀(out:List Int) e,kr (ai aQ) [.tmp 2] 0 k ⟨.exit 0,(3,.slice (.own 1) (out.map pr))::e,[.cells (ar t),.tick 1 out.length]⟩=R out) :
  ∀(l pre:List Node) (out:List Int),t.nodes=pre++l->out.length<=pre.length->cJ (ai aQ) [.tmp 2] 0 k (.loop [3,7,8,9] SG) [(3,.slice (.own 1) (out.map pr)),(7,az t.nodes),(8,.int .i64 t.nodes.length),(9,.int .i64 pre.length)] [.cells (ar t),.tick 1 out.length]=R (out++(l.filter lC).map Node.ino):=by
 intro l
 induction l with
 |nil =>
  intro pre out h ho
  rw [aB]
  simp only [T0,c9 h,List.filter_nil,EW,simprocAttr]
  exact hx _ _
 |cons n rest ih =>
  intro pre out h ho
  rw [aB]
  have hlen:pre.length+1<=100000:=by rw [h] at ht; simp at ht; omega
  have hw:IntKind.i64.wrap ((pre.length:Int)+1)=((pre++[n]).length:Int):=by rw [bD (by omega) (by omega)]; exact bK
  have hi1:=ih (pre++[n]) out (by rw [h]; simp) (by simp; omega)
  have hi2:=ih (pre++[n]) (out++[n.ino]) (by rw [h]; simp) (by simp; omega)
  simp only [List.length_append,List.length_cons,List.length_nil,List.map_append,List.map_cons,List.map_nil] at hi1 hi2
  have r1:bB (out.length+1) 8=True:=dj (by omega) (by omega)
  have q3:=fun M=>RB n M
  simp only [aw] at q3
  simp only [T0,cC h,cn h,aw,ar,q3,EW,simprocAttr] at hi1 hi2 ⊢
  refine aC (fun hb=>?_) (fun hb=>?_)
  ·simp only [T0,hb,r1,rM,hw,EW,simprocAttr]
   simpa [hb] using hi2
  ·simp only [T0,hb,hw,EW,simprocAttr]
   simpa [hb] using hi1
def c90 (t:Tree) (ht:t.nodes.length<=100000):ai aQ 90 [bj t] []=some (nS (fe t),[]):=by
 refine aq ?_
 have hl:=SM ht (k:=[.block 0,.seq Zu]) (R:=fun out=>some (nS out,[])) (fun out e=>by simp only [T0,EW,simprocAttr]) t.nodes [] [] rfl (Nat.le_refl _)
 simp only [ar,List.map_nil,List.length_nil] at hl
 simp only [Rn,T0,bj,ar,EW,simprocAttr]
 exact hl
def k90 (t:Tree) (ht:t.nodes.length<=100000) (M:ag):ak (ai aQ) 90 [.agg [az t.nodes,.int .i64 t.next,.int .i64 t.af]] M=some (nS (fe t),M):=cO (c90 t ht) M
def iZ (c:Int):List bT->Tree->List bT->Tree×List bT
 | [],t,l=>(t,l)
 |x::r,t,l=>if (x.bq==c)=true then iZ c r (eY t l c x.handle).1 (eY t l c x.handle).2.1 else iZ c r t l
def tD (t:Tree) (l:List bT) (c:Int):Tree×List bT:=iZ c l t l
def NX {h0:List bT} (c:Int) (h64:h0.length<=64) {k:List K} {R:Tree->List bT->Option (ae×ag)}
  (hx:∀(t:Tree) (l:List bT) e,kr (ai aQ) [.eE 6 3,.tmp 7] 0 k ⟨.exit 0,(1,dC l)::(2,.int .i64 c)::(3,.ptr 0 0)::(6,.ptr 1 0)::e,[.cells (ar t),.cells [.slice .c0 [],.int .i64 0,.int .i64 0]]⟩=R t l) :
  ∀(r pre:List bT) (t:Tree) (l:List bT),h0=pre++r->Rt t->l.length<=64->cJ (ai aQ) [.eE 6 3,.tmp 7] 0 k (.loop [1,2,3,6,10,11,12] Nw) [(1,dC l),(2,.int .i64 c),(3,.ptr 0 0),(6,.ptr 1 0),(10,dC h0),(11,.int .i64 h0.length),(12,.int .i64 pre.length)] [.cells (ar t),.cells [.slice .c0 [],.int .i64 0,.int .i64 0]]=R (iZ c r t l).1 (iZ c r t l).2:=by
 intro r
 induction r with
 |nil =>
  intro pre t l h ht hl
  rw [aB]
  simp only [Ei,c9 h,iZ,EW,simprocAttr]
  exact hx _ _ _
 |cons x rest ih =>
  intro pre t l h ht hl
  rw [aB]
  have hlen:pre.length+1<=100000:=by rw [h] at h64; simp at h64; omega
  have hw:IntKind.i64.wrap ((pre.length:Int)+1)=((pre++[x]).length:Int):=by rw [bD (by omega) (by omega)]; exact bK
  have q1:=WN t l c x.handle ht.small ht.ft hl
  have hi1:=ih (pre++[x]) t l (by rw [h]; simp) ht hl
  have hi2:=ih (pre++[x]) _ _ (by rw [h]; simp) (ht.close l c x.handle) (Nat.le_trans (pT t l c x.handle) hl)
  rw [iZ]
  generalize eY t l c x.handle=cl at q1 hi2 ⊢
  simp only [List.length_append,List.length_cons,List.length_nil] at hi1 hi2
  simp only [Ei,cC h,cn h,fF,ar,EW,simprocAttr] at q1 hi1 hi2 ⊢
  refine aC (fun hb=>?_) (fun hb=>?_)
  ·simp only [Ei,hb,q1,hw,EW,simprocAttr]
   exact hi2
  ·simp only [Ei,hb,hw,Bool.false_eq_true,EW,simprocAttr]
   exact hi1
def aba (t:Tree) (l:List bT) (c:Int) (ht:Rt t) (hl:l.length<=64):ai aQ 148 [bj t,dC l,.int .i64 c] []=some (.tuple [bj (tD t l c).1,dC (tD t l c).2],[]):=by
 refine aq ?_
 have hq:=NX (h0:=l) c hl (k:=[.block 0,.seq Ti]) (R:=fun t l=>some (.tuple [bj t,dC l],[])) (fun t l e=>by simp only [Ei,bj,ar,EW,simprocAttr]) l [] t l rfl ht hl
 simp only [ar,List.length_nil] at hq
 simp only [Hq,Ei,bj,ar,EW,simprocAttr]
 exact hq
def acH (t:Tree) (l:List bT) (c:Int) (ht:Rt t) (hl:l.length<=64) (M:ag):ak (ai aQ) 148 [.agg [az t.nodes,.int .i64 t.next,.int .i64 t.af],dC l,.int .i64 c] M=some (.tuple [.agg (ar (tD t l c).1),dC (tD t l c).2],M) :=
 cO (aba t l c ht hl) M
end
abbrev AM (α:Type):=List (Int×α)
section
variable {α:Type}
def tw (l:AM α):List ae:=l.map fun p => .int .i64 p.1
def iV (enc:α->ae) (l:AM α):List ae:=l.map fun p=>enc p.2
def bR:AM α->Int->Option α
 | [],_=>none
 |(k',v)::l,k=>if k=k' then some v else bR l k
def fP:AM α->Int->α->AM α
 | [],k,v=>[(k,v)]
 |(k',v')::l,k,v=>if k=k' then (k,v)::l else (k',v')::fP l k v
def fO:∀(l:AM α) (k:Int) (v:α) (j:Int),bR (fP l k v) j=if j=k then some v else bR l j
 | [],k,v,j=>by simp only [fP,bR]
 |(k',v')::l,k,v,j=>by
  simp only [fP]
  split
  ·rename_i h
   subst h
   simp only [bR]
   split<;>rfl
  ·rename_i h
   simp only [bR]
   split
   ·rename_i h2
    rw [if_neg (fun hh=>h (hh.symm.trans h2))]
   ·exact fO l k v j
def oo:∀(l:AM α) (k:Int) (v:α),bR l k=some v->(k,v)∈l
 |(k',v')::l,k,v,h=>by
  simp only [bR] at h
  split at h
  ·rename_i hk
   injection h with h
   subst h; subst hk
   exact List.mem_cons_self
  ·exact List.mem_cons_of_mem _ (oo l k v h)
def vB:∀(l:AM α) (k:Int) (v:α),(fP l k v).length<=l.length+1
 | [],_,_=>by simp [fP]
 |(k',v')::l,k,v=>by
  simp only [fP]
  split
  ·simp
  ·have:=vB l k v
   simp; omega
def gP (enc:α->ae):∀(l:AM α) (k:Int),p9 .i (.int .i64 k) (tw l) (iV enc l)=some ((bR l k).map enc)
 | [],k=>rfl
 |(k',v)::l,k=>by
  show aF (fq .i (.int .i64 k) (.int .i64 k')) (fun b=>pE b (some (some (enc v))) (p9 .i (.int .i64 k) (tw l) (iV enc l)))=_
  rw [gP enc l k]
  simp only [fq,↓reduceIte,aE,bR]
  by_cases h:k=k'
  ·rw [if_pos h,show (k==k')=true by simpa using h,jc]; rfl
  ·rw [if_neg h,show (k==k')=false by simpa using h,gV]
end
section
variable {α:Type}
def kR (enc:α->ae):∀(l:AM α) (k:Int) (v:α),om .i (.int .i64 k) (enc v) (tw l) (iV enc l)=some (tw (fP l k v),iV enc (fP l k v))
 | [],k,v=>by
  show aF (fq .i (.int .i64 k) (.int .i64 k)) (fun _=>some ([ae.int .i64 k],[enc v]))=_
  simp only [fq,↓reduceIte,aE]
  rfl
 |(k',v')::l,k,v=>by
  show aF (fq .i (.int .i64 k) (.int .i64 k')) (fun b=>pE b (some (ae.int .i64 k::tw l,enc v::iV enc l)) (aF (om .i (.int .i64 k) (enc v) (tw l) (iV enc l)) fun x=>some (ae.int .i64 k'::x.1,enc v'::x.2)))=_
  rw [kR enc l k v]
  simp only [fq,↓reduceIte,aE,fP]
  by_cases h:k=k'
  ·rw [if_pos h,show (k==k')=true by simpa using h,jc]; rfl
  ·rw [if_neg h,show (k==k')=false by simpa using h,gV]; rfl
def MC (enc:α->ae) (B:Nat) (M:ag) (h:∀a,(enc a).eb B M=enc a) (l:AM α):List.map (ae.eb B M) (iV enc l)=iV enc l:=by
 unfold iV
 rw [List.map_map]
 exact List.map_congr_left (fun p _=>h p.2)
def IE (enc:α->ae) (h:∀a,(enc a).ids=[]) (l:AM α):(iV enc l).flatMap ae.ids=[]:=by
 unfold iV
 rw [List.flatMap_map]
 exact List.flatMap_eq_nil_iff.2 fun p _=>h p.2
def Ch (enc:α->ae) (h:∀a,(enc a).flat=true) (l:AM α):(iV enc l).all ae.flat=true:=List.all_eq_true.2 fun x hx=>by
 obtain ⟨p,_,rfl⟩:=List.mem_map.1 hx
 exact h p.2
def LI (enc:α->ae) (ρ:Nat->Nat) (h:∀a,(enc a).ik ρ=enc a) (l:AM α):(iV enc l).map (ae.ik ρ)=iV enc l:=by
 unfold iV
 rw [List.map_map]
 exact List.map_congr_left (fun p _=>h p.2)
def DL (o:Option Bool):ja (.bool false) false (o.map ae.bool) = .bool (o.getD false):=by cases o<;>rfl
end
end Go.Proofs.YtahkjijkflobhaaGreatDoor
