import Derived.Test.YtdbadpnkhaepnaaGreatDoorOnbF
set_option linter.unusedSimpArgs false
set_option linter.unusedVariables false
set_option linter.unusedSectionVars false
set_option linter.defProp false
namespace Go.Proofs.YtdbadpnkhaepnaaGreatDoor
open Go Go.Abs
section
attribute [local irreducible] cT cR gz gK bR kr af an aZ aK
def XH {xs:List cC} {i:Nat} {c:cC} {s r:List bq} {v:ae} {was now:Int} {f F:aa} {A:oV} (hi:xs[i]?=some c) (hil:((i:Int)<(xs.length:Int))=True) (hs:s.length<=100000) (hr:r.length<=100000) (hok:∀p,p∈r->jU p.nj)
  (hall:∀p,p∈s->∃(j:Nat) (q:bq),nB r p.aj=j/\r[j]?=some q/\(p.aj≠c.aj->q=p)) (hv:v=bt s\/(v = .slice .c0 []/\s=[])) {k:List K} {R:Option (ae×ai)}
  (hx:∀e,kr (af eM) [.tmp 2] 0 k ⟨.exit 2,(0,eh xs)::(3,.bool true)::(5,.ptr 0 0)::(6,v)::(7,.int .i64 i)::(8,.ptr 1 0)::(9,bt r)::(10,.ptr 2 0)::(11,.int .i64 was)::(12,.int .i64 now)::e,[.cells (bB f),.cells (bB F),.cells (ba A)]⟩=R) :
  ∀(l pre:List bq),s=pre++l->cT (af eM) [.tmp 2] 0 k (.loop [0,3,5,6,7,8,9,10,11,12,13] ab0) [(0,eh xs),(3,.bool true),(5,.ptr 0 0),(6,v),(7,.int .i64 i),(8,.ptr 1 0),(9,bt r),(10,.ptr 2 0),(11,.int .i64 was),(12,.int .i64 now),(13,.int .i64 pre.length)] [.cells (bB f),.cells (bB F),.cells (ba A)]=R:=by
 simp only [bB,ba] at hx ⊢
 intro l
 induction l with
 |nil =>
  intro pre h
  rw [aE]
  rcases hv with rfl|⟨rfl,h0⟩
  ·simp only [E6,bZ h,EW,simprocAttr]
   exact hx _
  ·rw [h0,List.append_nil] at h
   subst h
   simp only [E6,List.length_nil,Int.lt_irrefl,EW,simprocAttr]
   exact hx _
 |cons p rest ih =>
  intro pre h
  rcases hv with rfl|⟨_,h0⟩
  rotate_left
  ·rw [h] at h0; simp at h0
  rw [aE]
  have hlen:pre.length+1<=100000:=by rw [h] at hs; simp at hs; omega
  have hw:IntKind.i64.wrap ((pre.length:Int)+1)=((pre++[p]).length:Int):=by rw [bw (by omega) (by omega)]; exact bp
  have i1:=ih (pre++[p]) (by rw [h]; simp)
  simp only [List.length_append,List.length_cons,List.length_nil,Nat.zero_add] at i1
  obtain ⟨j,q,g1,g2,g3⟩:=hall p (by rw [h]; simp)
  have hj:=(List.getElem?_eq_some_iff.1 g2).1
  have q18:=fun M=>lE (k18 r p.aj hr M)
  rw [g1] at q18
  have hjl:((j:Int)<(r.length:Int))=True:=by simp only [eq_iff_iff,iff_true]; omega
  have hj0:((j:Int)<0)=False:=by simp only [eq_iff_iff,iff_false]; omega
  have q16:=fun M=>lE (Qc q.nj p.nj (hok q (List.mem_of_getElem? g2)) M)
  simp only [ba] at q16
  cases hc:p.aj != c.aj
  ·simp only [E6,aY h,aW h,hi,hil,hjl,hj0,g2,q18,q16,hc,hw,rH,eB,bO,cz,bK,bU,ba,EW,simprocAttr]
   exact i1
  ·obtain rfl:=g3 (by simpa using hc)
   rw [decide_eq_true rfl] at q16
   simp only [E6,aY h,aW h,hi,hil,hjl,hj0,g2,q18,q16,hc,hw,rH,eB,bO,cz,bK,bU,ba,bne_self_eq_false,EW,simprocAttr]
   exact i1
def XI {xs:List cC} (hn:xs.length<=40) (ho:∀c,c∈xs->qj c.op) {k:List K} {R:Option (ae×ai)}
  (hx:∀e M,kr (af eM) [.tmp 2] 0 k ⟨.exit 0,(0,eh xs)::(3,.bool true)::e,M⟩=R) :
  ∀(l pre:List cC) (f:aa) (s:List bq) (v:ae),xs=pre++l->iQ (200*pre.length) f s->(v=bt s\/(v = .slice .c0 []/\s=[])) ->
   cT (af eM) [.tmp 2] 0 k (.loop [0,3,5,6,7] ab1) [(0,eh xs),(3,.bool true),(5,.ptr 0 0),(6,v),(7,.int .i64 pre.length)] [.cells (bB f)]=R:=by
 intro l
 induction l with
 |nil =>
  intro pre f s v h _ _
  rw [aE]
  simp only [E6,bZ h,EW,simprocAttr]
  exact hx _ _
 |cons c rest ih =>
  intro pre f s v h hst hv
  rw [aE]
  have hi:=aW h
  have hil:=aY h
  have hlen:pre.length+1<=40:=by rw [h] at hn; simp at hn; omega
  have hw:IntKind.i64.wrap ((pre.length:Int)+1)=((pre++[c]).length:Int):=by rw [bw (by omega) (by omega)]; exact bp
  have q12:=fun M=>Ab hst (by omega) c.aj c.seq c.op (ho c (by rw [h]; simp)) M
  obtain ⟨hst',ha⟩:=hst.once (by omega) c.aj c.seq c.op
  obtain ⟨g1,g2,g3⟩:=GR hst c.aj c.seq c.op
  generalize cd f s c.aj c.seq c.op=X at q12 hst' ha g1 g2 g3
  obtain ⟨F,S,A⟩:=X
  simp only at q12 hst' ha g1 g2 g3
  have hsl:=hst.len
  have hSl:=hst'.len
  have q14:=fun M=>lE (Lv s c.aj (by omega) M)
  have q14':=fun M=>lE (Lv S c.aj (by omega) M)
  have q18:=fun M=>lE (k18 S c.aj (by omega) M)
  have q21:=fun M=>lE (YX S (by omega) M)
  rw [hst'.right] at q21
  have hp:=hst.pos c.aj
  have hwl:=hst.wrap c.aj
  have i1:=ih (pre++[c]) F S (bt S) (by rw [h]; simp) (by simpa [Nat.mul_add] using hst') (.inl rfl)
  have hws:IntKind.i64.wrap ((s.length:Int)+1)=(s.length:Int)+1:=bw (by omega) (by omega)
  have hgt:((s.length:Int)+1<(S.length:Int))=False:=by simp only [eq_iff_iff,iff_false]; omega
  have hgt0:s=[]->((1:Int)<(S.length:Int))=False:=fun h=>by subst h; simp only [eq_iff_iff,iff_false]; simp at g3; omega
  have hw1:IntKind.i64.wrap 1=1:=rfl
  simp only [List.length_append,List.length_cons,List.length_nil,Nat.zero_add] at i1
  generalize hnow:bJ S c.aj=now at q14' g2
  generalize hwas:bJ s c.aj=was at q14 g2 hwl hp
  have la:=fun {v k R} hv=>XH (f:=f) (F:=F) (A:=A) (was:=was) (now:=now) hi hil (by omega) (by omega) hst'.nj g1 (v:=v) hv (k:=k) (R:=R)
  have hc:∃b,(now != was)=b/\(b=true->now=was+1/\now=c.seq/\∃(j:Nat) (q:bq),nB S c.aj=j/\S[j]?=some q/\q.nj=A):=⟨_,rfl,fun hb=>g2 (by simpa using hb)⟩
  obtain ⟨b,hb,g2'⟩:=hc
  cases b
  ·rcases hv with rfl|⟨rfl,rfl⟩<;>simp only [bt,List.map_nil,bB,cz,ba] at q12 q14 i1<;>(try replace hgt0:=hgt0 rfl) <;>
   (simp only [E6,hil,hi,q12,q14,q14',hw,rH,eB,bO,cz,bB,ba,EW,simprocAttr]
    first
    |refine la (v:=bt s) (.inl rfl) (fun e=>?_) _ [] rfl
    |refine la (v := .slice .c0 []) (.inr ⟨rfl,rfl⟩) (fun e=>?_) _ [] rfl
    simp only [E6,hil,hi,hb,q21,hws,hgt,hgt0,hw1,hw,rH,eB,bO,cz,bB,ba,EW,simprocAttr]
    exact i1)
  ·obtain ⟨e1,e2,j,q,e3,e4,rfl⟩:=g2' rfl
   rw [e3] at q18
   have hj:=(List.getElem?_eq_some_iff.1 e4).1
   have hjl:((j:Int)<(S.length:Int))=True:=by simp only [eq_iff_iff,iff_true]; omega
   have hj0:((j:Int)<0)=False:=by simp only [eq_iff_iff,iff_false]; omega
   have q16:=fun M=>lE (Qc q.nj q.nj ha M)
   rw [decide_eq_true rfl] at q16
   have n1:(now != was+1)=false:=by rw [e1]; exact bne_self_eq_false _
   have n2:(now != c.seq)=false:=by rw [e2]; exact bne_self_eq_false _
   rcases hv with rfl|⟨rfl,rfl⟩<;>simp only [bt,List.map_nil,bB,cz,ba] at q12 q14 q16 i1<;>(try replace hgt0:=hgt0 rfl) <;>
   (simp only [E6,hil,hi,q12,q14,q14',hw,rH,eB,bO,cz,bB,ba,EW,simprocAttr]
    first
    |refine la (v:=bt s) (.inl rfl) (fun e=>?_) _ [] rfl
    |refine la (v := .slice .c0 []) (.inr ⟨rfl,rfl⟩) (fun e=>?_) _ [] rfl
    simp only [E6,hil,hi,hb,q18,hj0,hwl,n1,n2,hjl,e4,q16,q21,hws,hgt,hgt0,hw1,hw,rH,eB,bO,cz,bB,bK,bU,ba,EW,simprocAttr]
    exact i1)
def M1 (xs:List cC):af eM 6 [eh xs] []=some (.bool true,[]):=by
 refine aq rfl rfl rfl ?_
 have q9:=fun M=>eH c9 rfl rfl rfl rfl rfl M
 have q10:=fun M=>lE (YW xs M)
 have q11:=fun M=>lE (Vy M)
 cases hg:lR xs<;>rw [hg] at q10<;>simp only [fn6,E6,q9,q10,q11,bB,EW,simprocAttr]
 obtain ⟨hn,ho⟩:=nD hg
 have hl:=fun {k R} hx=>XI hn ho (k:=k) (R:=R) hx xs [] f0 [] (.slice .c0 []) rfl RE (.inr ⟨rfl,rfl⟩)
 simp only [bB] at hl
 refine hl (fun e M=>?_)
 simp only [E6,EW,simprocAttr]
end
end Go.Proofs.YtdbadpnkhaepnaaGreatDoor
