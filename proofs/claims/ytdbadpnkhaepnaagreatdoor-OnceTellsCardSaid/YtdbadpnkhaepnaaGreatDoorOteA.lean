import Derived.Test.YtdbadpnkhaepnaaGreatDoorOnbF
set_option linter.unusedSimpArgs false
set_option linter.unusedVariables false
set_option linter.unusedSectionVars false
set_option linter.defProp false
namespace Go.Proofs.YtdbadpnkhaepnaaGreatDoor
open Go Go.Abs
section
attribute [local irreducible] cT cR gz gK bR kr af an aZ aK
def c13 (xs:List bq) (c s:Int) (hn:xs.length<=100000) (hq:Ef xs):af aV 13 [bt xs,.int .i64 c,.int .i64 s] []=some (.int .i64 (gU c s (bJ xs c)),[]):=by
 refine aq rfl rfl rfl ?_
 have q:=fun M=>Lv xs c hn M
 obtain ⟨hl,hl'⟩:=hq.last c
 generalize bJ xs c=l at q hl hl' ⊢
 have hw:IntKind.i64.wrap (l+1)=l+1:=bw (by omega) (by omega)
 unfold gU
 by_cases h1:c<0
 ·rw [if_pos (.inl h1)]
  simp only [zx,T2,eq_true h1,EW,simprocAttr]
 by_cases h2:16<=c
 ·rw [if_pos (.inr h2)]
  have h2':(15<c)=True:=by simp only [eq_iff_iff,iff_true]; omega
  simp only [zx,T2,eq_false h1,h2',EW,simprocAttr]
 rw [if_neg (by omega)]
 have h2':(15<c)=False:=by simp only [eq_iff_iff,iff_false]; omega
 by_cases h3:s<1
 ·rw [if_pos (.inl h3)]
  simp only [zx,T2,q,eq_false h1,h2',eq_true h3,EW,simprocAttr]
 by_cases h4:s<l
 ·rw [if_pos (.inr h4)]
  simp only [zx,T2,q,eq_false h1,h2',eq_false h3,eq_true h4,EW,simprocAttr]
 rw [if_neg (by omega)]
 by_cases h5:l+1<s
 ·rw [if_pos (.inl h5)]
  simp only [zx,T2,q,eq_false h1,h2',eq_false h3,eq_false h4,hw,eq_true h5,EW,simprocAttr]
 by_cases h6:1099511627776<s
 ·rw [if_pos (.inr h6)]
  simp only [zx,T2,q,eq_false h1,h2',eq_false h3,eq_false h4,hw,eq_false h5,eq_true h6,EW,simprocAttr]
 rw [if_neg (by omega)]
 simp only [zx,T2,q,eq_false h1,h2',eq_false h3,eq_false h4,hw,eq_false h5,eq_false h6,EW,simprocAttr]
def Xv {xs:List bq} {x:bq} (hn:xs.length<=90000) {k:List K} {R:List bq->Option (ae×ai)}
  (hx:∀(out:List bq) (d:Bool) e,out.length<=xs.length+1->kr (af aV) [.tmp 8] 0 k ⟨.exit 0,(0,bt xs)::(1,.int .i64 x.aj)::(9,.ptr 1 0)::(10,.slice (.own 2) (out.map bK))::(11,.bool d)::e,[.cells (ba x.nj),.cells (bU x),.tick 9 out.length]⟩=R (out++(if (!d)=true then [x] else []))) :
  ∀(l pre out:List bq) (d:Bool),xs=pre++l->out.length<=pre.length+(if d=true then 1 else 0)->cT (af aV) [.tmp 8] 0 k (.loop [0,1,9,10,11,12] W7) [(0,bt xs),(1,.int .i64 x.aj),(9,.ptr 1 0),(10,.slice (.own 2) (out.map bK)),(11,.bool d),(12,.int .i64 pre.length)]
   [.cells (ba x.nj),.cells (bU x),.tick 9 out.length]=R (out++k8 x l d):=by
 intro l
 induction l with
 |nil =>
  intro pre out d h ho
  rw [aE]
  simp only [E20,bZ h,k8,EW,simprocAttr]
  exact hx _ _ _ (by rw [h,List.append_nil]; split at ho<;>omega)
 |cons s rest ih =>
  intro pre out d h ho
  rw [aE]
  have hlen:pre.length+1<=90000:=by rw [h] at hn; simp at hn; omega
  have hw:IntKind.i64.wrap ((pre.length:Int)+1)=((pre++[s]).length:Int):=by rw [bw (by omega) (by omega)]; exact bp
  have ho':out.length<=pre.length+1:=by split at ho<;>omega
  have r1:bP (out.length+1) 104=True:=dv (by omega) (by omega)
  have r2:bP (out.length+1+1) 104=True:=dv (by omega) (by omega)
  have i1:=fun out' d' hh=>ih (pre++[s]) out' d' (by rw [h]; simp) hh
  have j1:=i1 out
  have j2:=i1 (out++[x])
  have j3:=i1 (out++[s])
  have j4:=i1 (out++[x]++[s])
  simp only [List.length_append,List.length_cons,List.length_nil,Nat.zero_add,List.map_append,List.map_cons,List.map_nil] at j1 j2 j3 j4
  simp only [bK] at j2 j3 j4
  rw [k8]
  cases d<;>cases hge:decide (x.aj<=s.aj)<;>cases hne:s.aj != x.aj <;>
   simp only [E20,aY h,aW h,hge,hne,bK,bU,ba,r1,r2,hw,Lr,N4,Bool.not_true,Bool.not_false,Bool.true_and,Bool.false_and,Bool.false_or,Bool.true_or,Bool.or_false,if_true,Bool.false_eq_true,if_false,EW,simprocAttr]
  ·exact (j1 false (by simp at ho ⊢; omega)).trans (congrArg R (by simp))
  ·exact (j3 false (by simp at ho ⊢; omega)).trans (congrArg R (by simp))
  ·exact (j2 true (by simp at ho ⊢; omega)).trans (congrArg R (by simp))
  ·exact (j4 true (by simp at ho ⊢; omega)).trans (congrArg R (by simp))
  ·exact (j1 true (by simp at ho ⊢; omega)).trans (congrArg R (by simp))
  ·exact (j3 true (by simp at ho ⊢; omega)).trans (congrArg R (by simp))
  ·exact (j1 true (by simp at ho ⊢; omega)).trans (congrArg R (by simp))
  ·exact (j3 true (by simp at ho ⊢; omega)).trans (congrArg R (by simp))
def c20 (xs:List bq) (c s:Int) (a:oV) (hn:xs.length<=90000):af aV 20 [bt xs,.int .i64 c,.int .i64 s,.agg (ba a)] []=some (bt (jQ xs c s a),[]):=by
 refine aq rfl rfl rfl ?_
 simp only [UR,E20,ba,EW,simprocAttr]
 refine Xv (xs:=xs) (x:=⟨c,s,a⟩) hn (R:=fun out=>some (.slice .sh (out.map bK),[])) (fun out d e hout=>?_) xs [] [] false rfl (by simp)
 have r1:bP (out.length+1) 104=True:=dv (by omega) (by omega)
 simp only [ba,bU]
 cases d<;>simp only [E20,r1,Lr,N4,Bool.not_true,Bool.not_false,if_true,Bool.false_eq_true,if_false,EW,simprocAttr]
 all_goals (first|rfl|(simp; rfl)|(simp [bK,bU]; rfl)|simp [bK,bU,ba])
def Xx {xs:List bq} (hn:xs.length<=100000) {k:List K} {R:Bool->Option (ae×ai)}
  (hx:∀e M,kr (af aV) [.tmp 2] 0 k ⟨.exit 0,e,M⟩=R true) (hr:∀M,kr (af aV) [.tmp 2] 0 k ⟨.ret,[(2,.bool false)],M⟩=R false) :
  ∀(l pre:List bq),xs=pre++l->cT (af aV) [.tmp 2] 0 k (.loop [0,3] Dq) [(0,bt xs),(3,.int .i64 pre.length)] []=R (iH (pre.getLast?.map bq.aj) l):=by
 intro l
 induction l with
 |nil =>
  intro pre h
  rw [aE]
  simp only [Cn,bZ h,iH,EW,simprocAttr]
  exact hx _ _
 |cons s rest ih =>
  intro pre h
  rw [aE]
  have hlen:pre.length+1<=100000:=by rw [h] at hn; simp at hn; omega
  have hw:IntKind.i64.wrap ((pre.length:Int)+1)=((pre++[s]).length:Int):=by rw [bw (by omega) (by omega)]; exact bp
  have hi:=ih (pre++[s]) (by rw [h]; simp)
  have hl:(pre++[s]).getLast?.map bq.aj=some s.aj:=by simp
  rw [hl] at hi
  simp only [List.length_append,List.length_cons,List.length_nil,Nat.zero_add] at hi
  have h15:decide (15<s.aj)=decide (16<=s.aj):=by rw [Bool.eq_iff_iff]; simp; omega
  rcases List.eq_nil_or_concat pre with h0|⟨L,q,hq⟩
  ·have hp:decide ((0:Int)<(pre.length:Int))=false:=by rw [h0]; rfl
   have hg:pre.getLast?.map bq.aj=none:=by rw [h0]; rfl
   rw [hg,iH]
   cases h1:decide (s.aj<0)
   ·cases h2:decide (16<=s.aj)
    ·cases h3:decide (s.seq<1)
     ·cases h4:decide (1099511627776<s.seq)
      ·simp only [Cn,aY h,aW h,hp,h1,h2,h3,h4,h15,hw,bK,bU,ba,Bool.or_true,Bool.true_or,Bool.or_false,Bool.false_or,if_true,Bool.false_eq_true,if_false,EW,simprocAttr]
       exact hi
      ·simp only [Cn,aY h,aW h,hp,h1,h2,h3,h4,h15,hw,bK,bU,ba,Bool.or_true,Bool.true_or,Bool.or_false,Bool.false_or,if_true,Bool.false_eq_true,if_false,EW,simprocAttr]
       exact hr _
     ·simp only [Cn,aY h,aW h,hp,h1,h2,h3,h15,hw,bK,bU,ba,Bool.or_true,Bool.true_or,Bool.or_false,Bool.false_or,if_true,Bool.false_eq_true,if_false,EW,simprocAttr]
      exact hr _
    ·simp only [Cn,aY h,aW h,hp,h1,h2,h15,hw,bK,bU,ba,Bool.or_true,Bool.true_or,Bool.or_false,Bool.false_or,if_true,Bool.false_eq_true,if_false,EW,simprocAttr]
     exact hr _
   ·simp only [Cn,aY h,aW h,hp,h1,h15,hw,bK,bU,ba,Bool.or_true,Bool.true_or,Bool.or_false,Bool.false_or,if_true,Bool.false_eq_true,if_false,EW,simprocAttr]
    exact hr _
  ·have hp:decide ((0:Int)<(pre.length:Int))=true:=by rw [hq]; simp
   have hg:pre.getLast?.map bq.aj=some q.aj:=by rw [hq]; simp
   have hw1:IntKind.i64.wrap ((pre.length:Int)-1)=(L.length:Int):=by rw [bw (by omega) (by omega),hq]; simp
   have hq':xs=L++q::s::rest:=by rw [h,hq]; simp
   rw [hg,iH]
   obtain ⟨b5,h5⟩:∃b,decide (s.aj<=q.aj)=b:=⟨_,rfl⟩
   cases h1:decide (s.aj<0)
   ·cases h2:decide (16<=s.aj)
    ·cases h3:decide (s.seq<1)
     ·cases h4:decide (1099511627776<s.seq)
      ·cases b5
       ·simp only [Cn,aY h,aW h,hp,hw1,aY hq',aW hq',h1,h2,h3,h4,h5,h15,hw,bK,bU,ba,Bool.or_true,Bool.true_or,Bool.or_false,Bool.false_or,if_true,Bool.false_eq_true,if_false,EW,simprocAttr]
        exact hi
       ·simp only [Cn,aY h,aW h,hp,hw1,aY hq',aW hq',h1,h2,h3,h4,h5,h15,hw,bK,bU,ba,Bool.or_true,Bool.true_or,Bool.or_false,Bool.false_or,if_true,Bool.false_eq_true,if_false,EW,simprocAttr]
        exact hr _
      ·simp only [Cn,aY h,aW h,hp,hw1,aY hq',aW hq',h1,h2,h3,h4,h15,hw,bK,bU,ba,Bool.or_true,Bool.true_or,Bool.or_false,Bool.false_or,if_true,Bool.false_eq_true,if_false,EW,simprocAttr]
       exact hr _
     ·simp only [Cn,aY h,aW h,hp,hw1,aY hq',aW hq',h1,h2,h3,h15,hw,bK,bU,ba,Bool.or_true,Bool.true_or,Bool.or_false,Bool.false_or,if_true,Bool.false_eq_true,if_false,EW,simprocAttr]
      exact hr _
    ·simp only [Cn,aY h,aW h,hp,hw1,aY hq',aW hq',h1,h2,h15,hw,bK,bU,ba,Bool.or_true,Bool.true_or,Bool.or_false,Bool.false_or,if_true,Bool.false_eq_true,if_false,EW,simprocAttr]
     exact hr _
   ·simp only [Cn,aY h,aW h,hp,hw1,aY hq',aW hq',h1,h15,hw,bK,bU,ba,Bool.or_true,Bool.true_or,Bool.or_false,Bool.false_or,if_true,Bool.false_eq_true,if_false,EW,simprocAttr]
    exact hr _
def c22 (xs:List bq) (hn:xs.length<=100000):af aV 22 [bt xs] []=some (.bool (ry xs),[]):=by
 refine aq rfl rfl rfl ?_
 simp only [UT,Cn,EW,simprocAttr]
 exact Xx hn (R:=fun z=>some (.bool z,[])) (fun e M=>by simp only [Cn,EW,simprocAttr]) (fun M=>by simp only [Cn,EW,simprocAttr]) xs [] rfl
def k22 (xs:List bq) (hn:xs.length<=100000) (M:ai):an (af aV) 22 [bt xs] M=some (.bool (ry xs),M):=cO (c22 xs hn) M
end
section
attribute [local irreducible] cT cR gz gK bR kr af an aZ aK
def ab5 {xs:List cC} (hn:xs.length<=40) (ho:∀c,c∈xs->qj c.op) {rv:ae} (hrb:∀B M,rv.gu B M=rv) {k:List K} {R:Option (ae×ai)}
  (hx:∀e M,kr (af eM) [.tmp 4] 0 k ⟨.exit 0,(0,eh xs)::(1,rv)::(5,.bool true)::e,M⟩=R) :
  ∀(l pre:List cC) (f:aa) (s:List bq) (v:ae),xs=pre++l->iQ (200*pre.length) f s->Sv v s ->
   cT (af eM) [.tmp 4] 0 k (.loop [0,1,5,7,8,9] abX) [(0,eh xs),(1,rv),(5,.bool true),(7,.ptr 0 0),(8,v),(9,.int .i64 pre.length)] [.cells (bB f)]=R:=by
 intro l
 induction l with
 |nil =>
  intro pre f s v h _ _
  rw [aE]
  simp only [E3,bZ h,EW,simprocAttr]
  exact hx _ _
 |cons c rest ih =>
  intro pre f s v h hst hv
  rw [aE]
  have hi:=aW h
  have hil:=aY h
  have hlen:pre.length+1<=40:=by rw [h] at hn; simp at hn; omega
  have hw:IntKind.i64.wrap ((pre.length:Int)+1)=((pre++[c]).length:Int):=by rw [bw (by omega) (by omega)]; exact bp
  have hoc:=ho c (by rw [h]; simp)
  have q12:=fun M=>Ab hst (by omega) c.aj c.seq c.op hoc M
  obtain ⟨hst',ha⟩:=hst.once (by omega) c.aj c.seq c.op
  have hsl:=hst.len
  have q13:=fun M=>lE (cO (c13 s c.aj c.seq (by omega) hst.seq) M)
  have q14:=fun M=>lE (Lv s c.aj (by omega) M)
  have i1:=fun f' s' v'=>ih (pre++[c]) f' s' v' (by rw [h]; simp)
  simp only [List.length_append,List.length_cons,List.length_nil,Nat.zero_add] at i1
  have hk:200*pre.length+200=200*(pre.length+1):=by omega
  rw [hk] at hst'
  rcases fS f hst.fh c.aj c.seq c.op with ⟨h1,h2⟩|⟨h1,h2,h3⟩|⟨h1,h2,h3⟩
  ·have hb:(gU c.aj c.seq (bJ s c.aj) != 0)=true:=by simpa using h1
   rw [h2] at q12 hst'
   have i1:=i1 f s v hst' hv
   have q15:=fun M=>lE (k15 s s (by omega) hst.nj M)
   have q16:=fun M=>lE (Qc (kW (gU c.aj c.seq (bJ s c.aj))) (kW (gU c.aj c.seq (bJ s c.aj))) (sa _) M)
   have q17:=fun M=>lE (cO (Ti f f hst.fb.ok) M)
   rw [decide_eq_true rfl] at q15 q16 q17
   generalize gU c.aj c.seq (bJ s c.aj)=e at q12 q13 q16 hb
   rcases hv with rfl|⟨rfl,rfl⟩<;>simp only [bt,fC,cY,bB,ba,cz,kW,List.map_nil] at q12 q13 q14 q15 q16 q17 i1 <;>
   (simp only [E3,hil,hi,hrb,q12,q13,q14,q15,q16,q17,hb,hw,rH,eB,bO,cz,bB,List.map_nil,EW,simprocAttr]
    exact i1)
  ·obtain ⟨m1,m2,m3,m4,m5,m6⟩:=ow h1
   rw [h3] at q12 hst' ha
   obtain ⟨j,p,g1,g2,g3,g4,g5⟩:=Ex (l:=s) (c:=c.aj) (by omega)
   have hj:=(List.getElem?_eq_some_iff.1 g2).1
   have hjl:((j:Int)<(s.length:Int))=True:=by simp only [eq_iff_iff,iff_true]; omega
   have hj0:((j:Int)<0)=False:=by simp only [eq_iff_iff,iff_false]; omega
   have hse:v=bt s:=hv.is (by rintro rfl; cases g2)
   have i1:=i1 f s v hst' hv
   subst hse
   have q15:=fun M=>lE (k15 s s (by omega) hst.nj M)
   have q18:=fun M=>lE (k18 s c.aj (by omega) M)
   rw [g1] at q18
   have hb:(bJ s c.aj==c.seq)=true:=by rw [<-h2]; exact beq_self_eq_true _
   rw [<-g5] at q12 ha
   have q16:=fun M=>lE (Qc p.nj p.nj ha M)
   have q17:=fun M=>lE (cO (Ti f f hst.fb.ok) M)
   rw [decide_eq_true rfl] at q15 q16 q17
   rw [h1] at q13
   simp only [bB,ba,cz] at q12 q16 q17
   simp only [E3,hil,hi,hrb,q12,q13,q14,q15,q16,q17,q18,hb,hj0,hjl,g2,hw,rH,eB,bO,cz,bB,ba,bK,bU,EW,simprocAttr]
   exact i1
  ·have hb:(bJ s c.aj==c.seq)=false:=by simp; exact fun g=>h2 g.symm
   have q19:=fun M=>k19 f (jV c.op c.aj) hst.fb.ok ⟨hoc.path,hoc.ng,hoc.data⟩ M
   have q20:=fun M=>lE (cO (c20 s c.aj c.seq (jB f (jV c.op c.aj)).2 (by omega)) M)
   rw [h3] at q12 hst' ha
   simp only at q12 hst' ha
   generalize jQ s c.aj c.seq (jB f (jV c.op c.aj)).2=S at q12 q20 hst'
   generalize jB f (jV c.op c.aj)=X at q12 q19 q20 hst' ha
   have hSl:=hst'.len
   have i1:=i1 _ _ _ hst' (sv _)
   have q15:=fun M=>lE (k15 S S (by omega) hst'.nj M)
   have q16:=fun M=>lE (Qc X.2 X.2 ha M)
   have q17:=fun M=>lE (cO (Ti X.1 X.1 hst'.fb.ok) M)
   have q21:=fun M=>lE (YX S (by omega) M)
   rw [hst'.right] at q21
   rw [h1] at q13
   rw [decide_eq_true rfl] at q15 q16 q17
   rcases hv with rfl|⟨rfl,rfl⟩<;>simp only [bt,jV,bB,ba,cz,List.map_nil] at q12 q13 q14 q16 q17 q19 q20 i1 <;>
   (simp only [E3,hil,hi,hrb,q12,q13,q14,q15,q16,q17,q19,q20,q21,hb,bne_self_eq_false,hw,rH,eB,bO,cz,bB,ba,EW,simprocAttr]
    exact i1)
def M4 (xs:List cC) (raw:List bq):af eM 3 [eh xs,bt raw] []=some (.bool true,[]):=by
 refine aq rfl rfl rfl ?_
 have q9:=fun M=>eH c9 rfl rfl rfl rfl rfl M
 have q10:=fun M=>lE (YW xs M)
 have q11:=fun M=>lE (Vy M)
 cases hg:lR xs<;>rw [hg] at q10
 rotate_left
 ·simp only [fn3,E3,q9,q10,EW,simprocAttr]
 cases hr:decide (40<(raw.length:Int))<;>simp only [fn3,E3,q9,q10,q11,hr,bB,EW,simprocAttr]
 have hr:raw.length<=100000:=by simp at hr; omega
 obtain ⟨hn,ho⟩:=nD hg
 have hl:=fun {k R} hx=>ab5 hn ho (rv:=bt raw) (fun _ _=>rfl) (k:=k) (R:=R) hx xs [] f0 [] (.slice .c0 []) rfl RE Y2
 simp only [bB] at hl
 refine hl (fun e M=>?_)
 have q21:=fun M=>lE (YX raw hr M)
 have q22:=fun M=>lE (k22 raw hr M)
 simp only [E3,q21,q22,beq_self_eq_true,EW,simprocAttr]
end
end Go.Proofs.YtdbadpnkhaepnaaGreatDoor
