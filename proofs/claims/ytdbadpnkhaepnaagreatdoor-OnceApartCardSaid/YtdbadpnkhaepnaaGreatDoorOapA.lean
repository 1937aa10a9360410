import Derived.Test.YtdbadpnkhaepnaaGreatDoorOnbF
set_option linter.unusedSimpArgs false
set_option linter.unusedVariables false
set_option linter.unusedSectionVars false
set_option linter.defProp false
namespace Go.Proofs.YtdbadpnkhaepnaaGreatDoor
open Go Go.Abs
def yQ (s:Bytes):(cD s).2<120:=by unfold cD; (repeat' split)<;>simp
def vo (l:List Node) (i:Int):(dj l i).2<120:=by unfold dj; (repeat' split)<;>simp
def sr (l:List Node) (i:Int) (s:Bytes):(cA l i s).2<120:=by unfold cA; (repeat' split)<;>first|exact vo _ _|simp
def yV (l:List Node):∀(p:List Bytes) (i:Int),(oE l p i).2<120
 | [],i=>by simp [oE]
 |s::r,i=>by
  rw [oE]; split
  ·exact sr _ _ _
  ·exact yV l r _
def kR (t:Tree) (p:Bytes):(dZ t p).2<120:=by unfold dZ; split; exact yQ _; exact yV _ _ _
def MX (s:Bytes):(jn s).2.2<120:=by unfold jn; split<;>simp
def sP (t:Tree) (p:Bytes):(fx t p).2.2<120:=by unfold fx; (repeat' split)<;>first|exact MX _|exact kR _ _|simp
def uN (t:Tree) (i:Int) (s:Bytes):ir t i s<120:=by unfold ir; (repeat' split)<;>first|exact vo _ _|simp
def Pj (t:Tree) (i:Int) (s:Bytes) (k:Int):(o8 t i s k).2.2<120:=by unfold o8; (repeat' split)<;>first|exact uN _ _ _|simp
def Xp (t:Tree) (i k:Int) (s:Bytes):(BC t i k s).2<120:=by unfold BC; (repeat' split)<;>first|exact uN _ _ _|simp
def YH (t:Tree) (i:Int) (s:Bytes):(Cc t i s).2.2<120:=by unfold Cc; (repeat' split)<;>first|exact sr _ _ _|simp
def FW (l:List Node) (k y:Int):ot l k y<120:=by unfold ot; (repeat' split)<;>simp
def XO (t:Tree) (i:Int) (s:Bytes) (k:Int) (n:Bytes):(xk t i s k n).2.2<120:=by unfold xk; (repeat' split)<;>first|exact sr _ _ _|exact vo _ _|exact FW _ _ _|simp
def kg (f:aa) (t:Tree) (q:List bE):(dE f t q).2<120:=by unfold dE; (repeat' split)<;>simp
def NW (t:Tree) (l:List cf) (c h i:Int):(mM t l c h i).2<120:=by unfold mM; (repeat' split)<;>simp
def F5 (t:Tree) (l:List cf) (c h:Int):(fP t l c h).2.2<120:=by unfold fP; (repeat' split)<;>simp
def Hh (t:Tree) (l:List bE) (i n b:Int):(kZ t l i n b).2<120:=by unfold kZ; (repeat' split)<;>simp
def OM (s:eK) (i:Int):(takeN s i).2.2<120:=by unfold takeN; (repeat' split)<;>simp
def M8 (t:Tree) (i z m:Int):(mJ t i z m).2.2<120:=by unfold mJ; (repeat' split)<;>first|exact vo _ _|simp
def P8 (l:List cf) (c h:Int):(wy l c h).2<120:=by unfold wy; split<;>simp
def tH (f:aa) (o:dL):(dg f o).2<120:=by unfold dg; (repeat' split)<;>first|exact P8 _ _ _|simp
def Ue (s:eK) (i:Int):(mq s i).2.2<120:=by unfold mq; split<;>simp
def yF (m:AM Node):∀(p:List Bytes) (o:Option Node),(di m p o).2<120
 | [],o=>by simp [di]
 |s::r,o=>by
  rw [di]; split
  ·simp
  split
  ·simp
  ·exact yF m r _
def JI (s:eK) (i:Int):(qy s i).2<120:=by unfold qy; split<;>simp
def Rq (t:Tree) (i:Int) (d:Bytes):(oC t i d).2<120:=by unfold oC; (repeat' split)<;>simp
def mo (r:Wk):Prop:=r.2.1.err=0/\r.2.2<120
def wu (f:aa) (o:dL) (i:Int) (d:Bytes):mo (iU f o i d):=by
 unfold iU; dsimp only; (repeat' split)<;>refine ⟨rfl,?_⟩<;>(try dsimp only)<;>first|with_reducible exact Rq _ _ _|with_reducible exact kg _ _ _|decide
def DD (f:aa) (o:dL):mo (qG f o):=by unfold qG; split<;>refine ⟨rfl,?_⟩<;>(try dsimp only)<;>first|with_reducible exact kR _ _|decide
def DE (f:aa) (o:dL):mo (qH f o):=by unfold qH; dsimp only; (repeat' split)<;>refine ⟨rfl,?_⟩<;>(try dsimp only)<;>first|with_reducible exact sP _ _|with_reducible exact Pj _ _ _ _|with_reducible exact kg _ _ _|decide
def DB (f:aa) (o:dL):mo (qF f o):=by unfold qF; dsimp only; (repeat' split)<;>refine ⟨rfl,?_⟩<;>(try dsimp only)<;>first|with_reducible exact kR _ _|with_reducible exact sP _ _|with_reducible exact Xp _ _ _ _|with_reducible exact kg _ _ _|decide
def z8 (f:aa) (o:dL):mo (kv f o):=by unfold kv; dsimp only; (repeat' split)<;>refine ⟨rfl,?_⟩<;>(try dsimp only)<;>first|with_reducible exact sP _ _|with_reducible exact YH _ _ _|with_reducible exact kg _ _ _|decide
def zU (f:aa) (o:dL):mo (ko f o):=by unfold ko; dsimp only; (repeat' split)<;>refine ⟨rfl,?_⟩<;>(try dsimp only)<;>first|with_reducible exact sP _ _|with_reducible exact sr _ _ _|with_reducible exact XO _ _ _ _ _|with_reducible exact kg _ _ _|decide
def DC (f:aa) (o:dL):mo (uU f o):=by unfold uU; dsimp only; (repeat' split)<;>refine ⟨rfl,?_⟩<;>(try dsimp only)<;>first|with_reducible exact kR _ _|with_reducible exact M8 _ _ _ _|decide
def D2 (f:aa) (o:dL):mo (qM f o):=by unfold qM; dsimp only; (repeat' split)<;>refine ⟨rfl,?_⟩<;>(try dsimp only)<;>first|with_reducible exact kR _ _|decide
def DN (f:aa) (o:dL):mo (qL f o):=by unfold qL; dsimp only; (repeat' split)<;>refine ⟨rfl,?_⟩<;>(try dsimp only)<;>first|with_reducible exact kR _ _|with_reducible exact NW _ _ _ _ _|decide
def AP (f:aa) (o:dL):mo (mU f o):=by unfold mU; dsimp only; (repeat' split)<;>refine ⟨rfl,?_⟩<;>(try dsimp only)<;>first|with_reducible exact F5 _ _ _ _|decide
def DV (f:aa) (o:dL):mo (u6 f o):=by unfold u6; (repeat' split)<;>refine ⟨rfl,?_⟩<;>(try dsimp only)<;>first|with_reducible exact tH _ _|decide
def Cf (f:aa) (o:dL):mo (nb f o):=by unfold nb; (repeat' split)<;>first|with_reducible exact wu _ _ _ _|exact ⟨rfl,tH _ _⟩|exact ⟨rfl,by dsimp only; decide⟩
def F8 (f:aa) (o:dL):mo (xt f o):=by unfold xt; split<;>first|with_reducible exact wu _ _ _ _|exact ⟨rfl,tH _ _⟩
def BB (f:aa) (o:dL):mo (mZ f o):=by unfold mZ; dsimp only; (repeat' split)<;>refine ⟨rfl,?_⟩<;>(try dsimp only)<;>first|with_reducible exact kR _ _|with_reducible exact Hh _ _ _ _ _|with_reducible exact kg _ _ _|decide
def D6 (f:aa) (o:dL):mo (qN f o):=by unfold qN; dsimp only; (repeat' split)<;>refine ⟨rfl,?_⟩<;>(try dsimp only)<;>first|with_reducible exact kR _ _|with_reducible exact OM _ _|decide
def DR (f:aa) (o:dL):mo (uX f o):=by unfold uX; dsimp only; (repeat' split)<;>refine ⟨rfl,?_⟩<;>(try dsimp only)<;>first|with_reducible exact Ue _ _|with_reducible exact yQ _|with_reducible exact yF _ _ _|decide
def C0 (f:aa) (o:dL):mo (qw f o):=by unfold qw; dsimp only; (repeat' split)<;>refine ⟨rfl,?_⟩<;>(try dsimp only)<;>first|with_reducible exact JI _ _|decide
def AU (f:aa) (o:dL):mo (pd f o):=by unfold pd; exact ⟨rfl,by dsimp only; decide⟩
def eY {c:Prop} [Decidable c] {a b:Wk} (ha:mo a) (hb:mo b):mo (if c then a else b):=by split<;>assumption
def Eb (K:Nat) (f:aa) (o:dL):mo (jY K f o):=eY (DD f o) (eY (DE f o) (eY (DB f o) (eY (z8 f o) (eY (zU f o) (eY (DC f o) (eY (D2 f o) (eY (DN f o) (eY (AP f o) (eY (DV f o) (eY (Cf f o) (eY (F8 f o) (eY (BB f o) (eY (D6 f o) (eY (DR f o) (eY (C0 f o) (eY (AU f o) ⟨rfl,by dsimp only; decide⟩))))))))))))))))
def zp (f:aa) (o:dL):(jB f o).2.err<120:=by
 unfold jB
 split
 ·simp [kW]
 ·rename_i K _
  have h:=Eb K f o
  split
  ·split
   ·show (jY K f o).2.1.err<120
    rw [h.1]; omega
   ·exact h.2
  ·simp [kW]
def YV (e:Int):Bool:=if (e==120)=true then true else e==121
def tQ {e:Int} (h:e<120):YV e=false:=by
 unfold YV
 have h1:(e==120)=false:=by simp; omega
 have h2:(e==121)=false:=by simp; omega
 rw [h1,h2]; rfl
def rE (l:List bq):Prop:=∀p,p∈l->p.nj.err<120
def rE.nj {l:List bq} (h:rE l) (c:Int):(sX l c).err<120:=by
 unfold sX
 split
 ·rename_i s hs; exact h s (List.mem_of_find?_eq_some hs)
 ·decide
def rE.once {f:aa} {l:List bq} (ha:ky l) (h:rE l) (c s:Int) (o:dL):rE (cd f l c s o).2.1:=by
 rcases fS f ha c s o with ⟨_,h2⟩|⟨_,_,h2⟩|⟨_,_,h2⟩<;>rw [h2]
 ·exact h
 ·exact h
 ·intro p hp
  rcases qg ha hp with rfl|hp
  ·exact zp _ _
  ·exact h p hp
def Dn {f:aa} {l:List bq} (ha:ky l) {c d:Int} (s:Int) (o:dL) (hd:d≠c):bJ (cd f l c s o).2.1 d=bJ l d:=by
 rcases fS f ha c s o with ⟨_,h2⟩|⟨_,_,h2⟩|⟨_,_,h2⟩<;>rw [h2]
 exact (kb ha _ _ _ _).trans (if_neg hd)
def apart {f g:aa} {l m:List bq} (hl:ky l) (hm:ky m) (al:rE l) (am:rE m) {c:Int} (s:Int) (o:dL) (he:bJ l c=bJ m c) :
  bJ (cd f l c s o).2.1 c=bJ (cd g m c s o).2.1 c/\YV (cd f l c s o).2.2.err=YV (cd g m c s o).2.2.err/\(YV (cd f l c s o).2.2.err=true->(cd f l c s o).2.2.err=(cd g m c s o).2.2.err):=by
 rcases fS f hl c s o with ⟨h1,h2⟩|⟨h1,h3,h2⟩|⟨h1,h3,h2⟩<;>rcases fS g hm c s o with ⟨g1,g2⟩|⟨g1,g3,g2⟩|⟨g1,g3,g2⟩<;>rw [he] at h1
 all_goals try exact absurd g1 h1
 all_goals try exact absurd h1 g1
 ·rw [h2,g2]; refine ⟨he,?_,fun _=>?_⟩<;>simp only [he]
 ·rw [h2,g2]
  refine ⟨he,?_,?_⟩
  ·rw [tQ (al.nj c),tQ (am.nj c)]
  ·intro h; rw [tQ (al.nj c)] at h; cases h
 ·exact absurd (h3.trans he) g3
 ·exact absurd (g3.trans he.symm) h3
 ·rw [h2,g2]
  refine ⟨?_,?_,?_⟩
  ·rw [kb hl,kb hm,if_pos rfl,if_pos rfl]
  ·simp only; rw [tQ (zp _ _),tQ (zp _ _)]
  ·intro h; simp only at h; rw [tQ (zp _ _)] at h; cases h
def FD (c:Int) (l:List bq):Prop:=∀p,p∈l->p.aj=c
def FD.once {f:aa} {l:List bq} (ha:ky l) {c:Int} (h:FD c l) (s:Int) (o:dL):FD c (cd f l c s o).2.1:=by
 rcases fS f ha c s o with ⟨_,h2⟩|⟨_,_,h2⟩|⟨_,_,h2⟩<;>rw [h2]
 ·exact h
 ·exact h
 ·intro p hp
  rcases qg ha hp with rfl|hp
  ·rfl
  ·exact h p hp
def FD.len {c:Int} {l:List bq} (ha:ky l) (h:FD c l):l.length<=1:=by
 match l,ha,h with
 | [],_,_=>simp
 | [_],_,_=>simp
 |a::b::r,ha,h =>
  have h1:=(List.pairwise_cons.1 ha).1 b (by simp)
  have h2:=h a (by simp)
  have h3:=h b (by simp)
  omega
section
attribute [local irreducible] cT cR gz gK bR kr af an aZ aK
set_option maxHeartbeats 4000000 in
def ab8 {xs:List cC} (hn:xs.length<=40) (ho:∀c,c∈xs->qj c.op) {who:Int} {k:List K} {R:Option (ae×ai)}
  (hx:∀(m:List bq) (v u:ae) e M,Sv u m->m.length<=1->kr (af eM) [.tmp 4] 0 k ⟨.exit 0,(0,eh xs)::(5,.bool true)::(7,.int .i64 who)::(8,.ptr 0 0)::(9,.ptr 1 0)::(10,v)::(11,u)::e,M⟩=R) :
  ∀(l pre:List cC) (f g:aa) (s m:List bq) (v u:ae),xs=pre++l->iQ (200*pre.length) f s->iQ (200*pre.length) g m->Sv v s->Sv u m->rE s->rE m->FD who m->bJ s who=bJ m who ->
   cT (af eM) [.tmp 4] 0 k (.loop [0,5,7,8,9,10,11,12] ab2) [(0,eh xs),(5,.bool true),(7,.int .i64 who),(8,.ptr 0 0),(9,.ptr 1 0),(10,v),(11,u),(12,.int .i64 pre.length)] [.cells (bB f),.cells (bB g)]=R:=by
 intro l
 induction l with
 |nil =>
  intro pre f g s m v u h _ hst2 _ hu _ _ hown _
  rw [aE]
  simp only [E7,bZ h,EW,simprocAttr]
  exact hx _ _ _ _ _ hu (hown.len hst2.fh)
 |cons c rest ih =>
  intro pre f g s m v u h hst hst2 hv hu al am hown hlast
  rw [aE]
  have hi:=aW h
  have hil:=aY h
  have hlen:pre.length+1<=40:=by rw [h] at hn; simp at hn; omega
  have hw:IntKind.i64.wrap ((pre.length:Int)+1)=((pre++[c]).length:Int):=by rw [bw (by omega) (by omega)]; exact bp
  have hoc:=ho c (by rw [h]; simp)
  have q12:=fun M=>Ab hst (by omega) c.aj c.seq c.op hoc M
  obtain ⟨hst',_⟩:=hst.once (by omega) c.aj c.seq c.op
  have hk:200*pre.length+200=200*(pre.length+1):=by omega
  rw [hk] at hst'
  have hSl:=hst'.len
  have al':=al.once (f:=f) hst.fh c.aj c.seq c.op
  have i1:=fun f' g' s' m' v' u'=>ih (pre++[c]) f' g' s' m' v' u' (by rw [h]; simp)
  simp only [List.length_append,List.length_cons,List.length_nil,Nat.zero_add] at i1
  cases hc:c.aj==who
  ·have hne:who≠c.aj:=by simp at hc; exact fun g=>hc g.symm
   have hlo:=Dn (f:=f) hst.fh c.seq c.op hne
   have i1:=i1 _ g _ m _ u hst' (hst2.mono (by omega)) (sv _) hu al' am hown (hlo.trans hlast)
   generalize cd f s c.aj c.seq c.op=X at q12 i1
   rcases hv with rfl|⟨rfl,rfl⟩<;>rcases hu with rfl|⟨rfl,rfl⟩<;>simp only [bt,bB,ba,cz,List.map_nil] at q12 i1 ⊢ <;>
   (simp only [E7,hil,hi,q12,hc,hw,rH,eB,bO,cz,EW,simprocAttr]
    exact i1)
  ·obtain rfl:c.aj=who:=by simpa using hc
   have p12:=fun M=>Ab hst2 (by omega) c.aj c.seq c.op hoc M
   obtain ⟨hst2',_⟩:=hst2.once (by omega) c.aj c.seq c.op
   rw [hk] at hst2'
   have hSl2:=hst2'.len
   have am':=am.once (f:=g) hst2.fh c.aj c.seq c.op
   have hown':=hown.once (f:=g) hst2.fh c.seq c.op
   obtain ⟨a1,a2,a3⟩:=apart (f:=f) (g:=g) hst.fh hst2.fh al am c.seq c.op hlast
   have i1:=i1 _ _ _ _ _ _ hst' hst2' (sv _) (sv _) al' am' hown' a1
   have q14:=fun M=>lE (Lv (cd f s c.aj c.seq c.op).2.1 c.aj (by omega) M)
   have p14:=fun M=>lE (Lv (cd g m c.aj c.seq c.op).2.1 c.aj (by omega) M)
   have hne:(bJ (cd f s c.aj c.seq c.op).2.1 c.aj != bJ (cd g m c.aj c.seq c.op).2.1 c.aj)=false:=by rw [a1]; exact bne_self_eq_false _
   generalize cd f s c.aj c.seq c.op=X at q12 q14 i1 a2 a3 hne
   generalize cd g m c.aj c.seq c.op=Y at p12 p14 i1 a2 a3 hne
   unfold YV at a2 a3
   rcases hv with rfl|⟨rfl,rfl⟩<;>rcases hu with rfl|⟨rfl,rfl⟩<;>simp only [bt,bB,ba,cz,List.map_nil] at q12 p12 i1 ⊢ <;>
   cases b1:X.2.2.err==120<;>cases b2:X.2.2.err==121<;>cases b3:Y.2.2.err==120<;>cases b4:Y.2.2.err==121<;>simp only [b1,b2,b3,b4,if_true,if_false,Bool.false_eq_true] at a2 a3 <;>
    first
    |(exfalso; exact absurd a2 (by decide))
    |(have hx:(X.2.2.err != Y.2.2.err)=false:=by (rw [a3 trivial]; exact bne_self_eq_false _)
      simp only [E7,hil,hi,q12,p12,q14,p14,hc,hne,b1,b2,b3,b4,hx,hw,rH,eB,bO,cz,EW,simprocAttr]
      exact i1)
    |(simp only [E7,hil,hi,q12,p12,q14,p14,hc,hne,b1,b2,b3,b4,hw,rH,eB,bO,cz,EW,simprocAttr]
      exact i1)
def MZ (xs:List cC) (at':UInt8):af eM 7 [eh xs,jt at'] []=some (.bool true,[]):=by
 refine aq rfl rfl rfl ?_
 have q9:=fun M=>eH c9 rfl rfl rfl rfl rfl M
 have q10:=fun M=>lE (YW xs M)
 have q11:=fun M=>lE (Vy M)
 cases hg:lR xs<;>rw [hg] at q10
 rotate_left
 ·simp only [fn7,E7,q9,q10,EW,simprocAttr]
 cases h0:(xs.length:Int)==0
 rotate_left
 ·simp only [fn7,E7,q9,q10,h0,EW,simprocAttr]
 obtain ⟨hn,ho⟩:=nD hg
 have hpos:0<xs.length:=by simp at h0; exact List.length_pos_iff.2 h0
 have hm:=Nat.mod_lt at'.toNat hpos
 obtain ⟨x,hx⟩:∃x,xs[at'.toNat % xs.length]?=some x:=⟨_,List.getElem?_eq_getElem hm⟩
 have hu:=at'.toNat_lt
 have hw:IntKind.i64.wrap (at'.toNat:Int)=(at'.toNat:Int):=bw (by omega) (by omega)
 have ht:(at'.toNat:Int).tmod (xs.length:Int)=((at'.toNat % xs.length:Nat):Int):=rfl
 have hil:(((at'.toNat % xs.length:Nat):Int)<(xs.length:Int))=True:=by simp only [eq_iff_iff,iff_true]; omega
 have hlz:((xs.length:Int)=0)=False:=by simp only [eq_iff_iff,iff_false]; omega
 have hl:=fun {k R} he=>ab8 hn ho (who:=x.aj) (k:=k) (R:=R) he xs [] f0 f0 [] [] (.slice .c0 []) (.slice .c0 []) rfl RE RE Y2 Y2 (fun p hp=>by cases hp) (fun p hp=>by cases hp) (fun p hp=>by cases hp) rfl
 simp only [bB] at hl
 simp only [fn7,E7,q9,q10,q11,h0,hlz,jt,hw,ht,hil,hx,bB,rH,eB,bO,cz,EW,simprocAttr]
 refine hl (fun m v u e M hu hm1=>?_)
 have h1:((m.length:Int)<=1)=True:=by simp only [eq_iff_iff,iff_true]; omega
 rcases hu with rfl|⟨rfl,rfl⟩
 ·simp only [E7,h1,List.length_map,EW,simprocAttr]
 ·simp only [E7,List.length_nil,EW,simprocAttr]
end
end Go.Proofs.YtdbadpnkhaepnaaGreatDoor
