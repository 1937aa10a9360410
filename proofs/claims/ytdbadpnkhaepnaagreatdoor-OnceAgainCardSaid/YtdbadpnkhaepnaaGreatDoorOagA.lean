import Derived.Test.YtdbadpnkhaepnaaGreatDoorOnbF
set_option linter.unusedSimpArgs false
set_option linter.unusedVariables false
set_option linter.unusedSectionVars false
set_option linter.defProp false
namespace Go.Proofs.YtdbadpnkhaepnaaGreatDoor
open Go Go.Abs
section
attribute [local irreducible] cT cR gz gK bR kr af an aZ aK
set_option maxHeartbeats 1000000 in
def ab6 {xs:List cC} (hn:xs.length<=40) (ho:∀c,c∈xs->qj c.op) {kk:Nat} {x:cC} (hkx:xs[kk]?=some x) {k:List K} {R:Option (ae×ai)}
  (hx:∀(f:aa) (s:List bq) (v:ae) (told:oV) (b:Bool) (tc:List ae) e,iQ 8000 f s->Sv v s->jU told->(b=true->tc=ba told/\Kept s x.aj x.seq told) ->
   kr (af eM) [.tmp 4] 0 k ⟨.exit 0,(0,eh xs)::(5,.bool true)::(7,.ptr 0 0)::(8,v)::(9,.int .i64 kk)::(10,.ptr 1 0)::(11,.ptr 2 0)::(12,.bool b)::e,[.cells (bB f),.cells (bO x),.cells tc]⟩=R) :
  ∀(l pre:List cC) (f:aa) (s:List bq) (v:ae) (told:oV) (b:Bool) (tc:List ae),xs=pre++l->iQ (200*pre.length) f s->Sv v s->jU told->(tc=ba told\/(tc=lg/\b=false))->(b=true->kk<pre.length/\Kept s x.aj x.seq told) ->
   cT (af eM) [.tmp 4] 0 k (.loop [0,5,7,8,9,10,11,12,13] abY) [(0,eh xs),(5,.bool true),(7,.ptr 0 0),(8,v),(9,.int .i64 kk),(10,.ptr 1 0),(11,.ptr 2 0),(12,.bool b),(13,.int .i64 pre.length)] [.cells (bB f),.cells (bO x),.cells tc]=R:=by
 intro l
 induction l with
 |nil =>
  intro pre f s v told b tc h hst hv ht htc hb
  have hpl:pre.length<=40:=by rw [h] at hn; simpa using hn
  have:=fun e=>hx f s v told b tc e (hst.mono (by omega)) hv ht (fun g=>⟨htc.elim id (fun g'=>by rw [g'.2] at g; cases g),(hb g).2⟩)
  simp only [bB,bO,cz] at this ⊢
  rw [aE]
  simp only [E4,bZ h,EW,simprocAttr]
  exact this _
 |cons c rest ih =>
  intro pre f s v told b tc h hst hv ht htc hb
  rw [aE]
  have hi:=aW h
  have hil:=aY h
  have hlen:pre.length+1<=40:=by rw [h] at hn; simp at hn; omega
  have hw:IntKind.i64.wrap ((pre.length:Int)+1)=((pre++[c]).length:Int):=by rw [bw (by omega) (by omega)]; exact bp
  have q12:=fun M=>Ab hst (by omega) c.aj c.seq c.op (ho c (by rw [h]; simp)) M
  obtain ⟨hst',ha⟩:=hst.once (by omega) c.aj c.seq c.op
  have hsl:=hst.len
  have hSl:=hst'.len
  have q14:=fun M=>lE (Lv s c.aj (by omega) M)
  have q14':=fun M=>lE (Lv (cd f s c.aj c.seq c.op).2.1 c.aj (by omega) M)
  have hk:200*pre.length+200=200*(pre.length+1):=by omega
  rw [hk] at hst'
  have i1:=fun f' s' v' told' b' tc'=>ih (pre++[c]) f' s' v' told' b' tc' (by rw [h]; simp)
  have i0:=i1 f s v told b tc (by simpa using hst.mono (by omega)) hv ht htc (fun g=>by have:=hb g; exact ⟨by simp; omega,this.2⟩)
  simp only [List.length_append,List.length_cons,List.length_nil,Nat.zero_add] at i1 i0
  have I2:=i1 _ _ _ told b tc hst' (sv _) ht htc
  have I3:=fun b'=>i1 _ _ _ _ b' _ hst' (sv _) ha (.inl rfl)
  rcases Nat.lt_trichotomy pre.length kk with hlt|heq|hgt
  ·have hbf:b=false:=by
    cases b
    ·rfl
    ·have:=(hb rfl).1; omega
   subst hbf
   have i2:=I2 (fun g=>by cases g)
   have hg:((kk:Int)<(pre.length:Int))=False:=by simp only [eq_iff_iff,iff_false]; omega
   have he:((pre.length:Int)==(kk:Int))=false:=by simp; omega
   generalize cd f s c.aj c.seq c.op=X at q12 i2
   rcases hv with rfl|⟨rfl,rfl⟩<;>rcases htc with rfl|⟨rfl,_⟩<;>simp only [bt,bB,ba,lg,cz,bO,List.map_nil] at q12 q14 i2 ⊢ <;>
   (simp only [E4,hil,hi,q12,q14,hg,he,hw,rH,eB,bO,cz,EW,simprocAttr]
    exact i2)
  ·have hxc:c=x:=by rw [heq,hkx] at hi; injection hi with hi; exact hi.symm
   subst hxc
   have hbf:b=false:=by
    cases b
    ·rfl
    ·have:=(hb rfl).1; omega
   subst hbf
   have hg:((kk:Int)<(pre.length:Int))=False:=by simp only [eq_iff_iff,iff_false]; omega
   have he:((pre.length:Int)==(kk:Int))=true:=by simp; omega
   have hwl:=hst.wrap c.aj
   have kp:=fun a b=>Qe hst c.op (c:=c.aj) (s:=c.seq) a b
   generalize cd f s c.aj c.seq c.op=X at q12 q14' I3 kp
   cases b1:c.seq==bJ s c.aj+1
   ·have i3:=I3 false (fun g=>by cases g)
    rcases hv with rfl|⟨rfl,rfl⟩<;>rcases htc with rfl|⟨rfl,_⟩<;>simp only [bt,bB,ba,lg,cz,bO,List.map_nil] at q12 q14 i3 ⊢ <;>
    (simp only [E4,hil,hi,q12,q14,q14',hg,he,b1,hwl,hw,rH,eB,bO,cz,EW,simprocAttr]
     exact i3)
   ·cases b2:bJ X.2.1 c.aj==c.seq
    ·have i3:=I3 false (fun g=>by cases g)
     rcases hv with rfl|⟨rfl,rfl⟩<;>rcases htc with rfl|⟨rfl,_⟩<;>simp only [bt,bB,ba,lg,cz,bO,List.map_nil] at q12 q14 i3 ⊢ <;>
     (simp only [E4,hil,hi,q12,q14,q14',hg,he,b1,b2,hwl,hw,rH,eB,bO,cz,EW,simprocAttr]
      exact i3)
    ·have i3:=I3 true (fun _=>⟨by omega,kp (by simpa using b1) (by simpa using b2)⟩)
     rcases hv with rfl|⟨rfl,rfl⟩<;>rcases htc with rfl|⟨rfl,_⟩<;>simp only [bt,bB,ba,lg,cz,bO,List.map_nil] at q12 q14 i3 ⊢ <;>
     (simp only [E4,hil,hi,q12,q14,q14',hg,he,b1,b2,hwl,hw,rH,eB,bO,cz,EW,simprocAttr]
      exact i3)
  ·have hg:((kk:Int)<(pre.length:Int))=True:=by simp only [eq_iff_iff,iff_true]; omega
   have he:((pre.length:Int)==(kk:Int))=false:=by simp; omega
   cases b1:c.aj==x.aj
   ·have i2:=I2 (fun g=>⟨by omega,(hb g).2.other hst.fh c.op (by simpa using b1)⟩)
    generalize cd f s c.aj c.seq c.op=X at q12 i2
    rcases hv with rfl|⟨rfl,rfl⟩<;>rcases htc with rfl|⟨rfl,_⟩<;>simp only [bt,bB,ba,lg,cz,bO,List.map_nil] at q12 q14 i2 ⊢ <;>
    (simp only [E4,hil,hi,q12,q14,hg,he,b1,hw,rH,eB,bO,cz,EW,simprocAttr]
     exact i2)
   ·rcases hv with rfl|⟨rfl,rfl⟩<;>rcases htc with rfl|⟨rfl,_⟩<;>simp only [bB,ba,lg,cz,bO] at i0 ⊢ <;>
    (simp only [E4,hil,hi,hg,b1,hw,rH,eB,bO,cz,EW,simprocAttr]
     exact i0)
def wS:dL:=⟨2,0,[47,111,116,104,101,114],[],1,0,0,[]⟩
def MY (xs:List cC) (at':UInt8):af eM 4 [eh xs,jt at'] []=some (.bool true,[]):=by
 refine aq rfl rfl rfl ?_
 have q9:=fun M=>eH c9 rfl rfl rfl rfl rfl M
 have q10:=fun M=>lE (YW xs M)
 have q11:=fun M=>lE (Vy M)
 cases hg:lR xs<;>rw [hg] at q10
 rotate_left
 ·simp only [fn4,E4,q9,q10,EW,simprocAttr]
 cases h0:(xs.length:Int)==0
 rotate_left
 ·simp only [fn4,E4,q9,q10,h0,EW,simprocAttr]
 obtain ⟨hn,ho⟩:=nD hg
 have hpos:0<xs.length:=by simp at h0; exact List.length_pos_iff.2 h0
 have hm:=Nat.mod_lt at'.toNat hpos
 obtain ⟨x,hx⟩:∃x,xs[at'.toNat % xs.length]?=some x:=⟨_,List.getElem?_eq_getElem hm⟩
 have hu:=at'.toNat_lt
 have hw:IntKind.i64.wrap (at'.toNat:Int)=(at'.toNat:Int):=bw (by omega) (by omega)
 have ht:(at'.toNat:Int).tmod (xs.length:Int)=((at'.toNat % xs.length:Nat):Int):=rfl
 have hil:(((at'.toNat % xs.length:Nat):Int)<(xs.length:Int))=True:=by simp only [eq_iff_iff,iff_true]; omega
 have hlz:((xs.length:Int)=0)=False:=by simp only [eq_iff_iff,iff_false]; omega
 have hl:=fun {k R} he=>ab6 hn ho hx (k:=k) (R:=R) he xs [] f0 [] (.slice .c0 []) ⟨0,0,0,0,0,[],[]⟩ false lg rfl RE Y2 (fB rfl rfl) (.inr ⟨rfl,rfl⟩) (fun g=>by cases g)
 simp only [bB,bO,cz,lg] at hl
 simp only [fn4,E4,q9,q10,q11,h0,hlz,jt,hw,ht,hil,hx,bB,rH,eB,bO,cz,EW,simprocAttr]
 refine hl (fun f s v told b tc e hst hv ht hb=>?_)
 cases b
 ·simp only [E4,EW,simprocAttr]
 obtain ⟨rfl,hk⟩:=hb rfl
 have hsl:=hst.len
 have q12:=fun M=>Ab hst (by omega) x.aj x.seq wS ⟨by simp [wS],by simp [wS],by simp [wS]⟩ M
 rw [hk.again hst.fh] at q12
 have q15:=fun M=>lE (k15 s s (by omega) hst.nj M)
 have q16:=fun M=>lE (Qc told told ht M)
 have q17:=fun M=>lE (cO (Ti f f hst.fb.ok) M)
 rw [decide_eq_true rfl] at q15 q16 q17
 rcases hv with rfl|⟨rfl,rfl⟩<;>simp only [wS,bt,fC,cY,bB,cz,ba,List.map_nil] at q12 q15 q16 q17 <;>
 simp only [E4,bB,ba,bO,cz,q12,q15,q16,q17,EW,simprocAttr]
end
end Go.Proofs.YtdbadpnkhaepnaaGreatDoor
