import Derived.Test.YtdbadpnkhaepnaaGreatDoorOnbF
set_option linter.unusedSimpArgs false
set_option linter.unusedVariables false
set_option linter.unusedSectionVars false
set_option linter.defProp false
namespace Go.Proofs.YtdbadpnkhaepnaaGreatDoor
open Go Go.Abs
def Hp (ds:List Bool) (b:Nat) (d:Bool):dG (ds.map ae.bool) b (putCells (.bool d) 0 [.bool true])=(ds.set b true).map ae.bool:=by
 have:putCells (.bool d) 0 [.bool true] = .bool true:=rfl
 rw [this,cF,List.map_set]
section
attribute [local irreducible] cT cR gz gK bR kr af an aZ aK
def ab7 {xs:List cC} (hn:xs.length<=40) (hpos:0<xs.length) (ho:∀c,c∈xs->qj c.op) {ps:Bytes} (hp:ps.length<=120) {k:List K} {R:Option (ae×ai)}
  (hx:∀(f:aa) (s:List bq) (v:ae) e M,iQ 24000 f s->Sv v s->kr (af eM) [.tmp 4] 0 k ⟨.exit 0,(0,eh xs)::(1,cY ps)::(5,.bool true)::(7,.ptr 0 0)::(8,.ptr 1 0)::(9,v)::e,M⟩=R) :
  ∀(l pre:Bytes) (f:aa) (s:List bq) (v:ae) (ds:List Bool),ps=pre++l->iQ (200*pre.length) f s->Sv v s->Flags xs ds s ->
   cT (af eM) [.tmp 4] 0 k (.loop [0,1,5,7,8,9,10,11] abZ) [(0,eh xs),(1,cY ps),(5,.bool true),(7,.ptr 0 0),(8,.ptr 1 0),(9,v),(10,.bu 2 0 1 0 xs.length),(11,.int .i64 pre.length)] [.cells (bB f),.cells (bB f),.arr 1 0 (ds.map ae.bool)]=R:=by
 intro l
 induction l with
 |nil =>
  intro pre f s v ds h hst hv _
  have hpl:pre.length<=120:=by rw [h] at hp; simpa using hp
  rw [aE]
  simp only [E5,bZ h,EW,simprocAttr]
  exact hx _ _ _ _ _ (hst.mono (by omega)) hv
 |cons p rest ih =>
  intro pre f s v ds h hst hv hf
  rw [aE]
  have hi:=aW h
  have hil:=aY h
  have hlen:pre.length+1<=120:=by rw [h] at hp; simp at hp; omega
  have hw:IntKind.i64.wrap ((pre.length:Int)+1)=((pre++[p]).length:Int):=by rw [bw (by omega) (by omega)]; exact bp
  have hm:=Nat.mod_lt p.toNat hpos
  have ht:(p.toNat:Int).tmod (xs.length:Int)=((p.toNat % xs.length:Nat):Int):=rfl
  have hu:=p.toNat_lt
  have hwp:IntKind.i64.wrap (p.toNat:Int)=(p.toNat:Int):=bw (by omega) (by omega)
  generalize p.toNat % xs.length=kk at hm ht
  have hkx:xs[kk]?=some xs[kk]:=List.getElem?_eq_getElem hm
  generalize xs[kk]=x at hkx
  have hkl:((kk:Int)<(xs.length:Int))=True:=by simp only [eq_iff_iff,iff_true]; omega
  have hkn:(kk<xs.length)=True:=by simp only [eq_iff_iff,iff_true]; omega
  have hlz:((xs.length:Int)=0)=False:=by simp only [eq_iff_iff,iff_false]; omega
  have hd:ds[kk]?=some (decide (iE xs (dp x.aj) kk<=bJ s (dp x.aj))):=hf.is kk x hkx
  generalize decide (iE xs (dp x.aj) kk<=bJ s (dp x.aj))=d at hd
  have hx4:=Fq x.aj
  have w2:IntKind.i64.wrap (x.aj.tmod 4+4)=x.aj.tmod 4+4:=bw (by omega) (by omega)
  have hoc:=ho x (List.mem_of_getElem? hkx)
  have q23:=Qh (c23 xs ds kk x (by omega) hf.len hkx (A := .cells (bB f)) (B := .cells (bB f)) (C := .cells (bO x)) (fun _ _=>rfl) (fun _ _=>rfl) (fun _ _=>rfl))
  have q12:=fun M=>Ab hst (by omega) (dp x.aj) (gy xs ds kk).1 x.op hoc M
  obtain ⟨hst',ha⟩:=hst.once (by omega) (dp x.aj) (gy xs ds kk).1 x.op
  have hk:200*pre.length+200=200*(pre.length+1):=by omega
  rw [hk] at hst'
  have i1:=fun f' s' v' ds'=>ih (pre++[p]) f' s' v' ds' (by rw [h]; simp)
  simp only [List.length_append,List.length_cons,List.length_nil,Nat.zero_add] at i1
  rcases Hb hst hn hf hkx with ⟨t1,t2,t3⟩|⟨t1,a,t2⟩
  ·have q19:=fun M=>k19 f (jV x.op (dp x.aj)) hst.fb.ok ⟨hoc.path,hoc.ng,hoc.data⟩ M
   rw [t2] at q12 hst' ha
   have i1:=i1 _ _ _ _ hst' (sv _) t3
   have q16:=fun b M=>lE (Qc _ b ha M)
   have q17:=fun b M=>lE (cO (Ti _ b hst'.fb.ok) M)
   simp only at q12 q16 q17 i1
   generalize jQ s (dp x.aj) (gy xs ds kk).1 (jB f (jV x.op (dp x.aj))).2=S at q12 i1
   generalize jB f (jV x.op (dp x.aj))=X at q12 q16 q17 q19 i1
   generalize gy xs ds kk=nt at q12 q23 t1
   obtain ⟨sq,tn⟩:=nt
   simp only at t1
   subst t1
   have q16:=fun M=>q16 X.2 M
   have q17:=fun M=>q17 X.1 M
   rw [decide_eq_true rfl] at q16 q17
   simp only [hf.len,bB,bO,cz] at q23
   rcases hv with rfl|⟨rfl,rfl⟩<;>simp only [bt,jV,dp,bB,ba,cz,List.map_nil] at q12 q16 q17 q19 i1 <;>
   (simp only [E5,hil,hi,q12,q16,q17,q19,q23,jt,hwp,ht,hkl,hkn,hkx,hd,hlz,w2,Hp,hw,rH,eB,bO,cz,bB,ba,List.length_map,hf.len,Nat.sub_zero,EW,simprocAttr]
    exact i1)
  ·rw [t2] at q12 hst'
   have i1:=i1 f s _ ds hst' (sv _) hf
   have q17:=fun M=>lE (cO (Ti f f hst.fb.ok) M)
   simp only at q12 i1
   generalize gy xs ds kk=nt at q12 q23 t1
   obtain ⟨sq,tn⟩:=nt
   simp only at t1
   subst t1
   rw [decide_eq_true rfl] at q17
   simp only [hf.len,bB,bO,cz] at q23
   rcases hv with rfl|⟨rfl,rfl⟩<;>simp only [bt,dp,bB,ba,cz,List.map_nil] at q12 q17 i1 <;>
   (simp only [E5,hil,hi,q12,q17,q23,jt,hwp,ht,hkl,hkn,hkx,hd,hlz,w2,hw,rH,eB,bO,cz,bB,ba,List.length_map,hf.len,Nat.sub_zero,EW,simprocAttr]
    exact i1)
def Qi (xs:List cC) (ps:Bytes):af eM 5 [eh xs,cY ps] []=some (.bool true,[]):=by
 refine aq rfl rfl rfl ?_
 have q9:=fun M=>eH c9 rfl rfl rfl rfl rfl M
 have q10:=fun M=>lE (YW xs M)
 have q11:=fun M=>lE (Vy M)
 cases hg:lR xs<;>rw [hg] at q10
 rotate_left
 ·simp only [YU,E5,q9,q10,EW,simprocAttr]
 cases h0:(xs.length:Int)==0
 rotate_left
 ·simp only [YU,E5,q9,q10,h0,EW,simprocAttr]
 cases h1:decide (120<(ps.length:Int))
 rotate_left
 ·simp only [YU,E5,q9,q10,h0,h1,EW,simprocAttr]
 obtain ⟨hn,ho⟩:=nD hg
 have hpos:0<xs.length:=by simp at h0; exact List.length_pos_iff.2 h0
 have hl:=fun {k R} he=>ab7 hn hpos ho (ps:=ps) (by simp at h1; omega) (k:=k) (R:=R) he ps [] f0 [] (.slice .c0 []) _ rfl RE Y2 (UJ xs)
 have r1:bP xs.length 8=True:=dv (by omega) (by omega)
 have h0':(0<=(xs.length:Int))=True:=by simp
 simp only [bB,List.map_replicate] at hl
 simp only [YU,E5,q9,q10,q11,h0,h1,r1,h0',bB,Int.toNat_natCast,ae.norm,EW,simprocAttr]
 refine hl (fun f s v e M hst hv=>?_)
 have hsl:=hst.len
 have q21:=fun M=>lE (YX s (by omega) M)
 rw [hst.right] at q21
 rcases hv with rfl|⟨rfl,rfl⟩
 ·simp only [E5,q21,EW,simprocAttr]
 ·simp only [bt,List.map_nil] at q21
  simp only [E5,q21,EW,simprocAttr]
end
end Go.Proofs.YtdbadpnkhaepnaaGreatDoor
