import Derived.Test.YtdbadpnkhaepnaaGreatDoorOnbF
set_option linter.unusedSimpArgs false
set_option linter.unusedVariables false
set_option linter.unusedSectionVars false
set_option linter.defProp false
namespace Go.Proofs.YtdbadpnkhaepnaaGreatDoor
open Go Go.Abs
section
attribute [local irreducible] cT cR gz gK bR kr af an aZ aK
def ab9 {xs:List cC} (hn:xs.length<=40) (ho:∀c,c∈xs->qj c.op) {x:cC} {n:Nat} {k:List K} {R:Option (ae×ai)}
  (hx:∀(f:aa) (s:List bq) (v:ae) e,iQ 8000 f s->Sv v s->kr (af eM) [.tmp 4] 0 k ⟨.exit 0,(0,eh xs)::(3,.ptr 0 0)::(5,.bool true)::(7,.ptr 2 0)::(8,v)::e,[.cells (bO x),.tick 10 n,.cells (bB f)]⟩=R) :
  ∀(l pre:List cC) (f:aa) (s:List bq) (v:ae),xs=pre++l->iQ (200*pre.length) f s->Sv v s ->
   cT (af eM) [.tmp 4] 0 k (.loop [0,3,5,7,8,9] ab3) [(0,eh xs),(3,.ptr 0 0),(5,.bool true),(7,.ptr 2 0),(8,v),(9,.int .i64 pre.length)] [.cells (bO x),.tick 10 n,.cells (bB f)]=R:=by
 intro l
 induction l with
 |nil =>
  intro pre f s v h hst hv
  have hpl:pre.length<=40:=by rw [h] at hn; simpa using hn
  rw [aE]
  simp only [E8,bZ h,EW,simprocAttr]
  exact hx _ _ _ _ (hst.mono (by omega)) hv
 |cons c rest ih =>
  intro pre f s v h hst hv
  rw [aE]
  have hi:=aW h
  have hil:=aY h
  have hlen:pre.length+1<=40:=by rw [h] at hn; simp at hn; omega
  have hw:IntKind.i64.wrap ((pre.length:Int)+1)=((pre++[c]).length:Int):=by rw [bw (by omega) (by omega)]; exact bp
  have q12:=fun M=>Ab hst (by omega) c.aj c.seq c.op (ho c (by rw [h]; simp)) M
  obtain ⟨hst',_⟩:=hst.once (by omega) c.aj c.seq c.op
  have hk:200*pre.length+200=200*(pre.length+1):=by omega
  rw [hk] at hst'
  have I1:=fun f' s' v'=>ih (pre++[c]) f' s' v' (by rw [h]; simp)
  simp only [List.length_append,List.length_cons,List.length_nil,Nat.zero_add] at I1
  have i1:=I1 _ _ _ hst' (sv _)
  generalize cd f s c.aj c.seq c.op=X at q12 i1
  rcases hv with rfl|⟨rfl,rfl⟩<;>simp only [bt,bB,ba,cz,bO,List.map_nil] at q12 i1 ⊢ <;>
  (simp only [E8,hil,hi,q12,hw,rH,eB,bO,cz,EW,simprocAttr]
   exact i1)
set_option maxHeartbeats 4000000 in
def Dp (xs:List cC) (x:cC) (hl:xs.length<=1048576):af eM 8 [eh xs,eB x] []=some (.bool true,[]):=by
 refine aq rfl rfl rfl ?_
 have q9:=fun M=>eH c9 rfl rfl rfl rfl rfl M
 have q10:=fun M=>lE (YW (xs++[x]) M)
 have q11:=fun M=>lE (Vy M)
 have r1:bP xs.length 112=True:=by unfold bP; simp only [eq_iff_iff,iff_true]; omega
 have r2:bP (xs.length+1) 112=True:=by unfold bP; simp only [eq_iff_iff,iff_true]; omega
 cases hg:lR (xs++[x])<;>rw [hg] at q10<;>simp only [eh,List.map_append,List.map_cons,List.map_nil,eB,bO,cz,cY] at q10
 rotate_left
 ·simp only [fn8,E8,q9,q10,r1,r2,rH,eB,bO,cz,EW,simprocAttr]
 obtain ⟨hn,ho⟩:=nD hg
 have hox:=ho x (by simp)
 have hl:=fun {k R} he=>ab9 (xs:=xs) (by simp at hn; omega) (fun c hc=>ho c (by simp [hc])) (x:=x) (n:=xs.length+1) (k:=k) (R:=R) he xs [] f0 [] (.slice .c0 []) rfl RE Y2
 simp only [bB,bO,cz] at hl
 simp only [fn8,E8,q9,q10,q11,r1,r2,bB,rH,eB,bO,cz,EW,simprocAttr]
 refine hl (fun f s v e hst hv=>?_)
 have hsl:=hst.len
 have q14:=fun M=>lE (Lv s x.aj (by omega) M)
 have hwl:=hst.wrap x.aj
 by_cases hc:0<=x.aj/\x.aj<16/\(x.seq=bJ s x.aj\/x.seq=bJ s x.aj+1)/\0<x.seq
 ·have hF:((0<=x.aj)=True/\(x.aj<16)=True/\(0<x.seq)=True/\(x.seq==bJ s x.aj)=true)\/((0<=x.aj)=True/\(x.aj<16)=True/\(0<x.seq)=True/\(x.seq==bJ s x.aj)=false/\(x.seq==bJ s x.aj+1)=true):=by
   obtain ⟨c1,c2,c3,c4⟩:=hc
   rcases c3 with c3|c3
   ·exact .inl ⟨eq_true c1,eq_true c2,eq_true c4,by simpa using c3⟩
   ·exact .inr ⟨eq_true c1,eq_true c2,eq_true c4,by simp; omega,by simpa using c3⟩
  rcases hF with hF|hF<;>rcases hv with rfl|⟨rfl,rfl⟩<;>(try simp only [bt,List.map_nil] at q14)<;>simp only [E8,q14,hF,hwl,rH,eB,bO,cz,bB,EW,simprocAttr]
 ·obtain ⟨e,h2,he⟩:=refused (f:=f) hst.fh x.op hc
  have q12:=fun M=>Ab hst (by omega) x.aj x.seq x.op hox M
  rw [h2] at q12
  have q15:=fun M=>lE (k15 s s (by omega) hst.nj M)
  have q17:=fun M=>lE (cO (Ti f f hst.fb.ok) M)
  rw [decide_eq_true rfl] at q15 q17
  have hF:(0<=x.aj)=False\/((0<=x.aj)=True/\(x.aj<16)=False)\/((0<=x.aj)=True/\(x.aj<16)=True/\(x.seq==bJ s x.aj)=true/\(0<x.seq)=False) \/
    ((0<=x.aj)=True/\(x.aj<16)=True/\(x.seq==bJ s x.aj)=false/\(x.seq==bJ s x.aj+1)=true/\(0<x.seq)=False)\/((0<=x.aj)=True/\(x.aj<16)=True/\(x.seq==bJ s x.aj)=false/\(x.seq==bJ s x.aj+1)=false):=by
   simp only [eq_iff_iff,iff_true,iff_false,beq_iff_eq,beq_eq_false_iff_ne]
   omega
  have hw0:IntKind.i64.wrap 0=0:=rfl
  have hE:(e==1)=true\/((e==1)=false/\(e==120)=true)\/((e==1)=false/\(e==120)=false/\(e==121)=true):=by
   rcases he with rfl|rfl|rfl
   ·exact .inl rfl
   ·exact .inr (.inl ⟨rfl,rfl⟩)
   ·exact .inr (.inr ⟨rfl,rfl,rfl⟩)
  rcases hv with rfl|⟨rfl,rfl⟩<;>simp only [bt,fC,cY,kW,bB,cz,ba,List.map_nil] at q12 q14 q15 q17<;>rcases hF with hF|hF|hF|hF|hF<;>rcases hE with hE|hE|hE <;>
   simp only [E8,q12,q14,q15,q17,hF,hE,hwl,hw0,beq_self_eq_true,rH,eB,bO,cz,bB,List.length_nil,EW,simprocAttr]
end
end Go.Proofs.YtdbadpnkhaepnaaGreatDoor
