import Derived.Test.YtdbadpnkhaepnaaGreatDoorOnbE
set_option linter.unusedSimpArgs false
set_option linter.unusedVariables false
set_option linter.unusedSectionVars false
set_option linter.defProp false
namespace Go.Proofs.YtdbadpnkhaepnaaGreatDoor
open Go Go.Abs
abbrev OZ (n:Node):Prop:=n.au.length<=64/\n.data.length<=4096
structure FB (k:Nat) (f:aa):Prop where
 ok:nZ f
 past:f.s.cP.length<=k
structure jU (a:oV):Prop where
 names:a.names.length<=90000
 data:a.data.length<=90000
def FB.mono {k m:Nat} {f:aa} (h:FB k f) (hm:k<=m):FB m f:=⟨h.ok,Nat.le_trans h.past hm⟩
def Rt.nok {t:Tree} (h:Rt t) {n:Node} (hn:n∈t.nodes):OZ n:=by
 obtain ⟨dep,h⟩:=h
 have hi:find t.nodes n.ino=some n:=(ga h.gx.fh).2 ⟨hn,rfl⟩
 refine ⟨(h.qm _ _ hi).2,?_⟩
 rcases h.kind _ _ hi with h1|h1
 ·exact (h.file _ _ hi h1).2.2
 ·rw [h.dir _ _ hi h1]; simp
def yE (t:Tree) (tk:List fq) (c:Int):∀(l:List Node) (y:List Int),(kf t tk c l y).length<=l.length/\∀p,p∈kf t tk c l y->p.node∈l
 | [],y=>⟨by simp [kf],fun p h=>by simp [kf] at h⟩
 |n::r,[]=>⟨by simp [kf],fun p h=>by simp [kf] at h⟩
 |n::r,x::y=>by
  obtain ⟨h1,h2⟩:=yE t tk c r y
  rw [kf]
  refine ⟨?_,fun p hp=>?_⟩
  ·rw [List.length_append,List.length_cons]
   split<;>simp<;>omega
  ·rcases List.mem_append.1 hp with hp|hp
   ·split at hp
    ·rw [List.mem_singleton.1 hp]; exact List.mem_cons_self
    ·cases hp
   ·exact List.mem_cons_of_mem _ (h2 p hp)
def FB.put {k:Nat} {f:aa} (h:FB k f) (hk:k<=89000) {t:Tree} (ht:Rt t) {H:List cf} (hH:rF H) (hl:H.length<=64) {Q:List bE} (hQ:ml Q) (hq:Q.length<=16):FB (k+200) ⟨oU f.s t,H,Q⟩:=by
 have hf:=h.ok
 have hp:=h.past
 unfold oU
 split
 ·exact ⟨⟨hf.rt,hf.len,hf.cP,hf.zO,hf.taken,hH,hl,hQ,hq⟩,by simp only; omega⟩
 ·obtain ⟨h1,h2⟩:=yE t f.s.taken (gG (f.s.tick+1)) f.s.now.nodes f.s.since
  have h3:=hf.rt.sz.nodes
  have h4:(f.s.cP++kf t f.s.taken (gG (f.s.tick+1)) f.s.now.nodes f.s.since).length<=k+200:=by rw [List.length_append]; omega
  refine ⟨⟨ht,by simp,by simp only; omega,fun p hp=>?_,hf.taken,hH,hl,hQ,hq⟩,h4⟩
  rcases List.mem_append.1 hp with hp|hp
  ·exact hf.zO p hp
  ·exact hf.rt.nok (h2 p hp)
def FB.settle {k:Nat} {f:aa} (h:FB k f) (hk:k<=89000) {t:Tree} (ht:Rt t) {Q:List bE} (hQ:ml Q) (hq:Q.length<=16):FB (k+200) (dE f t Q).1:=by
 unfold dE
 split
 ·exact h.mono (by omega)
 split
 ·exact h.mono (by omega)
 ·exact h.put hk (tC _ _ _ ht) h.ok.holds h.ok.hlen (yp hQ) (Nat.le_trans (tU _ _) hq)
def NX {t:Tree} {l:List cf} (hl:rF l) (hn:l.length<=64) (c g ino:Int):rF (mM t l c g ino).1/\(mM t l c g ino).1.length<=64:=by
 have hlow:=wF hl c g
 unfold mM
 split
 ·exact ⟨hl,hn⟩
 split
 ·exact ⟨hl,hn⟩
 split
 ·exact ⟨hl,hn⟩
 split
 ·exact ⟨hl,hn⟩
 split
 ·exact ⟨hl,hn⟩
 ·rename_i hi hlen
  simp only [decide_eq_true_eq] at hlen
  have hat:∀(i:Nat) (y:cf),l[i]?=some y->decide (da y c g<0)=false->pj ⟨c,g,ino⟩ y:=by
   intro i y hy hge
   have h1:=hlow.le
   by_cases he:i=iW (fun x=>decide (da x c g<0)) l
   ·subst he
    have hne:¬(y.aj=c/\y.handle=g):=fun hh=>hi (by unfold gb; rw [hy]; simpa using (Dh y c g).2 hh)
    have hlt:=lU y c g
    simp only [decide_eq_false_iff_not,hlt] at hge
    unfold pj; simp only
    omega
   ·have hlt:=lU y c g
    simp only [decide_eq_false_iff_not,hlt] at hge
    have hgt:iW (fun x=>decide (da x c g<0)) l<i:=by
     rcases Nat.lt_or_ge (iW (fun x=>decide (da x c g<0)) l) i with h|h
     ·exact h
     ·exact absurd ((hlow.lt i y hy).2 (by omega)) (by simp only [decide_eq_true_eq,hlt]; exact hge)
    have hi':=(List.getElem?_eq_some_iff.1 hy).1
    have hz:l[iW (fun x=>decide (da x c g<0)) l]?=some l[iW (fun x=>decide (da x c g<0)) l]:=List.getElem?_eq_getElem (by omega)
    have hp:pj l[iW (fun x=>decide (da x c g<0)) l] y:=by
     have:=(List.pairwise_iff_getElem.1 hl) _ i (by omega) hi' hgt
     rw [<-(List.getElem?_eq_some_iff.1 hy).2]; exact this
    generalize l[iW (fun x=>decide (da x c g<0)) l]=z at hz hp
    have hzl:¬da z c g<0:=fun h=>by
     have:=(hlow.lt _ z hz).1 (by simpa using h)
     omega
    rw [lU] at hzl
    unfold pj at hp ⊢; simp only
    omega
  refine ⟨EI hl hlow (fun y hy h=>?_) (fun y hy h=>?_) (fun a b d h1 h2=>?_),by simp; have:=hlow.le; omega⟩
  ·simp only [decide_eq_true_eq,lU] at h; unfold pj; simp only; omega
  ·obtain ⟨i,hy'⟩:=List.getElem?_of_mem hy
   exact hat i y hy' h
  ·unfold pj at *; omega
def vV {t:Tree} {l:List cf} (hl:rF l) (c g:Int):rF (fP t l c g).2.1:=by
 unfold fP
 split
 ·exact hl
 ·exact hl.sublist List.eraseP_sublist
def tG (c:Int):∀(r l:List cf) (t:Tree),rF l->l.length<=64->rF (kX c r t l).2/\(kX c r t l).2.length<=64
 | [],l,t,h1,h2=>⟨h1,h2⟩
 |x::r,l,t,h1,h2=>by
  rw [kX]
  split
  ·exact tG c r _ _ (vV h1 _ _) (Nat.le_trans (ra _ _ _ _) h2)
  ·exact tG c r l t h1 h2
def FB.set {k:Nat} {f:aa} (h:FB k f) {H:List cf} (hH:rF H) (hl:H.length<=64):FB (k+200) ⟨f.s,H,f.ct⟩ :=
 ⟨⟨h.ok.rt,h.ok.len,h.ok.cP,h.ok.zO,h.ok.taken,hH,hl,h.ok.ct,h.ok.qp⟩,by have:=h.past; simp only; omega⟩
def FB.TD {k:Nat} {f:aa} (h:FB k f) (hk:k<=89000) (o:dL) (ino:Int) (d:Bytes):FB (k+200) (iU f o ino d).1:=by
 have hr:=h.settle hk (h.ok.rt.put ino d) h.ok.ct h.ok.qp
 unfold iU
 simp only []
 split
 ·exact h.mono (by omega)
 split<;>exact hr
def kJ {α:Type} {P:α->Prop} {c:Prop} [Decidable c] {a b:α} (ha:P a) (hb:P b):P (if c then a else b):=by
 split
 ·exact ha
 ·exact hb
def Ft {P:Wk->Prop} {f:aa} {o:dL} (h55:P (qG f o)) (h56:P (qH f o)) (h57:P (qF f o)) (h58:P (kv f o)) (h59:P (ko f o)) (h60:P (uU f o)) (h61:P (qM f o)) (h62:P (qL f o)) (h63:P (mU f o)) (h64:P (u6 f o)) (h65:P (nb f o)) (h66:P (xt f o)) (h67:P (mZ f o)) (h68:P (qN f o)) (h69:P (uX f o)) (h70:P (qw f o)) (h71:P (pd f o)) (h0:P (f,cn,0)) (K:Nat):P (jY K f o) :=
 kJ h55 (kJ h56 (kJ h57 (kJ h58 (kJ h59 (kJ h60 (kJ h61 (kJ h62 (kJ h63 (kJ h64 (kJ h65 (kJ h66 (kJ h67 (kJ h68 (kJ h69 (kJ h70 (kJ h71 (h0)))))))))))))))))
def OX {k:Nat} {f:aa} (h:FB k f) (hk:k<=89000) (K:Nat) (o:dL):FB (k+200) (jY K f o).1:=by
 have h0:FB (k+200) f:=h.mono (by omega)
 have hp {t:Tree} (ht:Rt t):=h.settle hk ht h.ok.ct h.ok.qp
 refine Ft (P:=fun r=>FB (k+200) r.1) ?_ ?_ ?_ ?_ ?_ ?_ ?_ ?_ ?_ ?_ ?_ ?_ ?_ ?_ ?_ ?_ ?_ ?_ K
 ·unfold qG; split<;>exact h0
 ·have hr:=hp (h.ok.rt.add (fx f.s.now o.path).1 (fx f.s.now o.path).2.1 o.n)
  unfold qH; simp only []
  split
  ·exact h0
  split
  ·exact h0
  split<;>exact hr
 ·have hr:=hp (h.ok.rt.ln (aJ f.s.now.nodes (dZ f.s.now o.path).1).ino (fx f.s.now o.ng).1 (fx f.s.now o.ng).2.1)
  unfold qF; simp only []
  split
  ·exact h0
  split
  ·exact h0
  split
  ·exact h0
  split<;>exact hr
 ·have hr:=hp (h.ok.rt.un (fx f.s.now o.path).1 (fx f.s.now o.path).2.1)
  unfold kv; simp only []
  split
  ·exact h0
  split
  ·exact h0
  split<;>exact hr
 ·have hr:=hp (h.ok.rt.mv (fx f.s.now o.path).1 (fx f.s.now o.path).2.1 (fx f.s.now o.ng).1 (fx f.s.now o.ng).2.1)
  unfold ko; simp only []
  split
  ·exact h0
  split
  ·exact h0
  split
  ·exact h0
  split
  ·exact h0
  split<;>exact hr
 ·unfold uU; simp only []
  split
  ·exact h0
  split<;>exact h0
 ·unfold qM; simp only []; split<;>exact h0
 ·obtain ⟨g1,g2⟩:=NX (t:=f.s.now) h.ok.holds h.ok.hlen o.aj o.handle (aJ f.s.now.nodes (dZ f.s.now o.path).1).ino
  unfold qL; simp only []
  split
  ·exact h0
  split
  ·exact h0
  ·exact h.set g1 g2
 ·have hr:=h.put hk (h.ok.rt.close f.holds o.aj o.handle) (vV (t:=f.s.now) h.ok.holds o.aj o.handle) (Nat.le_trans (ra _ _ _ _) h.ok.hlen) h.ok.ct h.ok.qp
  unfold mU; simp only []
  split
  ·exact h0
  ·exact hr
 ·unfold u6
  split
  ·exact h0
  split<;>exact h0
 ·unfold nb
  split
  ·exact h0
  split
  ·exact h0
  split
  ·exact h0
  ·exact h.TD hk o _ _
 ·unfold xt
  split
  ·exact h0
  ·exact h.TD hk o _ _
 ·obtain ⟨g1,g2⟩:=yM (t:=f.s.now) h.ok.ct h.ok.qp (aJ f.s.now.nodes (dZ f.s.now o.path).1).ino o.n o.m
  have hr:=h.settle hk h.ok.rt g1 g2
  unfold mZ; simp only []
  split
  ·exact h0
  split
  ·exact h0
  split<;>exact hr
 ·unfold qN; simp only []
  split
  ·exact h0
  split
  ·exact h0
  ·rename_i hh
   unfold takeN at hh ⊢
   split
   ·exact h0
   split
   ·exact h0
   split
   ·exact h0
   ·rename_i hlen
    refine ⟨⟨h.ok.rt,h.ok.len,h.ok.cP,h.ok.zO,?_,h.ok.holds,h.ok.hlen,h.ok.ct,h.ok.qp⟩,by have:=h.past; simp only; omega⟩
    simp only [Bool.or_eq_true,decide_eq_true_eq,not_or] at hlen
    simp; omega
 ·unfold uX; simp only []
  split
  ·exact h0
  split
  ·exact h0
  split<;>exact h0
 ·unfold qw; simp only []
  split
  ·exact h0
  ·unfold qy
   split
   ·exact h0
   ·refine ⟨⟨h.ok.rt,h.ok.len,Nat.le_trans (List.length_filter_le _ _) h.ok.cP,fun p hp=>h.ok.zO p (List.mem_filter.1 hp).1,Nat.le_trans (List.length_filter_le _ _) h.ok.taken,h.ok.holds,h.ok.hlen,h.ok.ct,h.ok.qp⟩,?_⟩
    have:=h.past
    have h2:=List.length_filter_le (sM (f.s.taken.filter (nN o.n))) f.s.cP
    simp only; omega
 ·obtain ⟨g1,g2⟩:=tG o.aj f.holds f.holds f.s.now h.ok.holds h.ok.hlen
  exact h.put hk (h.ok.rt.gone o.aj f.holds f.holds) g1 g2 h.ok.ct h.ok.qp
 ·exact h0
def UF {k:Nat} {f:aa} (h:FB k f) (hk:k<=89000) (o:dL):FB (k+200) (jB f o).1:=by
 unfold jB
 split
 ·exact h.mono (by omega)
 ·split
  ·split
   ·exact OX h hk _ o
   ·exact h.mono (by omega)
  ·exact h.mono (by omega)
def Nu {P:Node->Prop} {m:AM Node} (h:∀k n,cp m k=some n->P n) (n:Node) (hn:P n):∀k x,cp (iC m n.ino n) k=some x->P x:=by
 intro k x hx
 rw [fY] at hx
 split at hx
 ·injection hx with hx; rw [<-hx]; exact hn
 ·exact h k x hx
def wW {P:Node->Prop} (a:Int):∀(l:List il) (m:AM Node),(∀k n,cp m k=some n->P n)->(∀p,p∈l->P p.node)->∀k n,cp (l.foldl (fU a) m) k=some n->P n
 | [],m,h,hl=>h
 |p::r,m,h,hl=>by
  rw [List.foldl_cons]
  refine wW a r _ ?_ (fun p hp=>hl p (List.mem_cons_of_mem _ hp))
  unfold fU
  split
  ·exact Nu h _ (hl p List.mem_cons_self)
  ·exact h
def BJ {P:Node->Prop} (a:Int):∀(l:List Node) (y:List Int) (m:AM Node),(∀k n,cp m k=some n->P n)->(∀p,p∈l->P p)->∀k n,cp (kd a l y m) k=some n->P n
 | [],y,m,h,hl=>h
 |n::r,[],m,h,hl=>h
 |n::r,x::y,m,h,hl=>by
  rw [kd]
  refine BJ a r y _ ?_ (fun p hp=>hl p (List.mem_cons_of_mem _ hp))
  split
  ·exact Nu h _ (hl n List.mem_cons_self)
  ·exact h
def Pt {f:aa} (hf:nZ f) (id:Int):∀n,n∈(mq f.s id).2.1->OZ n:=by
 unfold mq
 split
 ·rename_i x _
  intro n hn
  have:=tX n _ hn
  refine yU (P:=OZ) ?_ 200001 x.ino ([],[]) (fun n h=>by cases h) n this
  exact BJ x.at' _ _ _ (wW x.at' _ _ (fun k n h=>by cases h) hf.zO) (fun n hn=>hf.rt.nok hn)
 ·exact fun n h=>by cases h
def BP {P:Node->Prop} {all:AM Node} (hall:∀k n,cp all k=some n->P n):∀(p:List Bytes) (o:Option Node),(∀n,o=some n->P n)->∀n,(di all p o).1=some n->P n
 | [],o,ho,n,h=>ho n h
 |s::r,o,ho,n,h=>by
  rw [di] at h
  split at h
  ·exact ho n h
  ·split at h
   ·exact ho n h
   ·exact BP hall r _ (fun m hm=>hall _ _ hm) n h
def fB {a:oV} (h1:a.names=[]) (h2:a.data=[]):jU a:=⟨by rw [h1]; simp,by rw [h2]; simp⟩
def sa (e:Int):jU (kW e):=fB rfl rfl
def HF {f:aa} (h:nZ f) (K:Nat) (o:dL):jU (jY K f o).2.1:=by
 have h0:jU cn:=fB rfl rfl
 have hv (i:Int) (d:Bytes):jU (iU f o i d).2.1:=fB (lH f o i d).1 (lH f o i d).2
 refine Ft (P:=fun r=>jU r.2.1) ?_ ?_ ?_ ?_ ?_ ?_ ?_ ?_ ?_ ?_ ?_ ?_ ?_ ?_ ?_ ?_ ?_ ?_ K
 ·unfold qG; split<;>exact fB rfl rfl
 ·unfold qH; simp only []; repeat' split
  all_goals exact fB rfl rfl
 ·unfold qF; simp only []; repeat' split
  all_goals exact fB rfl rfl
 ·unfold kv; simp only []; repeat' split
  all_goals exact fB rfl rfl
 ·unfold ko; simp only []; repeat' split
  all_goals exact fB rfl rfl
 ·unfold uU; simp only []
  split
  ·exact h0
  split
  ·exact h0
  ·refine ⟨?_,by simp⟩
   simp only [List.length_map]
   obtain ⟨dep,g⟩:=h.rt
   have h64:=(tq g (aJ f.s.now.nodes (dZ f.s.now o.path).1).ino).2
   have hfr:(sb f.s.now.nodes (aJ f.s.now.nodes (dZ f.s.now o.path).1).ino o.n).length<=64:=by
    unfold sb
    rw [oD]
    exact Nat.le_trans (List.length_filter_le _ _) h64
   unfold mJ
   split
   ·simp
   split
   ·simp
   split
   ·simp only; omega
   ·simp only [List.length_take]; omega
 ·unfold qM; simp only []; split<;>exact fB rfl rfl
 ·unfold qL; simp only []; repeat' split
  all_goals exact fB rfl rfl
 ·unfold mU; simp only []; split<;>exact fB rfl rfl
 ·unfold u6
  split
  ·exact h0
  split
  ·exact h0
  ·rename_i hh _
   obtain ⟨_,i,hi⟩:=vq (f:=f) (o:=o) (by simpa using hh)
   have:=(sw h i).1
   rw [hi]
   exact ⟨by simp,by simp only [List.length_take,List.length_drop]; omega⟩
 ·unfold nb
  split
  ·exact h0
  split
  ·exact h0
  split
  ·exact h0
  ·exact hv _ _
 ·unfold xt
  split
  ·exact h0
  ·exact hv _ _
 ·unfold mZ; simp only []; repeat' split
  all_goals exact fB rfl rfl
 ·unfold qN; simp only []; repeat' split
  all_goals exact fB rfl rfl
 ·have ha:=Pt h o.n
  unfold uX; simp only []
  have hall:∀k n,cp (cq (mq f.s o.n).2.1 []) k=some n->OZ n:=fun k n h=>by
   rcases rq _ _ _ _ h with h|h
   ·exact ha n h
   ·cases h
  have hpe:=BP hall (cD o.path).1 (cp (cq (mq f.s o.n).2.1 []) (mq f.s o.n).1) (fun n h=>hall _ _ h)
  split
  ·exact h0
  split
  ·exact h0
  split
  ·exact h0
  ·generalize (di (cq (mq f.s o.n).2.1 []) (cD o.path).1 (cp (cq (mq f.s o.n).2.1 []) (mq f.s o.n).1)).1=z at hpe ⊢
   cases z with
   |none=>exact fB rfl rfl
   |some n =>
    obtain ⟨g1,g2⟩:=hpe n rfl
    exact ⟨by simp only [Option.getD_some,List.length_map]; omega,by simp only [Option.getD_some]; omega⟩
 ·unfold qw; simp only []; split<;>exact fB rfl rfl
 ·exact fB rfl rfl
 ·exact fB rfl rfl
def PI {f:aa} (h:nZ f) (o:dL):jU (jB f o).2:=by
 unfold jB
 split
 ·exact sa _
 ·split
  ·split
   ·exact HF h _ o
   ·exact sa _
  ·exact sa _
section
attribute [local irreducible] cT cR gz gK bR kr af an aZ aK
def abk (a b:Int):(a != b) = !decide (a=b):=by rw [Bool.eq_iff_iff]; simp
def Xz {a b:List Int} (ha:a.length<=100000) {k:List K} {R:Bool->Option (ae×ai)}
  (hx:∀e,kr (af aV) [.tmp 4] 0 k ⟨.exit 0,e,[]⟩=R true) (hr:kr (af aV) [.tmp 4] 0 k ⟨.ret,[(4,.bool false)],[]⟩=R false) :
  ∀(l m pre pre':List Int),a=pre++l->b=pre'++m->pre.length=pre'.length->l.length=m.length->cT (af aV) [.tmp 4] 0 k (.loop [0,1,12,13] Xa) [(0,kE a),(1,kE b),(12,.int .i64 a.length),(13,.int .i64 pre.length)] []=R (decide (l=m)):=by
 intro l
 induction l with
 |nil =>
  intro m pre pre' h h' hp hl
  have hm:m=[]:=List.length_eq_zero_iff.1 hl.symm
  subst hm
  rw [aE]
  simp only [O9,bZ h,EW,simprocAttr]
  exact hx _
 |cons n r ih =>
  intro m pre pre' h h' hp hl
  cases m with
  |nil=>cases hl
  |cons n' m =>
  rw [aE]
  have hlen:pre.length+1<=100000:=by rw [h] at ha; simp at ha; omega
  have hw:IntKind.i64.wrap ((pre.length:Int)+1)=((pre++[n]).length:Int):=by rw [bw (by omega) (by omega)]; exact bp
  have hi:=ih m (pre++[n]) (pre'++[n']) (by rw [h]; simp) (by rw [h']; simp) (by simp [hp]) (by simpa using hl)
  have ha2:b[pre.length]?=some n':=by rw [hp]; exact aW h'
  have hdc:decide (n::r=n'::m)=(decide (n=n')&&decide (r=m)):=by
   rw [Bool.eq_iff_iff]; simp
  rw [hdc]
  simp only [List.length_append,List.length_cons,List.length_nil] at hi
  simp only [O9,aY h,aW h,ha2,pg,abk,EW,simprocAttr]
  refine aH (fun hb=>?_) (fun hb=>?_)
  ·have hb':decide (n=n')=false:=by simpa using hb
   simp only [O9,hb',Bool.false_and,EW,simprocAttr]
   exact hr
  ·have hb':decide (n=n')=true:=by simpa using hb
   simp only [O9,hb',Bool.true_and,hw,EW,simprocAttr]
   exact hi
def c34 (a b:List Int) (ha:a.length<=100000):af aV 34 [kE a,kE b] []=some (.bool (decide (a=b)),[]):=by
 refine aq rfl rfl rfl ?_
 simp only [U2,O9,EW,simprocAttr]
 refine aH (fun hb=>?_) (fun hb=>?_)
 ·have:decide (a=b)=false:=by
   simp at hb ⊢
   rintro rfl; exact hb rfl
  simp only [O9,this,EW,simprocAttr]
 ·simp only [O9,EW,simprocAttr]
  exact Xz (R:=fun z=>some (.bool z,[])) ha (fun e=>by simp only [O9,EW,simprocAttr]) (by simp only [O9,EW,simprocAttr]) a b [] [] rfl rfl rfl (by simp at hb; omega)
def k34 (a b:List Int) (ha:a.length<=100000) (M:ai):an (af aV) 34 [kE a,kE b] M=some (.bool (decide (a=b)),M):=cO (c34 a b ha) M
def UH (x y:fq):eV [.i,.i,.i] (dB x) (dB y)=some (decide (x=y)):=by
 cases x; cases y
 simp only [dB,PO,Option.some.injEq]
 rw [Bool.eq_iff_iff]
 simp
def Pp (x:fq):(dB x).all ae.cZ=true:=rfl
def XB {a b:List fq} (ha:a.length<=100000) {k:List K} {R:Bool->Option (ae×ai)}
  (hx:∀e,kr (af aV) [.tmp 4] 0 k ⟨.exit 0,e,[]⟩=R true) (hr:kr (af aV) [.tmp 4] 0 k ⟨.ret,[(4,.bool false)],[]⟩=R false) :
  ∀(l m pre pre':List fq),a=pre++l->b=pre'++m->pre.length=pre'.length->l.length=m.length->cT (af aV) [.tmp 4] 0 k (.loop [0,1,12,13] Xc) [(0,ei a),(1,ei b),(12,.int .i64 a.length),(13,.int .i64 pre.length)] []=R (decide (l=m)):=by
 intro l
 induction l with
 |nil =>
  intro m pre pre' h h' hp hl
  have hm:m=[]:=List.length_eq_zero_iff.1 hl.symm
  subst hm
  rw [aE]
  simp only [Pb,bZ h,EW,simprocAttr]
  exact hx _
 |cons n r ih =>
  intro m pre pre' h h' hp hl
  cases m with
  |nil=>cases hl
  |cons n' m =>
  rw [aE]
  have hlen:pre.length+1<=100000:=by rw [h] at ha; simp at ha; omega
  have hw:IntKind.i64.wrap ((pre.length:Int)+1)=((pre++[n]).length:Int):=by rw [bw (by omega) (by omega)]; exact bp
  have hi:=ih m (pre++[n]) (pre'++[n']) (by rw [h]; simp) (by rw [h']; simp) (by simp [hp]) (by simpa using hl)
  have ha2:b[pre.length]?=some n':=by rw [hp]; exact aW h'
  have hdc:decide (n::r=n'::m)=(decide (n=n')&&decide (r=m)):=by
   rw [Bool.eq_iff_iff]; simp
  rw [hdc]
  simp only [List.length_append,List.length_cons,List.length_nil] at hi
  simp only [Pb,aY h,aW h,ha2,UH,Pp,EW,simprocAttr]
  refine aH (fun hb=>?_) (fun hb=>?_)
  ·have hb':decide (n=n')=false:=by simpa using hb
   simp only [Pb,hb',Bool.false_and,EW,simprocAttr]
   exact hr
  ·have hb':decide (n=n')=true:=by simpa using hb
   simp only [Pb,hb',Bool.true_and,hw,EW,simprocAttr]
   exact hi
def c36 (a b:List fq) (ha:a.length<=100000):af aV 36 [ei a,ei b] []=some (.bool (decide (a=b)),[]):=by
 refine aq rfl rfl rfl ?_
 simp only [U4,Pb,EW,simprocAttr]
 refine aH (fun hb=>?_) (fun hb=>?_)
 ·have:decide (a=b)=false:=by
   simp at hb ⊢
   rintro rfl; exact hb rfl
  simp only [Pb,this,EW,simprocAttr]
 ·simp only [Pb,EW,simprocAttr]
  exact XB (R:=fun z=>some (.bool z,[])) ha (fun e=>by simp only [Pb,EW,simprocAttr]) (by simp only [Pb,EW,simprocAttr]) a b [] [] rfl rfl rfl (by simp at hb; omega)
def k36 (a b:List fq) (ha:a.length<=100000) (M:ai):an (af aV) 36 [ei a,ei b] M=some (.bool (decide (a=b)),M):=cO (c36 a b ha) M
def UG (x y:cf):eV [.i,.i,.i] (fj x) (fj y)=some (decide (x=y)):=by
 cases x; cases y
 simp only [fj,PO,Option.some.injEq]
 rw [Bool.eq_iff_iff]
 simp
def Pn (x:cf):(fj x).all ae.cZ=true:=rfl
def XC {a b:List cf} (ha:a.length<=100000) {k:List K} {R:Bool->Option (ae×ai)}
  (hx:∀e,kr (af aV) [.tmp 4] 0 k ⟨.exit 0,e,[]⟩=R true) (hr:kr (af aV) [.tmp 4] 0 k ⟨.ret,[(4,.bool false)],[]⟩=R false) :
  ∀(l m pre pre':List cf),a=pre++l->b=pre'++m->pre.length=pre'.length->l.length=m.length->cT (af aV) [.tmp 4] 0 k (.loop [0,1,12,13] Xd) [(0,dn a),(1,dn b),(12,.int .i64 a.length),(13,.int .i64 pre.length)] []=R (decide (l=m)):=by
 intro l
 induction l with
 |nil =>
  intro m pre pre' h h' hp hl
  have hm:m=[]:=List.length_eq_zero_iff.1 hl.symm
  subst hm
  rw [aE]
  simp only [Pc,bZ h,EW,simprocAttr]
  exact hx _
 |cons n r ih =>
  intro m pre pre' h h' hp hl
  cases m with
  |nil=>cases hl
  |cons n' m =>
  rw [aE]
  have hlen:pre.length+1<=100000:=by rw [h] at ha; simp at ha; omega
  have hw:IntKind.i64.wrap ((pre.length:Int)+1)=((pre++[n]).length:Int):=by rw [bw (by omega) (by omega)]; exact bp
  have hi:=ih m (pre++[n]) (pre'++[n']) (by rw [h]; simp) (by rw [h']; simp) (by simp [hp]) (by simpa using hl)
  have ha2:b[pre.length]?=some n':=by rw [hp]; exact aW h'
  have hdc:decide (n::r=n'::m)=(decide (n=n')&&decide (r=m)):=by
   rw [Bool.eq_iff_iff]; simp
  rw [hdc]
  simp only [List.length_append,List.length_cons,List.length_nil] at hi
  simp only [Pc,aY h,aW h,ha2,UG,Pn,EW,simprocAttr]
  refine aH (fun hb=>?_) (fun hb=>?_)
  ·have hb':decide (n=n')=false:=by simpa using hb
   simp only [Pc,hb',Bool.false_and,EW,simprocAttr]
   exact hr
  ·have hb':decide (n=n')=true:=by simpa using hb
   simp only [Pc,hb',Bool.true_and,hw,EW,simprocAttr]
   exact hi
def c37 (a b:List cf) (ha:a.length<=100000):af aV 37 [dn a,dn b] []=some (.bool (decide (a=b)),[]):=by
 refine aq rfl rfl rfl ?_
 simp only [U5,Pc,EW,simprocAttr]
 refine aH (fun hb=>?_) (fun hb=>?_)
 ·have:decide (a=b)=false:=by
   simp at hb ⊢
   rintro rfl; exact hb rfl
  simp only [Pc,this,EW,simprocAttr]
 ·simp only [Pc,EW,simprocAttr]
  exact XC (R:=fun z=>some (.bool z,[])) ha (fun e=>by simp only [Pc,EW,simprocAttr]) (by simp only [Pc,EW,simprocAttr]) a b [] [] rfl rfl rfl (by simp at hb; omega)
def k37 (a b:List cf) (ha:a.length<=100000) (M:ai):an (af aV) 37 [dn a,dn b] M=some (.bool (decide (a=b)),M):=cO (c37 a b ha) M
def PQ (x y:bE):eV [.i,.i,.i] (eJ x) (eJ y)=some (decide (x=y)):=by
 cases x; cases y
 simp only [eJ,PO,Option.some.injEq]
 rw [Bool.eq_iff_iff]
 simp
def HT (x:bE):(eJ x).all ae.cZ=true:=rfl
def XD {a b:List bE} (ha:a.length<=100000) {k:List K} {R:Bool->Option (ae×ai)}
  (hx:∀e,kr (af aV) [.tmp 4] 0 k ⟨.exit 0,e,[]⟩=R true) (hr:kr (af aV) [.tmp 4] 0 k ⟨.ret,[(4,.bool false)],[]⟩=R false) :
  ∀(l m pre pre':List bE),a=pre++l->b=pre'++m->pre.length=pre'.length->l.length=m.length->cT (af aV) [.tmp 4] 0 k (.loop [0,1,12,13] Xe) [(0,bL a),(1,bL b),(12,.int .i64 a.length),(13,.int .i64 pre.length)] []=R (decide (l=m)):=by
 intro l
 induction l with
 |nil =>
  intro m pre pre' h h' hp hl
  have hm:m=[]:=List.length_eq_zero_iff.1 hl.symm
  subst hm
  rw [aE]
  simp only [Pd,bZ h,EW,simprocAttr]
  exact hx _
 |cons n r ih =>
  intro m pre pre' h h' hp hl
  cases m with
  |nil=>cases hl
  |cons n' m =>
  rw [aE]
  have hlen:pre.length+1<=100000:=by rw [h] at ha; simp at ha; omega
  have hw:IntKind.i64.wrap ((pre.length:Int)+1)=((pre++[n]).length:Int):=by rw [bw (by omega) (by omega)]; exact bp
  have hi:=ih m (pre++[n]) (pre'++[n']) (by rw [h]; simp) (by rw [h']; simp) (by simp [hp]) (by simpa using hl)
  have ha2:b[pre.length]?=some n':=by rw [hp]; exact aW h'
  have hdc:decide (n::r=n'::m)=(decide (n=n')&&decide (r=m)):=by
   rw [Bool.eq_iff_iff]; simp
  rw [hdc]
  simp only [List.length_append,List.length_cons,List.length_nil] at hi
  simp only [Pd,aY h,aW h,ha2,PQ,HT,EW,simprocAttr]
  refine aH (fun hb=>?_) (fun hb=>?_)
  ·have hb':decide (n=n')=false:=by simpa using hb
   simp only [Pd,hb',Bool.false_and,EW,simprocAttr]
   exact hr
  ·have hb':decide (n=n')=true:=by simpa using hb
   simp only [Pd,hb',Bool.true_and,hw,EW,simprocAttr]
   exact hi
def c38 (a b:List bE) (ha:a.length<=100000):af aV 38 [bL a,bL b] []=some (.bool (decide (a=b)),[]):=by
 refine aq rfl rfl rfl ?_
 simp only [U6,Pd,EW,simprocAttr]
 refine aH (fun hb=>?_) (fun hb=>?_)
 ·have:decide (a=b)=false:=by
   simp at hb ⊢
   rintro rfl; exact hb rfl
  simp only [Pd,this,EW,simprocAttr]
 ·simp only [Pd,EW,simprocAttr]
  exact XD (R:=fun z=>some (.bool z,[])) ha (fun e=>by simp only [Pd,EW,simprocAttr]) (by simp only [Pd,EW,simprocAttr]) a b [] [] rfl rfl rfl (by simp at hb; omega)
def k38 (a b:List bE) (ha:a.length<=100000) (M:ai):an (af aV) 38 [bL a,bL b] M=some (.bool (decide (a=b)),M):=cO (c38 a b ha) M
def adK (x y:il):decide (x=y)=(x.oY==y.oY&&(x.z7==y.z7&&decide (x.node=y.node))):=by
 cases x; cases y
 simp only [il.mk.injEq]
 rw [Bool.eq_iff_iff]
 simp
def ahE (a b:Node) (ha:OZ a) (M:ai):an (af aV) 33 [.agg [.slice .sh [.agg (az a)],.int .i64 0,.int .i64 0],.agg [.slice .sh [.agg (az b)],.int .i64 0,.int .i64 0]] M=some (.bool (decide (a=b)),M):=by
 have h:=c33 ⟨[a],0,0⟩ ⟨[b],0,0⟩ ⟨by simp,fun n hn=>by rw [List.mem_singleton.1 hn]; have:=ha.1; omega,fun n hn=>by rw [List.mem_singleton.1 hn]; have:=ha.2; omega⟩
 have hd:decide ((⟨[a],0,0⟩:Tree)=⟨[b],0,0⟩)=decide (a=b):=by rw [Bool.eq_iff_iff]; simp
 rw [hd] at h
 exact eH h rfl rfl rfl rfl rfl M
def c32 (x y:il) (hx:OZ x.node):af aV 32 [jl x,jl y] []=some (.bool (decide (x=y)),[]):=by
 rw [adK]
 refine aq rfl rfl rfl ?_
 have q:=fun M=>ahE x.node y.node hx M
 simp only [az] at q
 simp only [U0,E32,jl,gm,az,EW,simprocAttr]
 repeat' ((first|refine aH (fun hb=>?_) (fun hb=>?_)|refine bj (fun hb=>?_) (fun hb=>?_)|refine cj (fun hb=>?_) (fun hb=>?_))<;>simp only [hb,EW,E32,q,simprocAttr])
 all_goals simp_all only [jZ,↓reduceIte,reduceCtorEq,bne_self_eq_false]
def k32 (x y:il) (hx:OZ x.node) (M:ai):an (af aV) 32 [.agg (gm x),.agg (gm y)] M=some (.bool (decide (x=y)),M):=cO (c32 x y hx) M
def Po (x:il):(gm x).all ae.cZ=true:=rfl
def XA {a b:List il} (ha:a.length<=100000) (he:∀n,n∈a->OZ n.node) {k:List K} {R:Bool->Option (ae×ai)}
  (hx:∀e,kr (af aV) [.tmp 6] 0 k ⟨.exit 0,e,[]⟩=R true) (hr:∀M,kr (af aV) [.tmp 6] 0 k ⟨.ret,[(6,.bool false)],M⟩=R false) :
  ∀(l m pre pre':List il),a=pre++l->b=pre'++m->pre.length=pre'.length->l.length=m.length->cT (af aV) [.tmp 6] 0 k (.loop [1,2,15,16,17] Xb) [(1,jf b),(2,.func 32 []),(15,jf a),(16,.int .i64 a.length),(17,.int .i64 pre.length)] []=R (decide (l=m)):=by
 intro l
 induction l with
 |nil =>
  intro m pre pre' h h' hp hl
  have hm:m=[]:=List.length_eq_zero_iff.1 hl.symm
  subst hm
  rw [aE]
  simp only [Pa,bZ h,EW,simprocAttr]
  exact hx _
 |cons n r ih =>
  intro m pre pre' h h' hp hl
  cases m with
  |nil=>cases hl
  |cons n' m =>
  rw [aE]
  have hlen:pre.length+1<=100000:=by rw [h] at ha; simp at ha; omega
  have hw:IntKind.i64.wrap ((pre.length:Int)+1)=((pre++[n]).length:Int):=by rw [bw (by omega) (by omega)]; exact bp
  have hi:=ih m (pre++[n]) (pre'++[n']) (by rw [h]; simp) (by rw [h']; simp) (by simp [hp]) (by simpa using hl)
  have ha2:b[pre.length]?=some n':=by rw [hp]; exact aW h'
  have hen:=he n (by rw [h]; simp)
  have hdc:decide (n::r=n'::m)=(decide (n=n')&&decide (r=m)):=by
   rw [Bool.eq_iff_iff]; simp
  have q:=fun M=>k32 n n' hen M
  have hfl:List.flatMap ae.fV (gm n)=[]:=rfl
  have hfl':List.flatMap ae.fV (gm n')=[]:=rfl
  rw [hdc]
  simp only [List.length_append,List.length_cons,List.length_nil] at hi
  simp only [Pa,aY h,aW h,ha2,tkP,shP,Po,q,hfl,hfl',EW,simprocAttr]
  refine aH (fun hb=>?_) (fun hb=>?_)
  ·have hb':decide (n=n')=false:=by simpa using hb
   simp only [Pa,hb',Bool.false_and,EW,simprocAttr]
   exact hr _
  ·have hb':decide (n=n')=true:=by simpa using hb
   simp only [Pa,hb',Bool.true_and,hw,EW,simprocAttr]
   exact hi
def c35 (a b:List il) (ha:a.length<=100000) (he:∀n,n∈a->OZ n.node):af aV 35 [jf a,jf b,.func 32 []] []=some (.bool (decide (a=b)),[]):=by
 refine aq rfl rfl rfl ?_
 simp only [U3,Pa,EW,simprocAttr]
 refine aH (fun hb=>?_) (fun hb=>?_)
 ·have:decide (a=b)=false:=by
   simp at hb ⊢
   rintro rfl; exact hb rfl
  simp only [Pa,this,EW,simprocAttr]
 ·simp only [Pa,EW,simprocAttr]
  exact XA (R:=fun z=>some (.bool z,[])) ha he (fun e=>by simp only [Pa,EW,simprocAttr]) (fun M=>by simp only [Pa,EW,simprocAttr]) a b [] [] rfl rfl rfl (by simp at hb; omega)
def k35 (a b:List il) (ha:a.length<=100000) (he:∀n,n∈a->OZ n.node) (M:ai):an (af aV) 35 [jf a,jf b,.func 32 []] M=some (.bool (decide (a=b)),M):=cO (c35 a b ha he) M
def fsB (x y:aa):decide (x=y)=(decide (x.s.now=y.s.now)&&(x.s.tick==y.s.tick&&(x.s.next==y.s.next&&(decide (x.s.since=y.s.since)&&(decide (x.s.cP=y.s.cP)&&(decide (x.s.taken=y.s.taken)&&(decide (x.holds=y.holds)&&decide (x.ct=y.ct)))))))):=by
 obtain ⟨⟨a,b,c,d,e,f⟩,g,h⟩:=x
 obtain ⟨⟨a',b',c',d',e',f'⟩,g',h'⟩:=y
 simp only [aa.mk.injEq,eK.mk.injEq]
 rw [Bool.eq_iff_iff]
 simp only [decide_eq_true_eq,Bool.and_eq_true,beq_iff_eq]
 constructor
 ·rintro ⟨⟨h1,h2,h3,h4,h5,h6⟩,h7,h8⟩; exact ⟨h1,h2,h6,h3,h4,h5,h7,h8⟩
 ·rintro ⟨h1,h2,h6,h3,h4,h5,h7,h8⟩; exact ⟨⟨h1,h2,h3,h4,h5,h6⟩,h7,h8⟩
def Ti (x y:aa) (hx:nZ x):af aV 17 [.agg (bB x),.agg (bB y)] []=some (.bool (decide (x=y)),[]):=by
 rw [fsB]
 refine aq rfl rfl rfl ?_
 have hn:=hx.rt.sz.nodes
 have q1:=fun M=>k33 x.s.now y.s.now hx.rt.small M
 have q2:=fun M=>k34 x.s.since y.s.since (by have:=hx.len; omega) M
 have q3:=fun M=>k35 x.s.cP y.s.cP (by have:=hx.cP; omega) (fun n hn=>hx.zO n hn) M
 have q4:=fun M=>k36 x.s.taken y.s.taken (by have:=hx.taken; omega) M
 have q5:=fun M=>k37 x.holds y.holds (by have:=hx.hlen; omega) M
 have q6:=fun M=>k38 x.ct y.ct (by have:=hx.qp; omega) M
 simp only [UO,E17,bB,q1,q2,q3,q4,q5,q6,EW,simprocAttr]
 repeat' ((first|refine aH (fun hb=>?_) (fun hb=>?_)|refine bj (fun hb=>?_) (fun hb=>?_)|refine cj (fun hb=>?_) (fun hb=>?_))<;>simp only [hb,EW,E17,q2,q3,q4,q5,q6,simprocAttr])
 all_goals simp_all only [jZ,↓reduceIte,reduceCtorEq,bne_self_eq_false]
end
def t0:Tree:=⟨[⟨1,2,0,[],[],1⟩],2,1⟩
def f0:aa:=⟨⟨t0,0,[0],[],[],1⟩,[],[]⟩
def re (c:Int):List bq->Nat->Int
 | [],_ => -1
 |s::r,i=>if (s.aj==c)=true then i else re c r (i+1)
def nB (l:List bq) (c:Int):Int:=re c l 0
def bJ (l:List bq) (c:Int):Int:=match l.find? (fun s=>s.aj==c) with
 |some s=>s.seq
 |none=>0
def kH (c:Int):∀(l:List bq) (i:Nat),(re c l i = -1/\l.find? (fun s=>s.aj==c)=none) \/
  (∃j s,re c l i=((i+j:Nat):Int)/\l[j]?=some s/\s.aj=c/\l.find? (fun s=>s.aj==c)=some s)
 | [],i => .inl ⟨rfl,rfl⟩
 |s::r,i=>by
  rw [re,List.find?_cons]
  cases h:s.aj==c
  ·rcases kH c r (i+1) with ⟨h1,h2⟩|⟨j,x,h1,h2,h3,h4⟩
   ·exact .inl ⟨by simpa using h1,h2⟩
   ·exact .inr ⟨j+1,x,by simp only [Bool.false_eq_true,if_false]; rw [h1]; omega,h2,h3,h4⟩
  ·exact .inr ⟨0,s,by simp,rfl,by simpa using h,rfl⟩
section
attribute [local irreducible] cT cR gz gK bR kr af an aZ aK
def c26:af aV 26 [] []=some (.agg (aw t0),[]):=by
 refine aq rfl rfl rfl ?_
 simp only [UY,E26,EW,simprocAttr]
 rfl
def k26 (M:ai):an (af aV) 26 [] M=some (.agg (aw t0),M):=eH c26 rfl rfl rfl rfl rfl M
def k25 (M:ai):an (af aV) 25 [.agg [aF t0.nodes,.int .i64 t0.next,.int .i64 t0.ag]] M=some (.agg (bo f0.s),M):=cO (c25 t0 (by decide)) M
def c11:af aV 11 [] []=some (.agg (bB f0),[]):=by
 refine aq rfl rfl rfl ?_
 have q:=k26
 simp only [aw] at q
 simp only [UL,E11,q,k25,bo,EW,simprocAttr]
 rfl
def Vy (M:ai):an (af aV) 11 [] M=some (.agg (bB f0),M):=eH c11 rfl rfl rfl rfl rfl M
def Xu {xs:List bq} {c:Int} (hn:xs.length<=100000) {k:List K} {R:Int->Option (ae×ai)}
  (hx:∀e,kr (af aV) [.tmp 4] 0 k ⟨.exit 0,e,[]⟩=R (-1)) (hr:∀i:Nat,kr (af aV) [.tmp 4] 0 k ⟨.ret,[(4,.int .i64 i)],[]⟩=R i) :
  ∀(l pre:List bq),xs=pre++l->cT (af aV) [.tmp 4] 0 k (.loop [0,1,5] W6) [(0,bt xs),(1,.int .i64 c),(5,.int .i64 pre.length)] []=R (re c l pre.length):=by
 intro l
 induction l with
 |nil =>
  intro pre h
  rw [aE]
  simp only [Zd,bZ h,EW,simprocAttr]
  exact hx _
 |cons s rest ih =>
  intro pre h
  rw [aE]
  have hlen:pre.length+1<=100000:=by rw [h] at hn; simp at hn; omega
  have hw:IntKind.i64.wrap ((pre.length:Int)+1)=((pre++[s]).length:Int):=by rw [bw (by omega) (by omega)]; exact bp
  have hi:=ih (pre++[s]) (by rw [h]; simp)
  simp only [List.length_append,List.length_cons,List.length_nil,Nat.zero_add] at hi
  rw [re]
  cases he:s.aj==c<;>simp only [Zd,aY h,aW h,he,hw,bK,bU,ba,if_true,Bool.false_eq_true,if_false,EW,simprocAttr]
  ·exact hi
  ·exact hr _
def c18 (xs:List bq) (c:Int) (hn:xs.length<=100000):af aV 18 [bt xs,.int .i64 c] []=some (.int .i64 (nB xs c),[]):=by
 refine aq rfl rfl rfl ?_
 simp only [UQ,Zd,EW,simprocAttr]
 exact Xu hn (R:=fun z=>some (.int .i64 z,[])) (fun e=>by simp only [Zd,EW,simprocAttr]) (fun i=>by simp only [Zd,EW,simprocAttr]) xs [] rfl
def k18 (xs:List bq) (c:Int) (hn:xs.length<=100000) (M:ai):an (af aV) 18 [bt xs,.int .i64 c] M=some (.int .i64 (nB xs c),M):=cO (c18 xs c hn) M
def c14 (xs:List bq) (c:Int) (hn:xs.length<=100000):af aV 14 [bt xs,.int .i64 c] []=some (.int .i64 (bJ xs c),[]):=by
 refine aq rfl rfl rfl ?_
 have q:=fun M=>k18 xs c hn M
 unfold bJ
 have hz:((-1:Int)<0)=True:=by simp
 rcases kH c xs 0 with ⟨h1,h2⟩|⟨j,s,h1,h2,_,h4⟩
 ·have h1:nB xs c = -1:=h1
  rw [h1] at q
  rw [h2]
  simp only [PZ,E14,q,hz,EW,simprocAttr]
 ·have h1:nB xs c=(j:Int):=by rw [Nat.zero_add] at h1; exact h1
  rw [h1] at q
  rw [h4]
  have hj:((j:Int)<0)=False:=by simp only [eq_iff_iff,iff_false]; omega
  have hl:((j:Int)<(xs.length:Int))=True:=by have:=(List.getElem?_eq_some_iff.1 h2).1; simp only [eq_iff_iff,iff_true]; omega
  simp only [PZ,E14,q,hj,hl,h2,bK,bU,ba,EW,simprocAttr]
def Lv (xs:List bq) (c:Int) (hn:xs.length<=100000) (M:ai):an (af aV) 14 [bt xs,.int .i64 c] M=some (.int .i64 (bJ xs c),M):=cO (c14 xs c hn) M
def Ef (l:List bq):Prop:=∀p,p∈l -> -1000000000000000<=p.seq/\p.seq<=1000000000000000
def Ef.last {l:List bq} (h:Ef l) (c:Int) : -1000000000000000<=bJ l c/\bJ l c<=1000000000000000:=by
 unfold bJ
 split
 ·rename_i s hs; exact h s (List.mem_of_find?_eq_some hs)
 ·omega
def c24 (s:Bytes):af aV 24 [.str s] []=some (.agg (cz ⟨2,0,s,[],2,0,0,[]⟩),[]):=by
 refine aq rfl rfl rfl ?_
 simp only [UW,E24,EW,simprocAttr]
 rfl
end
def AV {α:Type} [DecidableEq α] (a b:α) (l m:List α):decide (a::l=b::m)=(decide (a=b)&&decide (l=m)):=by
 rw [Bool.eq_iff_iff]; simp
def neB {α:Type} [DecidableEq α] [BEq α] [LawfulBEq α] (a b:α):(a != b) = !decide (a=b):=by
 rw [Bool.eq_iff_iff]; simp
def ajj (a b:UInt8):((a.toNat:Int) != (b.toNat:Int))=(a != b):=by
 rw [Bool.eq_iff_iff]
 simp only [bne_iff_ne,ne_eq]
 have:((a.toNat:Int)=(b.toNat:Int))↔a=b:=by
  rw [Int.ofNat_inj]; exact UInt8.toNat_inj
 rw [this]
def afe (a b:oV):decide (a=b)=(!(a.err != b.err)&&(!(a.ino != b.ino)&&(!(a.kind != b.kind)&&(!(a.n != b.n)&&(!(a.m != b.m)&&(!((a.names.length:Int) != (b.names.length:Int))&&(!((a.data.length:Int) != (b.data.length:Int))&&(decide (a.names=b.names)&&decide (a.data=b.data))))))))):=by
 obtain ⟨a1,a2,a3,a4,a5,a6,a7⟩:=a
 obtain ⟨b1,b2,b3,b4,b5,b6,b7⟩:=b
 simp only [oV.mk.injEq]
 rw [Bool.eq_iff_iff]
 simp only [decide_eq_true_eq,Bool.and_eq_true,Bool.not_eq_true',bne_eq_false_iff_eq]
 constructor
 ·rintro ⟨rfl,rfl,rfl,rfl,rfl,rfl,rfl⟩; simp
 ·rintro ⟨h1,h2,h3,h4,h5,_,_,h6,h7⟩; exact ⟨h1,h2,h3,h4,h5,h6,h7⟩
section
attribute [local irreducible] cT cR gz gK bR kr af an aZ aK
def QS {a b:oV} (ha:a.names.length<=90000) {k:List K} {R:Bool->Option (ae×ai)}
  (hx:∀e,kr (af aV) [.tmp 4] 0 k ⟨.exit 0,(2,.ptr 0 0)::(3,.ptr 1 0)::e,[.cells (ba a),.cells (ba b)]⟩=R true) (hr:∀M,kr (af aV) [.tmp 4] 0 k ⟨.ret,[(4,.bool false)],M⟩=R false) :
  ∀(l m pre pre':List Bytes),a.names=pre++l->b.names=pre'++m->pre.length=pre'.length->l.length=m.length->cT (af aV) [.tmp 4] 0 k (.loop [2,3,5] WZ) [(2,.ptr 0 0),(3,.ptr 1 0),(5,.int .i64 pre.length)] [.cells (ba a),.cells (ba b)]=R (decide (l=m)):=by
 simp only [ba] at hx ⊢
 intro l
 induction l with
 |nil =>
  intro m pre pre' h h' hp hl
  have hm:m=[]:=List.length_eq_zero_iff.1 hl.symm
  subst hm
  rw [aE]
  simp only [OY,bZ h,EW,simprocAttr]
  exact hx _
 |cons n r ih =>
  intro m pre pre' h h' hp hl
  cases m with
  |nil=>cases hl
  |cons n' m =>
  rw [aE]
  have hlen:pre.length+1<=100000:=by rw [h] at ha; simp at ha; omega
  have hw:IntKind.i64.wrap ((pre.length:Int)+1)=((pre++[n]).length:Int):=by rw [bw (by omega) (by omega)]; exact bp
  have hi:=ih m (pre++[n]) (pre'++[n']) (by rw [h]; simp) (by rw [h']; simp) (by simp [hp]) (by simpa using hl)
  have ha2:b.names[pre.length]?=some n':=by rw [hp]; exact aW h'
  have hl2:((pre.length:Int)<(b.names.length:Int))=True:=by rw [hp]; exact aY h'
  rw [AV]
  simp only [List.length_append,List.length_cons,List.length_nil,Nat.zero_add] at hi
  have hne:=neB n n'
  cases hb:decide (n=n')<;>simp only [OY,aY h,aW h,ha2,hl2,hne,hb,hw,Bool.not_true,Bool.not_false,Bool.true_and,Bool.false_and,EW,simprocAttr]
  ·exact hr _
  ·exact hi
def QT {a b:oV} (ha:a.data.length<=90000) {k:List K} {R:Bool->Option (ae×ai)}
  (hx:∀e,kr (af aV) [.tmp 4] 0 k ⟨.exit 2,e,[.cells (ba a),.cells (ba b)]⟩=R true) (hr:∀M,kr (af aV) [.tmp 4] 0 k ⟨.ret,[(4,.bool false)],M⟩=R false) :
  ∀(l m pre pre':Bytes),a.data=pre++l->b.data=pre'++m->pre.length=pre'.length->l.length=m.length->cT (af aV) [.tmp 4] 0 k (.loop [2,3,6] W0) [(2,.ptr 0 0),(3,.ptr 1 0),(6,.int .i64 pre.length)] [.cells (ba a),.cells (ba b)]=R (decide (l=m)):=by
 simp only [ba] at hx ⊢
 intro l
 induction l with
 |nil =>
  intro m pre pre' h h' hp hl
  have hm:m=[]:=List.length_eq_zero_iff.1 hl.symm
  subst hm
  rw [aE]
  simp only [OY,bZ h,EW,simprocAttr]
  exact hx _
 |cons n r ih =>
  intro m pre pre' h h' hp hl
  cases m with
  |nil=>cases hl
  |cons n' m =>
  rw [aE]
  have hlen:pre.length+1<=100000:=by rw [h] at ha; simp at ha; omega
  have hw:IntKind.i64.wrap ((pre.length:Int)+1)=((pre++[n]).length:Int):=by rw [bw (by omega) (by omega)]; exact bp
  have hi:=ih m (pre++[n]) (pre'++[n']) (by rw [h]; simp) (by rw [h']; simp) (by simp [hp]) (by simpa using hl)
  have ha2:b.data[pre.length]?=some n':=by rw [hp]; exact aW h'
  have hl2:((pre.length:Int)<(b.data.length:Int))=True:=by rw [hp]; exact aY h'
  rw [AV]
  simp only [List.length_append,List.length_cons,List.length_nil,Nat.zero_add] at hi
  have hne:=neB n n'
  cases hb:decide (n=n')<;>simp only [OY,aY h,aW h,ha2,hl2,jt,ajj,hne,hb,hw,Bool.not_true,Bool.not_false,Bool.true_and,Bool.false_and,EW,simprocAttr]
  ·exact hr _
  ·exact hi
def c16 (a b:oV) (ha:jU a):af aV 16 [.agg (ba a),.agg (ba b)] []=some (.bool (decide (a=b)),[]):=by
 rw [afe]
 refine aq rfl rfl rfl ?_
 have l1:=fun {k R}=>QS (a:=a) (b:=b) ha.names (k:=k) (R:=R)
 have l2:=fun {k R}=>QT (a:=a) (b:=b) ha.data (k:=k) (R:=R)
 simp only [ba] at l1 l2
 simp only [UN,OY,ba,EW,simprocAttr]
 repeat' ((first|refine aH (fun hb=>?_) (fun hb=>?_)|refine bj (fun hb=>?_) (fun hb=>?_)|refine cj (fun hb=>?_) (fun hb=>?_))<;>simp only [hb,EW,OY,simprocAttr])
 all_goals try (clear l1 l2; simp_all only [jZ,↓reduceIte,reduceCtorEq,bne_self_eq_false]; done)
 have hl1:a.names.length=b.names.length:=by clear l1 l2; simp_all; omega
 have hl2:a.data.length=b.data.length:=by clear l1 l2; simp_all; omega
 refine (l1 (R:=fun z=>some (.bool (z&&decide (a.data=b.data)),[])) (fun e=>?_) (fun M=>by simp only [OY,Bool.false_and,EW,simprocAttr]) a.names b.names [] [] rfl rfl rfl hl1).trans ?_
 ·simp only [OY,Bool.true_and,EW,simprocAttr]
  exact l2 (R:=fun z=>some (.bool z,[])) (fun e=>by simp only [OY,EW,simprocAttr]) (fun M=>by simp only [OY,EW,simprocAttr]) a.data b.data [] [] rfl rfl rfl hl2
 ·clear l1 l2; simp_all
def Qc (a b:oV) (ha:jU a) (M:ai):an (af aV) 16 [.agg (ba a),.agg (ba b)] M=some (.bool (decide (a=b)),M):=cO (c16 a b ha) M
def adY (x y:bq):decide (x=y)=(!(!decide (x.nj=y.nj))&&(!(x.aj != y.aj) && !(x.seq != y.seq))):=by
 obtain ⟨a1,a2,a3⟩:=x
 obtain ⟨b1,b2,b3⟩:=y
 simp only [bq.mk.injEq]
 rw [Bool.eq_iff_iff]
 simp only [decide_eq_true_eq,Bool.and_eq_true,Bool.not_eq_true',bne_eq_false_iff_eq,Bool.not_not]
 constructor
 ·rintro ⟨rfl,rfl,rfl⟩; simp
 ·rintro ⟨h1,h2,h3⟩; exact ⟨h2,h3,h1⟩
def Xt {a b:List bq} (ha:a.length<=100000) (hk:∀s,s∈a->jU s.nj) {k:List K} {R:Bool->Option (ae×ai)}
  (hx:∀e,kr (af aV) [.tmp 4] 0 k ⟨.exit 0,e,[]⟩=R true) (hr:kr (af aV) [.tmp 4] 0 k ⟨.ret,[(4,.bool false)],[]⟩=R false) :
  ∀(l m pre pre':List bq),a=pre++l->b=pre'++m->pre.length=pre'.length->l.length=m.length->cT (af aV) [.tmp 4] 0 k (.loop [0,1,5] WY) [(0,bt a),(1,bt b),(5,.int .i64 pre.length)] []=R (decide (l=m)):=by
 intro l
 induction l with
 |nil =>
  intro m pre pre' h h' hp hl
  have hm:m=[]:=List.length_eq_zero_iff.1 hl.symm
  subst hm
  rw [aE]
  simp only [T5,bZ h,EW,simprocAttr]
  exact hx _
 |cons n r ih =>
  intro m pre pre' h h' hp hl
  cases m with
  |nil=>cases hl
  |cons n' m =>
  rw [aE]
  have hlen:pre.length+1<=100000:=by rw [h] at ha; simp at ha; omega
  have hw:IntKind.i64.wrap ((pre.length:Int)+1)=((pre++[n]).length:Int):=by rw [bw (by omega) (by omega)]; exact bp
  have hi:=ih m (pre++[n]) (pre'++[n']) (by rw [h]; simp) (by rw [h']; simp) (by simp [hp]) (by simpa using hl)
  have ha2:b[pre.length]?=some n':=by rw [hp]; exact aW h'
  have hl2:((pre.length:Int)<(b.length:Int))=True:=by rw [hp]; exact aY h'
  have q:=fun M=>Qc n.nj n'.nj (hk n (by rw [h]; simp)) M
  have hdc:decide (n::r=n'::m)=(decide (n=n')&&decide (r=m)):=by
   rw [Bool.eq_iff_iff]; simp
  rw [hdc,adY]
  simp only [List.length_append,List.length_cons,List.length_nil,Nat.zero_add] at hi
  simp only [ba] at q
  generalize decide (n.nj=n'.nj)=d at q ⊢
  cases d<;>cases h1:n.aj != n'.aj<;>cases h2:n.seq != n'.seq <;>
   simp only [T5,aY h,aW h,ha2,hl2,h1,h2,q,bK,bU,ba,hw,Bool.not_true,Bool.not_false,Bool.true_and,Bool.false_and,Bool.and_false,EW,simprocAttr]<;>first|exact hi|exact hr
def c15 (a b:List bq) (ha:a.length<=100000) (hk:∀s,s∈a->jU s.nj):af aV 15 [bt a,bt b] []=some (.bool (decide (a=b)),[]):=by
 refine aq rfl rfl rfl ?_
 simp only [UM,T5,EW,simprocAttr]
 refine aH (fun hb=>?_) (fun hb=>?_)
 ·have:decide (a=b)=false:=by
   simp at hb ⊢
   rintro rfl; exact hb rfl
  simp only [T5,this,EW,simprocAttr]
 ·simp only [T5,EW,simprocAttr]
  exact Xt (R:=fun z=>some (.bool z,[])) ha hk (fun e=>by simp only [T5,EW,simprocAttr]) (by simp only [T5,EW,simprocAttr]) a b [] [] rfl rfl rfl (by simp at hb; omega)
def k15 (a b:List bq) (ha:a.length<=100000) (hk:∀s,s∈a->jU s.nj) (M:ai):an (af aV) 15 [bt a,bt b] M=some (.bool (decide (a=b)),M):=cO (c15 a b ha hk) M
end
structure cC where
 aj:Int
 seq:Int
 op:dL
 deriving DecidableEq,Inhabited
def bO (c:cC):List ae := .int .i64 c.aj :: .int .i64 c.seq::cz c.op
def eB (c:cC):ae := .agg (bO c)
abbrev eh (l:List cC):ae := .slice .sh (l.map eB)
def AI (n:cC):(eB n).cells=bO n:=rfl
def Dr (n:cC):(bO n).length=10:=rfl
def Hz (l:List cC):wid (l.map eB) 10=True:=lA eB _ (fun _=>rfl) l
def tkC (n:cC):List.take 10 (bO n)=bO n:=rfl
def shC (n:cC):List.map ae.shut (bO n)=bO n:=rfl
set_option linter.defProp false in
def rH:=And.intro @AI (And.intro @Dr (And.intro @Hz (And.intro @tkC (@shC))))
def k8 (x:bq):List bq->Bool->List bq
 | [],d=>if (!d)=true then [x] else []
 |s::r,d=>(if (!d&&decide (x.aj<=s.aj))=true then [x] else [])++((if (s.aj != x.aj)=true then [s] else [])++k8 x r (d||decide (x.aj<=s.aj)))
def jQ (l:List bq) (c s:Int) (a:oV):List bq:=k8 ⟨c,s,a⟩ l false
def iH:Option Int->List bq->Bool
 |_,[]=>true
 |p,s::r=>if (decide (s.aj<0)||(decide (16<=s.aj)||(decide (s.seq<1)||(decide (1099511627776<s.seq)||(match p with|some q=>decide (s.aj<=q)|none=>false)))))=true then false else iH (some s.aj) r
def ry (l:List bq):Bool:=iH none l
def pY:List cC->Bool
 | []=>false
 |c::r=>if (decide (400<(c.op.path.length:Int))||(decide (400<(c.op.ng.length:Int))||decide (400<(c.op.data.length:Int))))=true then true else pY r
def lR (l:List cC):Bool:=if decide (40<(l.length:Int))=true then true else pY l
section
attribute [local irreducible] cT cR gz gK bR kr af an aZ aK
def Lr (s:bq):(bU s).all ae.cZ=true:=rfl
def N4 (s:bq):(bU s).all ae.plainCell=true:=rfl
def Xw {xs:List bq} (hn:xs.length<=100000) {k:List K} {R:Bool->Option (ae×ai)}
  (hx:∀e M,kr (af aV) [.tmp 2] 0 k ⟨.exit 0,e,M⟩=R true) (hr:∀M,kr (af aV) [.tmp 2] 0 k ⟨.ret,[(2,.bool false)],M⟩=R false) :
  ∀(l pre:List bq),xs=pre++l->cT (af aV) [.tmp 2] 0 k (.loop [0,5,6,7] W8) [(0,bt xs),(5,bt xs),(6,.int .i64 xs.length),(7,.int .i64 pre.length)] []=R (iH (pre.getLast?.map bq.aj) l):=by
 intro l
 induction l with
 |nil =>
  intro pre h
  rw [aE]
  simp only [Cm,bZ h,iH,EW,simprocAttr]
  exact hx _ _
 |cons s rest ih =>
  intro pre h
  rw [aE]
  have hlen:pre.length+1<=100000:=by rw [h] at hn; simp at hn; omega
  have hw:IntKind.i64.wrap ((pre.length:Int)+1)=((pre++[s]).length:Int):=by rw [bw (by omega) (by omega)]; exact bp
  have hi:=ih (pre++[s]) (by rw [h]; simp)
  have hl:(pre++[s]).getLast?.map bq.aj=some s.aj:=by simp
  rw [hl] at hi
  simp only [List.length_append,List.length_cons,List.length_nil,Nat.zero_add] at hi
  rcases List.eq_nil_or_concat pre with h0|⟨L,q,hq⟩
  ·have hp:decide ((0:Int)<(pre.length:Int))=false:=by rw [h0]; rfl
   have hg:pre.getLast?.map bq.aj=none:=by rw [h0]; rfl
   rw [hg,iH]
   cases h1:decide (s.aj<0)
   ·cases h2:decide (16<=s.aj)
    ·cases h3:decide (s.seq<1)
     ·cases h4:decide (1099511627776<s.seq)
      ·simp only [Cm,aY h,aW h,hp,h1,h2,h3,h4,hw,bK,bU,ba,Bool.or_true,Bool.true_or,Bool.or_false,Bool.false_or,if_true,Bool.false_eq_true,if_false,EW,simprocAttr]
       exact hi
      ·simp only [Cm,aY h,aW h,hp,h1,h2,h3,h4,hw,bK,bU,ba,Bool.or_true,Bool.true_or,Bool.or_false,Bool.false_or,if_true,Bool.false_eq_true,if_false,EW,simprocAttr]
       exact hr _
     ·simp only [Cm,aY h,aW h,hp,h1,h2,h3,hw,bK,bU,ba,Bool.or_true,Bool.true_or,Bool.or_false,Bool.false_or,if_true,Bool.false_eq_true,if_false,EW,simprocAttr]
      exact hr _
    ·simp only [Cm,aY h,aW h,hp,h1,h2,hw,bK,bU,ba,Bool.or_true,Bool.true_or,Bool.or_false,Bool.false_or,if_true,Bool.false_eq_true,if_false,EW,simprocAttr]
     exact hr _
   ·simp only [Cm,aY h,aW h,hp,h1,hw,bK,bU,ba,Bool.or_true,Bool.true_or,Bool.or_false,Bool.false_or,if_true,Bool.false_eq_true,if_false,EW,simprocAttr]
    exact hr _
  ·have hp:decide ((0:Int)<(pre.length:Int))=true:=by rw [hq]; simp
   have hg:pre.getLast?.map bq.aj=some q.aj:=by rw [hq]; simp
   have hw1:IntKind.i64.wrap ((pre.length:Int)-1)=(L.length:Int):=by rw [bw (by omega) (by omega),hq]; simp
   have hq':xs=L++q::s::rest:=by rw [h,hq]; simp
   rw [hg,iH]
   obtain ⟨b5,h5⟩:∃b,decide (s.aj<=q.aj)=b:=⟨_,rfl⟩
   cases h1:decide (s.aj<0)
   ·cases h2:decide (16<=s.aj)
    ·cases h3:decide (s.seq<1)
     ·cases h4:decide (1099511627776<s.seq)
      ·cases b5
       ·simp only [Cm,aY h,aW h,hp,hw1,aY hq',aW hq',h1,h2,h3,h4,h5,hw,bK,bU,ba,Bool.or_true,Bool.true_or,Bool.or_false,Bool.false_or,if_true,Bool.false_eq_true,if_false,EW,simprocAttr]
        exact hi
       ·simp only [Cm,aY h,aW h,hp,hw1,aY hq',aW hq',h1,h2,h3,h4,h5,hw,bK,bU,ba,Bool.or_true,Bool.true_or,Bool.or_false,Bool.false_or,if_true,Bool.false_eq_true,if_false,EW,simprocAttr]
        exact hr _
      ·simp only [Cm,aY h,aW h,hp,hw1,aY hq',aW hq',h1,h2,h3,h4,hw,bK,bU,ba,Bool.or_true,Bool.true_or,Bool.or_false,Bool.false_or,if_true,Bool.false_eq_true,if_false,EW,simprocAttr]
       exact hr _
     ·simp only [Cm,aY h,aW h,hp,hw1,aY hq',aW hq',h1,h2,h3,hw,bK,bU,ba,Bool.or_true,Bool.true_or,Bool.or_false,Bool.false_or,if_true,Bool.false_eq_true,if_false,EW,simprocAttr]
      exact hr _
    ·simp only [Cm,aY h,aW h,hp,hw1,aY hq',aW hq',h1,h2,hw,bK,bU,ba,Bool.or_true,Bool.true_or,Bool.or_false,Bool.false_or,if_true,Bool.false_eq_true,if_false,EW,simprocAttr]
     exact hr _
   ·simp only [Cm,aY h,aW h,hp,hw1,aY hq',aW hq',h1,hw,bK,bU,ba,Bool.or_true,Bool.true_or,Bool.or_false,Bool.false_or,if_true,Bool.false_eq_true,if_false,EW,simprocAttr]
    exact hr _
def c21 (xs:List bq) (hn:xs.length<=100000):af aV 21 [bt xs] []=some (.bool (ry xs),[]):=by
 refine aq rfl rfl rfl ?_
 simp only [US,Cm,EW,simprocAttr]
 exact Xw hn (R:=fun z=>some (.bool z,[])) (fun e M=>by simp only [Cm,EW,simprocAttr]) (fun M=>by simp only [Cm,EW,simprocAttr]) xs [] rfl
def YX (xs:List bq) (hn:xs.length<=100000) (M:ai):an (af aV) 21 [bt xs] M=some (.bool (ry xs),M):=cO (c21 xs hn) M
end
def dp (c:Int):Int:=(c.tmod 4+4).tmod 4
def Fq (c:Int) : -4<c.tmod 4/\c.tmod 4<4:=by
 have h:=Int.tmod_def c 4
 by_cases hc:c<0
 ·have:=Int.tmod_nonneg (a := -c) 4 (by omega)
  have h2:=Int.tmod_lt_of_pos (-c) (b:=4) (by omega)
  rw [Int.neg_tmod] at this h2
  omega
 ·have:=Int.tmod_nonneg (a:=c) 4 (by omega)
  have h2:=Int.tmod_lt_of_pos c (b:=4) (by omega)
  omega
def Q8 (c:Int):0<=dp c/\dp c<4:=by
 have h:=Fq c
 unfold dp
 exact ⟨Int.tmod_nonneg 4 (by omega),Int.tmod_lt_of_pos _ (by omega)⟩
def uV (c:Int):List cC->List Bool->Int×Bool->Int×Bool
 |x::l,d::ds,s=>uV c l ds (if (dp x.aj==c)=true then (s.1+1,s.2&&d) else s)
 |_,_,s=>s
def gy (l:List cC) (done:List Bool) (k:Nat):Int×Bool:=uV (dp (l.getD k default).aj) (l.take k) done (1,!(done.getD k false))
section
attribute [local irreducible] cT cR gz gK bR kr af an aZ aK
def Xr {xs:List cC} (hn:xs.length<=100000) {k:List K} {R:Bool->Option (ae×ai)}
  (hx:∀e,kr (af aV) [.tmp 2] 0 k ⟨.exit 0,e,[]⟩=R false) (hr:kr (af aV) [.tmp 2] 0 k ⟨.ret,[(2,.bool true)],[]⟩=R true) :
  ∀(l pre:List cC),xs=pre++l->cT (af aV) [.tmp 2] 0 k (.loop [0,3] WX) [(0,eh xs),(3,.int .i64 pre.length)] []=R (pY l):=by
 intro l
 induction l with
 |nil =>
  intro pre h
  rw [aE]
  simp only [Y3,bZ h,pY,EW,simprocAttr]
  exact hx _
 |cons s rest ih =>
  intro pre h
  rw [aE]
  have hlen:pre.length+1<=100000:=by rw [h] at hn; simp at hn; omega
  have hw:IntKind.i64.wrap ((pre.length:Int)+1)=((pre++[s]).length:Int):=by rw [bw (by omega) (by omega)]; exact bp
  have hi:=ih (pre++[s]) (by rw [h]; simp)
  simp only [List.length_append,List.length_cons,List.length_nil,Nat.zero_add] at hi
  rw [pY]
  cases h1:decide (400<(s.op.path.length:Int))<;>cases h2:decide (400<(s.op.ng.length:Int))<;>cases h3:decide (400<(s.op.data.length:Int)) <;>
   simp only [Y3,aY h,aW h,h1,h2,h3,hw,rH,eB,bO,cz,Bool.or_true,Bool.true_or,Bool.or_false,Bool.false_or,if_true,Bool.false_eq_true,if_false,EW,simprocAttr]<;>first|exact hi|exact hr
def c10 (xs:List cC):af aV 10 [eh xs] []=some (.bool (lR xs),[]):=by
 refine aq rfl rfl rfl ?_
 unfold lR
 cases h0:decide (40<(xs.length:Int))<;>simp only [UK,Y3,h0,if_true,Bool.false_eq_true,if_false,EW,simprocAttr]
 exact Xr (by simp at h0; omega) (R:=fun z=>some (.bool z,[])) (fun e=>by simp only [Y3,EW,simprocAttr]) (by simp only [Y3,EW,simprocAttr]) xs [] rfl
def YW (xs:List cC) (M:ai):an (af aV) 10 [eh xs] M=some (.bool (lR xs),M):=cO (c10 xs) M
def Xy {xs:List cC} {ds:List Bool} {kk:Nat} {x:cC} (hn:xs.length<=1000) (hd:ds.length=xs.length) (hk:xs[kk]?=some x) {A B C:aQ} (hA:∀n M,aQ.back n M A=A) (hB:∀n M,aQ.back n M B=B) (hC:∀n M,aQ.back n M C=C) {k:List K} {R:Int×Bool->Option (ae×ai)}
  (hx:∀n t e,kr (af aV) [.tmp 6,.tmp 7] 4 k ⟨.exit 0,(0,eh xs)::(1,.bu 2 0 1 0 ds.length)::(2,.int .i64 kk)::(8,.int .i64 n)::(9,.bool t)::e,[A,B,.arr 1 0 (ds.map ae.bool),C]⟩=R (n,t)) :
  ∀(l:List cC) (e:List Bool) (pre post:List cC) (epre:List Bool) (n:Int) (t:Bool),xs=pre++(l++post)->ds=epre++e->pre.length=epre.length->pre.length+l.length=kk->0<=n->n<=1+pre.length ->
   cT (af aV) [.tmp 6,.tmp 7] 4 k (.loop [0,1,2,8,9,10] W9) [(0,eh xs),(1,.bu 2 0 1 0 ds.length),(2,.int .i64 kk),(8,.int .i64 n),(9,.bool t),(10,.int .i64 pre.length)] [A,B,.arr 1 0 (ds.map ae.bool),C]=R (uV (dp x.aj) l e (n,t)):=by
 intro l
 induction l with
 |nil =>
  intro e pre post epre n t h h' hp hkk h0 h1
  rw [aE]
  have hlt:((pre.length:Int)<(kk:Int))=False:=by simp at hkk; simp only [eq_iff_iff,iff_false]; omega
  have:uV (dp x.aj) [] e (n,t)=(n,t):=by cases e<;>rfl
  rw [this]
  simp only [E23,hlt,EW,simprocAttr]
  exact hx _ _ _
 |cons y rest ih =>
  intro e pre post epre n t h h' hp hkk h0 h1
  have hkl:=(List.getElem?_eq_some_iff.1 hk).1
  cases e with
  |nil=>exfalso; rw [h',List.append_nil,<-hp] at hd; rw [h] at hd; simp at hd
  |cons d ds' =>
  rw [aE]
  simp only [List.length_cons] at hkk
  have hlt:((pre.length:Int)<(kk:Int))=True:=by simp only [eq_iff_iff,iff_true]; omega
  have hw:IntKind.i64.wrap ((pre.length:Int)+1)=((pre++[y]).length:Int):=by rw [bw (by omega) (by omega)]; exact bp
  have hwn:IntKind.i64.wrap (n+1)=n+1:=bw (by omega) (by omega)
  have i1:=ih ds' (pre++[y]) post (epre++[d]) n t (by rw [h]; simp) (by rw [h']; simp) (by simp [hp]) (by simp; omega) h0 (by simp; omega)
  have i2:=ih ds' (pre++[y]) post (epre++[d]) (n+1) (t&&d) (by rw [h]; simp) (by rw [h']; simp) (by simp [hp]) (by simp; omega) (by omega) (by simp; omega)
  simp only [List.length_append,List.length_cons,List.length_nil,Nat.zero_add] at i1 i2
  have h2:xs=pre++y::(rest++post):=by rw [h]; simp
  have hklt:((kk:Int)<(xs.length:Int))=True:=by simp only [eq_iff_iff,iff_true]; omega
  have hy:=Fq y.aj
  have hx4:=Fq x.aj
  have w1:IntKind.i64.wrap (y.aj.tmod 4+4)=y.aj.tmod 4+4:=bw (by omega) (by omega)
  have w2:IntKind.i64.wrap (x.aj.tmod 4+4)=x.aj.tmod 4+4:=bw (by omega) (by omega)
  have hplt:(pre.length<ds.length)=True:=by simp only [eq_iff_iff,iff_true]; rw [h']; simp; omega
  have hdg:ds[pre.length]?=some d:=by rw [hp]; exact aW h'
  have hdlt:((pre.length:Int)<(ds.length:Int))=True:=by simp only [eq_iff_iff,iff_true]; rw [h']; simp; omega
  rw [uV]
  have hm:(dp y.aj==dp x.aj)=((y.aj.tmod 4+4).tmod 4==(x.aj.tmod 4+4).tmod 4):=rfl
  rw [hm]
  cases he:(y.aj.tmod 4+4).tmod 4==(x.aj.tmod 4+4).tmod 4<;>cases t <;>
   simp only [E23,hA,hB,hC,hlt,aY h2,aW h2,hklt,hk,he,w1,w2,hw,hwn,hplt,hdlt,hdg,Nat.sub_zero,rH,eB,bO,cz,Bool.true_and,Bool.false_and,if_true,Bool.false_eq_true,if_false,EW,simprocAttr]<;>first|exact i1|exact i2
def c23 (xs:List cC) (ds:List Bool) (kk:Nat) (x:cC) (hn:xs.length<=1000) (hd:ds.length=xs.length) (hk:xs[kk]?=some x) {A B C:aQ} (hA:∀n M,aQ.back n M A=A) (hB:∀n M,aQ.back n M B=B) (hC:∀n M,aQ.back n M C=C) :
  af aV 23 [eh xs,.bu 2 0 1 0 ds.length,.int .i64 kk] [A,B,.arr 1 0 (ds.map ae.bool),C]=some (.tuple [.int .i64 (gy xs ds kk).1,.bool (gy xs ds kk).2],[A,B,.arr 1 0 (ds.map ae.bool),C]):=by
 refine aq rfl rfl rfl ?_
 have hkl:=(List.getElem?_eq_some_iff.1 hk).1
 have hdk:ds[kk]?=some (ds.getD kk false):=by rw [List.getD_eq_getElem?_getD,List.getElem?_eq_getElem (by omega)]; rfl
 have hklt:((kk:Int)<(ds.length:Int))=True:=by simp only [eq_iff_iff,iff_true]; omega
 have hkln:(kk<ds.length)=True:=by simp only [eq_iff_iff,iff_true]; omega
 have hx:xs.getD kk default=x:=by rw [List.getD_eq_getElem?_getD,hk]; rfl
 unfold gy
 rw [hx]
 simp only [UU,E23,hklt,hkln,hdk,Nat.sub_zero,EW,simprocAttr]
 exact Xy (x:=x) hn hd hk hA hB hC (R:=fun z=>some (.tuple [.int .i64 z.1,.bool z.2],[A,B,.arr 1 0 (ds.map ae.bool),C])) (fun n t e=>by simp only [E23,hA,hB,hC,EW,simprocAttr]) (xs.take kk) ds [] (xs.drop kk) [] 1 _ (by simp) rfl rfl (by simp; omega) (by omega) (by simp)
end
end Go.Proofs.YtdbadpnkhaepnaaGreatDoor
namespace Go.Proofs.YtdbadpnkhaepnaaGreatDoor
section
open Go Go.Abs Go.ChangeShapes Go.WideShapes Go.ChangeAt Go.RowKit Go.Deep
def laidOut:laidOutB Tryz.prog=true:=by kernel_rfl
section
variable {H:Type} {enc:TypeId×Value->H}
def gq {W W':World} (hb:Below W.heap.size W W'):∀ {ts:List TypeId} {vs:List Value} {ds:List (DataW H)} {p:List MemPlace},DataW.TrodAll enc Tryz.prog W 0 (fun _=>true) true ts vs ds p ->
  (∀t,t∈ts->Tryz.prog.readableRec t=true/\t<Tryz.prog.types.size)->(∀x∈p,x.block<W.heap.size)->DataW.TrodAll enc Tryz.prog W' 0 (fun b=>decide (b<W.heap.size)) true ts vs ds p
 | [],vs,ds,p,h,_,_=>by
  obtain ⟨rfl,rfl,rfl⟩:=trodAll_nil h
  exact trodAll_mk0
 |t::ts,vs,ds,p,h,ht,hp=>by
  obtain ⟨v,vs',d,ds',p1,q,rfl,rfl,rfl,h1,h2⟩:=trodAll_cons h
  exact trodAll_cons_mk (Below.trod laidOut (ht t List.mem_cons_self).1 (ht t List.mem_cons_self).2 h1 hb (fun x hx=>hp x (List.mem_append_left _ hx)))
   (gq hb h2 (fun t ht'=>ht t (List.mem_cons_of_mem _ ht')) (fun x hx=>hp x (List.mem_append_right _ hx)))
abbrev vE (w:World):Nat->Nat->Prop:=gv GB [] w
def Oy {w:World} {b off:Nat} (h:b<w.heap.size):vE w b off:=⟨h,fun id hid=>absurd hid (Nat.not_lt_zero _),fun hx=>hx⟩
def fM (b off i:Nat):(⟨b,off,none⟩:Addr).add i=⟨b,off+i,none⟩:=by
 unfold Addr.add
 split
 ·rename_i h; rw [h]; rfl
 ·rfl
def ig {w:World} {fuel t:Nat} {v:Value} {x:DataW H×List MemPlace} (ht:Tryz.prog.underlying t=some (.int .i64)) (h:DataW.trod enc Tryz.prog w 0 (fun _=>true) true fuel t [v]=some x):∃n:Int,bX w (vE w) (.int .i64 n) v:=by
 obtain ⟨n,q,_,_⟩:=DataW.trod_int ht h
 cases q
 exact ⟨n,.int _ _⟩
def YF {w:World} {fuel t:Nat} {v:Value} {x:DataW H×List MemPlace} (ht:Tryz.prog.underlying t=some (.int .u8)) (h:DataW.trod enc Tryz.prog w 0 (fun _=>true) true fuel t [v]=some x):∃b:UInt8,bX w (vE w) (jt b) v:=by
 obtain ⟨n,q,_,wf⟩:=DataW.trod_int ht h
 cases q
 have h3:IntKind.u8.min<=n/\n<=IntKind.u8.max:=by simpa [Lit.wf] using wf
 have e1:IntKind.u8.min=0:=by decide
 have e2:IntKind.u8.max=255:=by decide
 have e:n=((UInt8.ofNat n.toNat).toNat:Int):=by rw [UInt8.toNat_ofNat']; omega
 refine ⟨UInt8.ofNat n.toNat,?_⟩
 unfold jt
 rw [<-e]
 exact .int _ _
def zZ {w:World} {fuel t:Nat} {v:Value} {x:DataW H×List MemPlace} (ht:Tryz.prog.underlying t=some .string) (h:DataW.trod enc Tryz.prog w 0 (fun _=>true) true fuel t [v]=some x):∃s:Bytes,bX w (vE w) (.str s) v:=by
 obtain ⟨s,q,_,_⟩:=DataW.trod_string ht h
 cases q
 refine ⟨s.data.toList,?_⟩
 have:Go.Abs.bs s.data.toList=s:=by apply ByteArray.ext; simp [Go.Abs.bs]
 have h:=bX.str (w:=w) (cW:=vE w) s.data.toList
 rw [this] at h
 exact h
def uK {α:Type} (P:Nat->α->Prop):∀(n:Nat),(∀i,i<n->∃a,P i a)->∃l:List α,l.length=n/\∀i a,l[i]?=some a->P i a
 |0,_=>⟨[],rfl,fun i a h=>by cases i<;>cases h⟩
 |n+1,h=>by
  obtain ⟨l,hl,hp⟩:=uK P n (fun i hi=>h i (by omega))
  obtain ⟨a,ha⟩:=h n (by omega)
  refine ⟨l++[a],by simp [hl],fun i b hb=>?_⟩
  rcases Nat.lt_or_ge i n with hi|hi
  ·rw [List.getElem?_append_left (by omega)] at hb
   exact hp i b hb
  ·rw [List.getElem?_append_right (by omega)] at hb
   have:i=n:=by
    have:=(List.getElem?_eq_some_iff.1 hb).1
    simp at this; omega
   subst this
   simp [hl] at hb
   subst hb; exact ha
def fL (w:World) (l:List ae) (cs:List Value):Prop:=l.length=cs.length/\∀(k:Nat) (c:ae) (v:Value),l[k]?=some c->cs[k]?=some v->bX w (vE w) c v
def fL.one {w:World} {c:ae} {v:Value} (h:bX w (vE w) c v):fL w [c] [v]:=⟨rfl,fun k c' v' h1 h2=>by
 match k with
 |0=>cases h1; cases h2; exact h
 |k+1=>cases h1⟩
def fL.app {w:World} {a b:List ae} {cs ds:List Value} (h:fL w a cs) (g:fL w b ds):fL w (a++b) (cs++ds):=⟨by simp [h.1,g.1],fun k c v h1 h2=>by
 rcases Nat.lt_or_ge k a.length with hk|hk
 ·rw [List.getElem?_append_left hk] at h1
  rw [List.getElem?_append_left (by rw [<-h.1]; exact hk)] at h2
  exact h.2 k c v h1 h2
 ·rw [List.getElem?_append_right hk] at h1
  rw [List.getElem?_append_right (by rw [<-h.1]; exact hk),<-h.1] at h2
  exact g.2 _ c v h1 h2⟩
def fL.nil {w:World}:fL w [] []:=⟨rfl,fun k c v h1 _=>by cases h1⟩
def QF:DataW H->Nat
 | .slice es _=>es.length
 |_=>0
def pB {α:Type} {w:World} {fuel t e m:Nat} {v:Value} {x:DataW H×List MemPlace} {eC:α->List ae} {mk:α->ae} (ht:Tryz.prog.underlying t=some (.slice e)) (hm:Tryz.prog.cellsOf e=m) (hm0:0<m)
  (hmk:∀a,(mk a).cells=eC a) (hlen:∀a,(eC a).length=m)
  (he:∀(n:Nat) (cs:List Value) (y:DataW H×List MemPlace),cs.length=m->DataW.trod enc Tryz.prog w 0 (fun _=>true) true n e cs=some y->∃a,fL w (eC a) cs)
  (h:DataW.trod enc Tryz.prog w 0 (fun _=>true) true fuel t [v]=some x) :
  ∃l:List α,bX w (vE w) (.slice .sh (l.map mk)) v/\l.length=QF x.1:=by
 rcases open_slice ht h with ⟨hcs,hxx⟩|⟨a,len,cap,mm,n,D,Pl,hcs,_,hl,_,hmm,hxx,hi⟩
 ·cases hcs
  exact ⟨[],bX.nil _ _ _,by rw [hxx]; rfl⟩
 ·cases hcs
  simp only [if_true] at hmm
  obtain ⟨b,off,spot⟩:=a
  rw [hm] at hi
  have each:∀i,i<len->∃s:α,∃cs',w.cells? 0 ((⟨b,off,spot⟩:Addr).add (i*m)) m=some cs'/\cs'.length=m/\fL w (eC s) cs':=by
   intro i hi'
   obtain ⟨cs',hcl,ht⟩:=hi i (by omega)
   have hln:cs'.length=m:=(World.cells?_some hcl).2.1
   obtain ⟨s,hr⟩:=he _ _ _ hln ht
   exact ⟨s,cs',hcl,hln,hr⟩
  obtain ⟨l,hll,hlp⟩:=uK _ len each
  refine ⟨l,?_,by rw [hxx]; simp [QF,hll]⟩
  have hsp:len≠0->spot=none:=fun h0=>by
   obtain ⟨s,cs',hcl,h6,_⟩:=each 0 (by omega)
   obtain ⟨_,_,hat⟩:=World.cells?_some hcl
   have:=hat 0 hm0
   have h3:cs'[0]?=some (cs'[0]'(by omega)):=List.getElem?_eq_getElem (by omega)
   rw [h3] at this
   simpa [Addr.add] using World.cell?_spot this
  have cell:∀(i:Nat) (s:α) (k:Nat) (c:ae),l[i]?=some s->(eC s)[k]?=some c->∃u,w.cell? ⟨b,off+(i*m+k),none⟩=some u/\bX w (vE w) c u:=fun i s k c hs hk=>by
   obtain ⟨cs',hcl,h6,hr⟩:=hlp i s hs
   have hil:i<len:=by have:=(List.getElem?_eq_some_iff.1 hs).1; omega
   obtain rfl:=hsp (by omega)
   obtain ⟨_,_,hat⟩:=World.cells?_some hcl
   have hk6:k<m:=by have:=(List.getElem?_eq_some_iff.1 hk).1; rw [hlen] at this; exact this
   have h1:=hat k hk6
   have h3:cs'[k]?=some (cs'[k]'(by omega)):=List.getElem?_eq_getElem (by omega)
   rw [fM,fM,h3] at h1
   exact ⟨_,by rw [<-Nat.add_assoc]; exact h1,hr.2 k c _ hk h3⟩
  refine .slice _ _ _ _ b off m (fun q=>(w.cell? ⟨b,off+q,none⟩).getD undef) (by simp [hll]) hl (fun hne=>?_) ?_ ?_ ?_
  ·obtain rfl:=hsp (fun h0=>hne (by rw [h0] at hll; rw [List.length_eq_zero_iff.1 hll]; rfl))
   rfl
  ·intro x hx
   obtain ⟨s,_,rfl⟩:=List.mem_map.1 hx
   rw [hmk,hlen]
  ·intro i x k c hx hk
   rw [List.getElem?_map] at hx
   obtain ⟨s,hs,rfl⟩:=Option.map_eq_some_iff.1 hx
   rw [hmk] at hk
   obtain ⟨u,h1,_⟩:=cell i s k c hs hk
   refine ⟨by rw [h1]; rfl,Oy (Er h1)⟩
  ·intro i x k c hx hk
   rw [List.getElem?_map] at hx
   obtain ⟨s,hs,rfl⟩:=Option.map_eq_some_iff.1 hx
   rw [hmk] at hk
   obtain ⟨u,h1,h2⟩:=cell i s k c hs hk
   show bX w _ c ((w.cell? _).getD undef)
   rw [h1]
   exact h2
def tg {w:World} {fuel t e:Nat} {v:Value} {x:DataW H×List MemPlace} (ht:Tryz.prog.underlying t=some (.slice e)) (he:Tryz.prog.underlying e=some (.int .u8)) (hc:Tryz.prog.cellsOf e=1) (h:DataW.trod enc Tryz.prog w 0 (fun _=>true) true fuel t [v]=some x) :
  ∃d:Bytes,bX w (vE w) (.slice .sh (d.map jt)) v:=by
 obtain ⟨l,h,_⟩:=pB (eC:=fun b=>[jt b]) (mk:=jt) ht hc (by omega) (fun _=>rfl) (fun _=>rfl) (fun n cs y hl hy=>by
  match cs,hl with
  | [c],_ =>
   obtain ⟨b,hb⟩:=YF he hy
   exact ⟨b,.one hb⟩) h
 exact ⟨l,h⟩
def OJ {w:World} {fuel t e:Nat} {v:Value} {x:DataW H×List MemPlace} (ht:Tryz.prog.underlying t=some (.slice e)) (he:Tryz.prog.underlying e=some .string) (hc:Tryz.prog.cellsOf e=1) (h:DataW.trod enc Tryz.prog w 0 (fun _=>true) true fuel t [v]=some x) :
  ∃d:List Bytes,bX w (vE w) (.slice .sh (d.map .str)) v:=by
 obtain ⟨l,h,_⟩:=pB (eC:=fun b=>[.str b]) (mk:=fun (b:Bytes)=>ae.str b) ht hc (by omega) (fun _=>rfl) (fun _=>rfl) (fun n cs y hl hy=>by
  match cs,hl with
  | [c],_ =>
   obtain ⟨b,hb⟩:=zZ he hy
   exact ⟨b,.one hb⟩) h
 exact ⟨l,h⟩
set_option maxRecDepth 100000 in
def Hy {w:World} {t:Nat} {fs:Array Field} {r:Reach} {b:Nat} {v:Value} {d:DataW H} {ps:List MemPlace} {P:List Value->Prop} (ht:Tryz.prog.underlying t=some (.struct fs)) (h:DataW.Trod enc Tryz.prog w 0 (fun _=>true) true t v d ps) (hv:Value.okWide Tryz.prog w r b t v)
  (K:∀(n:Nat) (cs:List Value) (y:DataW H×List MemPlace),DataW.trod enc Tryz.prog w 0 (fun _=>true) true n t cs=some y->P cs):∃cs:Array Value,v = .agg cs/\P cs.toList:=by
 obtain ⟨cs,rfl,_⟩:=okWide_struct ht hv
 obtain ⟨fuel,hf⟩:=h
 have hcs:(Value.agg cs).cells.toList=cs.toList:=rfl
 rw [hcs] at hf
 exact ⟨cs,rfl,K _ _ _ hf⟩
def Pm {w:World} {l:List ae} {cs:Array Value} (h:fL w l cs.toList):cm GB [] w (.agg l) (.agg cs) :=
 .agg (by rw [h.1]; simp) (fun i c v hc hv => .plain (h.2 i c v hc (by simpa using hv)))
def kh {T:uF} (hT:iM Tryz.prog (af T)) {f:Nat} {args:List ae} (h:af T f args []=some (.bool true,[])) (w:World) (hG:kS GB [] w) (vs:Array Value) (hl:args.length=vs.size) (hv:∀(i:Nat) (c:ae) (v:Value),args[i]?=some c->vs[i]?=some v->cm GB [] w c v) :
  Calls Tryz.prog f vs w fun e w'=>e = .returned (.bool true)/\Below w.heap.size w w':=by
 refine ((hT f args [] _ h).2 GB w vs (ajg w) hG hl hv).mono ?_
 intro e w' hce
 obtain ⟨v,rfl,j',_,hx,hr⟩:=hce.ret rfl
 obtain rfl:=hr.dH
 exact ⟨rfl,hx.os,hx.tape,hx.output,hx.size,fun k hk=>(hx.mw k hk fun i hi=>absurd hi (Nat.not_lt_zero _)).1⟩
def zj {w:World} {n t k:Nat} {cs:List Value} {v:Value} {y:DataW H×List MemPlace} (hc:Tryz.prog.cellsOf t=1) (hk:cs[k]?=some v) (h:DataW.trod enc Tryz.prog w 0 (fun _=>true) true n t ((cs.drop k).take (Tryz.prog.cellsOf t))=some y):DataW.trod enc Tryz.prog w 0 (fun _=>true) true n t [v]=some y:=by
 rw [hc] at h
 have:(cs.drop k).take 1=[v]:=by
  have:=(List.getElem?_eq_some_iff.1 hk)
  obtain ⟨h1,h2⟩:=this
  rw [List.drop_eq_getElem_cons h1,h2]; rfl
 rw [this] at h
 exact h
def nU:Tryz.prog.underlying 3=some (.int .i64):=by kernel_rfl
def RO:Tryz.prog.underlying 44=some (.int .i64):=by kernel_rfl
def OQ:Tryz.prog.underlying 9=some .string:=by kernel_rfl
def RP:Tryz.prog.underlying 5=some (.int .u8):=by kernel_rfl
def vA:Tryz.prog.underlying 39=some (.slice 5):=by kernel_rfl
def YG:Tryz.prog.underlying 45=some (.slice 9):=by kernel_rfl
def vB:Tryz.prog.underlying 22=some (.slice 43):=by kernel_rfl
def Fs:Tryz.prog.underlying 23=some (.slice 56):=by kernel_rfl
def nq:Tryz.prog.cellsOf 3=1:=by kernel_rfl
def PE:Tryz.prog.cellsOf 44=1:=by kernel_rfl
def Jw:Tryz.prog.cellsOf 9=1:=by kernel_rfl
def UA:Tryz.prog.cellsOf 5=1:=by kernel_rfl
def Eo:Tryz.prog.cellsOf 39=1:=by kernel_rfl
def Uz:Tryz.prog.cellsOf 45=1:=by kernel_rfl
def ahY:Tryz.prog.cellsOf 41=8:=by kernel_rfl
def acb:Tryz.prog.cellsOf 47=7:=by kernel_rfl
def XQ:Tryz.prog.cellsOf 56=9:=by kernel_rfl
def Nv:Tryz.prog.cellsOf 43=10:=by kernel_rfl
set_option maxRecDepth 100000 in
def X4 {w:World} {fuel:Nat} {cs:List Value} {x:DataW H×List MemPlace} (h:DataW.trod enc Tryz.prog w 0 (fun _=>true) true fuel 41 cs=some x):∃o:dL,fL w (cz o) cs:=by
 obtain ⟨xs,n,_,_,hl,hxl,hf⟩:=DataW.trod_struct Tryz.underlying41 h
 have h0:cs.length=8:=by rw [hl]; kernel_rfl
 match cs,h0 with
 | [v0,v1,v2,v3,v4,v5,v6,v7],_ =>
  match xs,hxl with
  | [y0,y1,y2,y3,y4,y5,y6,y7],_ =>
   obtain ⟨a0,r0⟩:=ig nU (zj (k:=0) nq rfl (hf 0 _ rfl))
   obtain ⟨a1,r1⟩:=ig nU (zj (k:=1) nq rfl (hf 1 _ rfl))
   obtain ⟨a2,r2⟩:=zZ OQ (zj (k:=2) Jw rfl (hf 2 _ rfl))
   obtain ⟨a3,r3⟩:=zZ OQ (zj (k:=3) Jw rfl (hf 3 _ rfl))
   obtain ⟨a4,r4⟩:=ig nU (zj (k:=4) nq rfl (hf 4 _ rfl))
   obtain ⟨a5,r5⟩:=ig nU (zj (k:=5) nq rfl (hf 5 _ rfl))
   obtain ⟨a6,r6⟩:=ig nU (zj (k:=6) nq rfl (hf 6 _ rfl))
   obtain ⟨a7,r7⟩:=tg vA RP UA (zj (k:=7) Eo rfl (hf 7 _ rfl))
   exact ⟨⟨a0,a1,a2,a3,a4,a5,a6,a7⟩,.app (.one r0) (.app (.one r1) (.app (.one r2) (.app (.one r3) (.app (.one r4) (.app (.one r5) (.app (.one r6) (.one r7)))))))⟩
set_option maxRecDepth 100000 in
def Pq {w:World} {fuel:Nat} {cs:List Value} {x:DataW H×List MemPlace} (h:DataW.trod enc Tryz.prog w 0 (fun _=>true) true fuel 47 cs=some x):∃o:oV,fL w (ba o) cs:=by
 obtain ⟨xs,n,_,_,hl,hxl,hf⟩:=DataW.trod_struct Tryz.underlying47 h
 have h0:cs.length=7:=by rw [hl]; kernel_rfl
 match cs,h0 with
 | [v0,v1,v2,v3,v4,v5,v6],_ =>
  match xs,hxl with
  | [y0,y1,y2,y3,y4,y5,y6],_ =>
   obtain ⟨a0,r0⟩:=ig RO (zj (k:=0) PE rfl (hf 0 _ rfl))
   obtain ⟨a1,r1⟩:=ig nU (zj (k:=1) nq rfl (hf 1 _ rfl))
   obtain ⟨a2,r2⟩:=ig nU (zj (k:=2) nq rfl (hf 2 _ rfl))
   obtain ⟨a3,r3⟩:=ig nU (zj (k:=3) nq rfl (hf 3 _ rfl))
   obtain ⟨a4,r4⟩:=ig nU (zj (k:=4) nq rfl (hf 4 _ rfl))
   obtain ⟨a5,r5⟩:=OJ YG OQ Jw (zj (k:=5) Uz rfl (hf 5 _ rfl))
   obtain ⟨a6,r6⟩:=tg vA RP UA (zj (k:=6) Eo rfl (hf 6 _ rfl))
   exact ⟨⟨a0,a1,a2,a3,a4,a5,a6⟩,.app (.one r0) (.app (.one r1) (.app (.one r2) (.app (.one r3) (.app (.one r4) (.app (.one r5) (.one r6))))))⟩
set_option maxRecDepth 100000 in
def Oz {w:World} {fuel:Nat} {cs:List Value} {x:DataW H×List MemPlace} (h:DataW.trod enc Tryz.prog w 0 (fun _=>true) true fuel 56 cs=some x):∃o:bq,fL w (bU o) cs:=by
 obtain ⟨xs,n,_,_,hl,hxl,hf⟩:=DataW.trod_struct Tryz.underlying56 h
 have h0:cs.length=9:=by rw [hl]; kernel_rfl
 match cs,h0 with
 | [v0,v1,v2,v3,v4,v5,v6,v7,v8],_ =>
  match xs,hxl with
  | [y0,y1,y2],_ =>
   obtain ⟨a0,r0⟩:=ig nU (zj (k:=0) nq rfl (hf 0 _ rfl))
   obtain ⟨a1,r1⟩:=ig nU (zj (k:=1) nq rfl (hf 1 _ rfl))
   have e2:DataW.trod enc Tryz.prog w 0 (fun _=>true) true n 47 ((List.drop 2 [v0,v1,v2,v3,v4,v5,v6,v7,v8]).take (Tryz.prog.cellsOf 47))=some y2:=hf 2 _ rfl
   rw [acb] at e2
   obtain ⟨a2,r2⟩:=Pq e2
   exact ⟨⟨a0,a1,a2⟩,.app (.one r0) (.app (.one r1) (r2))⟩
set_option maxRecDepth 100000 in
def vT {w:World} {fuel:Nat} {cs:List Value} {x:DataW H×List MemPlace} (h:DataW.trod enc Tryz.prog w 0 (fun _=>true) true fuel 43 cs=some x):∃o:cC,fL w (bO o) cs:=by
 obtain ⟨xs,n,_,_,hl,hxl,hf⟩:=DataW.trod_struct Tryz.underlying43 h
 have h0:cs.length=10:=by rw [hl]; kernel_rfl
 match cs,h0 with
 | [v0,v1,v2,v3,v4,v5,v6,v7,v8,v9],_ =>
  match xs,hxl with
  | [y0,y1,y2],_ =>
   obtain ⟨a0,r0⟩:=ig nU (zj (k:=0) nq rfl (hf 0 _ rfl))
   obtain ⟨a1,r1⟩:=ig nU (zj (k:=1) nq rfl (hf 1 _ rfl))
   have e2:DataW.trod enc Tryz.prog w 0 (fun _=>true) true n 41 ((List.drop 2 [v0,v1,v2,v3,v4,v5,v6,v7,v8,v9]).take (Tryz.prog.cellsOf 41))=some y2:=hf 2 _ rfl
   rw [ahY] at e2
   obtain ⟨a2,r2⟩:=X4 e2
   exact ⟨⟨a0,a1,a2⟩,.app (.one r0) (.app (.one r1) (r2))⟩
set_option maxRecDepth 100000 in
def Jy {w:World} {r:Reach} {b:Nat} {v:Value} {d:DataW H} {ps:List MemPlace} (h:DataW.Trod enc Tryz.prog w 0 (fun _=>true) true 43 v d ps) (hv:Value.okWide Tryz.prog w r b 43 v):∃o:cC,cm GB [] w (eB o) v:=by
 obtain ⟨cs,rfl,o,hr⟩:=Hy Tryz.underlying43 h hv (fun n cs y hy=>vT hy)
 exact ⟨o,Pm hr⟩
set_option maxRecDepth 100000 in
def nr {w:World} {r:Reach} {b:Nat} {v:Value} {d:DataW H} {ps:List MemPlace} (h:DataW.Trod enc Tryz.prog w 0 (fun _=>true) true 22 v d ps) (hv:Value.okWide Tryz.prog w r b 22 v):∃l:List cC,cm GB [] w (eh l) v:=by
 obtain ⟨a,len,cap,rfl⟩:=okWide_slice vB hv
 obtain ⟨fuel,hf⟩:=h
 obtain ⟨l,h2,_⟩:=pB (eC:=bO) (mk:=eB) vB Nv (by omega) (fun _=>rfl) (fun _=>rfl) (fun n cs y _ hy=>vT hy) hf
 exact ⟨l,.plain h2⟩
set_option maxRecDepth 100000 in
def FU {w:World} {r:Reach} {b:Nat} {v:Value} {d:DataW H} {ps:List MemPlace} (h:DataW.Trod enc Tryz.prog w 0 (fun _=>true) true 22 v d ps) (hv:Value.okWide Tryz.prog w r b 22 v):∃l:List cC,cm GB [] w (eh l) v/\l.length=QF d:=by
 obtain ⟨a,len,cap,rfl⟩:=okWide_slice vB hv
 obtain ⟨fuel,hf⟩:=h
 obtain ⟨l,h2,h3⟩:=pB (eC:=bO) (mk:=eB) vB Nv (by omega) (fun _=>rfl) (fun _=>rfl) (fun n cs y _ hy=>vT hy) hf
 exact ⟨l,.plain h2,h3⟩
set_option maxRecDepth 100000 in
def Ho {w:World} {r:Reach} {b:Nat} {v:Value} {d:DataW H} {ps:List MemPlace} (h:DataW.Trod enc Tryz.prog w 0 (fun _=>true) true 23 v d ps) (hv:Value.okWide Tryz.prog w r b 23 v):∃l:List bq,cm GB [] w (bt l) v:=by
 obtain ⟨a,len,cap,rfl⟩:=okWide_slice Fs hv
 obtain ⟨fuel,hf⟩:=h
 obtain ⟨l,h2,_⟩:=pB (eC:=bU) (mk:=bK) Fs XQ (by omega) (fun _=>rfl) (fun _=>rfl) (fun n cs y _ hy=>Oz hy) hf
 exact ⟨l,.plain h2⟩
set_option maxRecDepth 100000 in
def FQ {w:World} {r:Reach} {b:Nat} {v:Value} {d:DataW H} {ps:List MemPlace} (h:DataW.Trod enc Tryz.prog w 0 (fun _=>true) true 39 v d ps) (hv:Value.okWide Tryz.prog w r b 39 v):∃l:Bytes,cm GB [] w (cY l) v:=by
 obtain ⟨a,len,cap,rfl⟩:=okWide_slice vA hv
 obtain ⟨fuel,hf⟩:=h
 obtain ⟨l,h2⟩:=tg vA RP UA hf
 exact ⟨l,.plain h2⟩
set_option maxRecDepth 100000 in
def OO {w:World} {r:Reach} {b:Nat} {v:Value} {d:DataW H} {ps:List MemPlace} (h:DataW.Trod enc Tryz.prog w 0 (fun _=>true) true 5 v d ps) (hv:Value.okWide Tryz.prog w r b 5 v):∃x:UInt8,cm GB [] w (jt x) v:=by
 obtain ⟨n,rfl,_,_,hw⟩:=open_int RP hv h
 have h3:IntKind.u8.min<=n/\n<=IntKind.u8.max:=by simpa [Lit.wf] using hw
 have e1:IntKind.u8.min=0:=by decide
 have e2:IntKind.u8.max=255:=by decide
 have e:n=((UInt8.ofNat n.toNat).toNat:Int):=by rw [UInt8.toNat_ofNat']; omega
 refine ⟨UInt8.ofNat n.toNat,.plain ?_⟩
 unfold jt
 rw [<-e]
 exact .int _ _
end
def uB {α:Type} {a:Array α} {l:List α} (h:a.toList=l):a=l.toArray:=by rw [<-h]
end
end Go.Proofs.YtdbadpnkhaepnaaGreatDoor
namespace Go.Proofs.YtdbadpnkhaepnaaGreatDoor
open Go Go.Abs
def sX (l:List bq) (c:Int):oV:=match l.find? (fun s=>s.aj==c) with
 |some s=>s.nj
 |none=>default
def Zt {l:List bq} (h:ky l) (c:Int):∃l1 l2,nR l c=l1.length/\(∀x,x∈l1->x.aj<c)/\(∀x,x∈l2->c<x.aj) /\
  ((∃p,l=l1++p::l2/\p.aj=c/\nF l c=some p)\/(l=l1++l2/\nF l c=none)):=by
 have key:∃l1 l2,nR l c=l1.length/\(∀x,x∈l1->x.aj<c)/\(∀x,x∈l2->c<x.aj)/\((∃p,l=l1++p::l2/\p.aj=c)\/l=l1++l2):=by
  induction l with
  |nil=>exact ⟨[],[],rfl,by simp,by simp,.inr rfl⟩
  |cons a r ih =>
   obtain ⟨h1,h2⟩:=List.pairwise_cons.1 h
   by_cases ha:a.aj<c
   ·obtain ⟨l1,l2,e1,e2,e3,e4⟩:=ih h2
    refine ⟨a::l1,l2,?_,?_,e3,?_⟩
    ·simp only [nR,iW,List.takeWhile_cons,ll,ha,decide_true,if_true,List.length_cons] at e1 ⊢; omega
    ·simp only [List.mem_cons,forall_eq_or_imp]; exact ⟨ha,e2⟩
    ·rcases e4 with ⟨p,e4,e5⟩|e4
     ·exact .inl ⟨p,by rw [e4]; rfl,e5⟩
     ·exact .inr (by rw [e4]; rfl)
   ·have hp:nR (a::r) c=0:=by simp only [nR,iW,List.takeWhile_cons,ll,ha,decide_false,Bool.false_eq_true,if_false,List.length_nil]
    by_cases hc:a.aj=c
    ·exact ⟨[],r,hp,by simp,fun x hx=>by have:=h1 x hx; omega,.inl ⟨a,rfl,hc⟩⟩
    ·refine ⟨[],a::r,hp,by simp,?_,.inr rfl⟩
     simp only [List.mem_cons,forall_eq_or_imp]
     exact ⟨by omega,fun x hx=>by have:=h1 x hx; omega⟩
 obtain ⟨l1,l2,e1,e2,e3,e4⟩:=key
 refine ⟨l1,l2,e1,e2,e3,?_⟩
 rcases e4 with ⟨p,e4,e5⟩|e4
 ·refine .inl ⟨p,e4,e5,?_⟩
  have:l[l1.length]?=some p:=by rw [e4]; simp
  unfold nF
  simp only [e1,this,rU,e5,beq_self_eq_true,if_true]
 ·refine .inr ⟨e4,?_⟩
  unfold nF
  rw [e1]
  have:l[l1.length]?=l2.head?:=by rw [e4,List.getElem?_append_right (Nat.le_refl _),Nat.sub_self,List.head?_eq_getElem?]
  rw [this]
  cases l2 with
  |nil=>rfl
  |cons q r =>
   have:=e3 q (by simp)
   simp only [List.head?_cons,rU,beq_iff_eq]
   rw [if_neg (by omega)]
def pU {l:List bq} {c:Int} (h:∀x,x∈l->x.aj≠c):l.find? (fun s=>s.aj==c)=none:=by
 rw [List.find?_eq_none]; intro x hx; simpa using h x hx
def Dg {l:List bq} (h:ky l) (c:Int):nF l c=l.find? (fun s=>s.aj==c):=by
 obtain ⟨l1,l2,e1,e2,e3,⟨p,e4,e5,e6⟩|⟨e4,e6⟩⟩:=Zt h c
 ·rw [e6,e4,List.find?_append,pU (fun x hx=>by have:=e2 x hx; omega),List.find?_cons]
  simp [e5]
 ·rw [e6,e4,List.find?_append,pU (fun x hx=>by have:=e2 x hx; omega),pU (fun x hx=>by have:=e3 x hx; omega)]
  rfl
def uD (x:bq) (l2:List bq):∀(l1:List bq),(∀y,y∈l1->y.aj<x.aj)->k8 x (l1++l2) false=l1++k8 x l2 false
 | [],_=>rfl
 |y::r,h=>by
  have hy:=h y (by simp)
  have ih:=uD x l2 r (fun z hz=>h z (by simp [hz]))
  have h1:decide (x.aj<=y.aj)=false:=by simp; omega
  have h2:(y.aj != x.aj)=true:=by simp; omega
  rw [List.cons_append,k8,h1,h2,Bool.or_false,ih]
  rfl
def uC (x:bq):∀(l:List bq),(∀y,y∈l->x.aj<y.aj)->k8 x l true=l
 | [],_=>rfl
 |y::r,h=>by
  have hy:=h y (by simp)
  have ih:=uC x r (fun z hz=>h z (by simp [hz]))
  have h2:(y.aj != x.aj)=true:=by simp; omega
  rw [k8,h2,Bool.true_or,ih]
  rfl
def pI {l:List bq} (h:ky l) (c s:Int) (a:oV):∃l1 l2,nR l c=l1.length/\(∀x,x∈l1->x.aj<c)/\(∀x,x∈l2->c<x.aj) /\
  jQ l c s a=l1++⟨c,s,a⟩::l2/\((∃p,l=l1++p::l2/\p.aj=c/\nF l c=some p)\/(l=l1++l2/\nF l c=none)):=by
 obtain ⟨l1,l2,e1,e2,e3,e4⟩:=Zt h c
 refine ⟨l1,l2,e1,e2,e3,?_,e4⟩
 unfold jQ
 rcases e4 with ⟨p,e4,e5,e6⟩|⟨e4,e6⟩
 ·rw [e4,uD _ _ _ e2,k8]
  have h1:decide (c<=p.aj)=true:=by simp; omega
  have h2:(p.aj != c)=false:=by simp; omega
  simp only [h1,h2,Bool.or_true,Bool.not_false,Bool.and_true,if_true,Bool.false_eq_true,if_false,List.nil_append,uC ⟨c,s,a⟩ _ e3]
  rfl
 ·rw [e4,uD _ _ _ e2]
  cases l2 with
  |nil=>rfl
  |cons q r =>
   have hq:=e3 q (by simp)
   have h1:decide (c<=q.aj)=true:=by simp; omega
   have h2:(q.aj != c)=true:=by simp; omega
   rw [k8]
   simp only [h1,h2,Bool.or_true,Bool.not_false,Bool.and_true,if_true]
   rw [uC _ r (fun y hy=>e3 y (by simp [hy]))]
   rfl
def vu (f:aa) {l:List bq} (h:ky l) (c s:Int) (o:dL):cd f l c s o=if gU c s (bJ l c)≠0 then (f,l,kW (gU c s (bJ l c))) else if s=bJ l c then (f,l,sX l c) else
  ((jB f (jV o c)).1,jQ l c s (jB f (jV o c)).2,(jB f (jV o c)).2):=by
 obtain ⟨l1,l2,e1,e2,e3,e0,e4⟩:=pI h c s (jB f (jV o c)).2
 have hf:=Dg h c
 unfold cd bJ sX
 rw [<-hf,e0,e1]
 rcases e4 with ⟨p,e4,e5,e6⟩|⟨e4,e6⟩
 ·rw [e6]
  simp only [e4]
  simp
 ·rw [e6]
  simp only [e4]
  by_cases hm:gU c s 0=0
  ·have h0:s≠0:=by
    intro h0
    unfold gU at hm
    subst h0
    split at hm
    ·cases hm
    ·rw [if_pos (by omega)] at hm; cases hm
   simp [hm,h0]
  ·simp [hm]
def ow {c s l:Int} (h:gU c s l=0):0<=c/\c<16/\1<=s/\l<=s/\s<=l+1/\s<=1099511627776:=by
 unfold gU at h
 split at h
 ·cases h
 split at h
 ·cases h
 split at h
 ·cases h
 omega
def HE {l:List bq} (h:ky l) (c s:Int) (a:oV):ky (jQ l c s a):=by
 obtain ⟨l1,l2,_,e2,e3,e0,e4⟩:=pI h c s a
 have q:ky (l1++l2):=by
  rcases e4 with ⟨p,e4,_⟩|⟨e4,_⟩
  ·rw [e4] at h
   exact h.sublist (by simp)
  ·rw [e4] at h; exact h
 rw [e0]
 obtain ⟨q1,q2,q3⟩:=List.pairwise_append.1 q
 refine List.pairwise_append.2 ⟨q1,List.pairwise_cons.2 ⟨e3,q2⟩,fun x hx y hy=>?_⟩
 rcases List.mem_cons.1 hy with rfl|hy
 ·exact e2 x hx
 ·exact q3 x hx y hy
def qg {l:List bq} (h:ky l) {c s:Int} {a:oV} {x:bq} (hx:x∈jQ l c s a):x=⟨c,s,a⟩\/x∈l:=by
 obtain ⟨l1,l2,_,_,_,e0,e4⟩:=pI h c s a
 rw [e0] at hx
 rcases e4 with ⟨p,e4,_⟩|⟨e4,_⟩<;>rw [e4]<;>simp at hx ⊢ <;> rcases hx with hx|hx|hx<;>simp [hx]
def za {l:List bq} (h:ky l) (c s:Int) (a:oV):l.length<=(jQ l c s a).length/\(jQ l c s a).length<=l.length+1:=by
 obtain ⟨l1,l2,_,_,_,e0,e4⟩:=pI h c s a
 rw [e0]
 rcases e4 with ⟨p,e4,_⟩|⟨e4,_⟩<;>rw [e4]<;>simp<;>omega
def rC {l:List bq} (h:ky l) (c s:Int) (a:oV) (d:Int):(jQ l c s a).find? (fun x=>x.aj==d)=if d=c then some ⟨c,s,a⟩ else l.find? (fun x=>x.aj==d):=by
 obtain ⟨l1,l2,_,e2,e3,e0,e4⟩:=pI h c s a
 rw [e0,List.find?_append,List.find?_cons]
 by_cases hd:d=c
 ·rw [if_pos hd,pU (fun x hx=>by have:=e2 x hx; omega)]
  simp [hd]
 ·have:((⟨c,s,a⟩:bq).aj==d)=false:=by simp; omega
  rw [if_neg hd,this]
  rcases e4 with ⟨p,e4,e5,_⟩|⟨e4,_⟩
  ·have hp:(p.aj==d)=false:=by simp; omega
   rw [e4,List.find?_append,List.find?_cons,hp]
  ·rw [e4,List.find?_append]
def kb {l:List bq} (h:ky l) (c s:Int) (a:oV) (d:Int):bJ (jQ l c s a) d=if d=c then s else bJ l d:=by
 unfold bJ; rw [rC h]; by_cases hd:d=c<;>simp [hd]
def vI {l:List bq} (h:ky l) (c s:Int) (a:oV) (d:Int):sX (jQ l c s a) d=if d=c then a else sX l d:=by
 unfold sX; rw [rC h]; by_cases hd:d=c<;>simp [hd]
def w8:∀(l:List bq) (p:Option Int),ky l->(∀q,p=some q->∀x,x∈l->q<x.aj)->(∀x,x∈l->0<=x.aj/\x.aj<16/\1<=x.seq/\x.seq<=1099511627776)->iH p l=true
 | [],_,_,_,_=>rfl
 |s::r,p,h,hp,hb=>by
  obtain ⟨h1,h2⟩:=List.pairwise_cons.1 h
  have hs:=hb s (by simp)
  have ih:=w8 r (some s.aj) h2 (fun q hq x hx=>by injection hq with hq; subst hq; exact h1 x hx) (fun x hx=>hb x (by simp [hx]))
  have a1:decide (s.aj<0)=false:=by simp; omega
  have a2:decide (16<=s.aj)=false:=by simp; omega
  have a3:decide (s.seq<1)=false:=by simp; omega
  have a4:decide (1099511627776<s.seq)=false:=by simp; omega
  cases p with
  |none=>rw [iH,ih,a1,a2,a3,a4]; rfl
  |some q =>
   have:=hp q rfl s (by simp)
   have a5:decide (s.aj<=q)=false:=by simp; omega
   rw [iH,ih]; simp only [a1,a2,a3,a4,a5,Bool.or_false,Bool.false_eq_true,if_false]
structure iQ (k:Nat) (f:aa) (l:List bq):Prop where
 fb:FB k f
 fh:ky l
 len:l.length<=k
 bd:∀p,p∈l->0<=p.aj/\p.aj<16/\1<=p.seq/\p.seq<=1099511627776
 nj:∀p,p∈l->jU p.nj
def rt0:Rt t0:=⟨_,Nw⟩
def RE:iQ 0 f0 []:=by
 refine ⟨⟨⟨rt0,rfl,?_,?_,?_,List.Pairwise.nil,?_,List.Pairwise.nil,?_⟩,?_⟩,List.Pairwise.nil,?_,?_,?_⟩<;>simp [f0]
def iQ.right {k:Nat} {f:aa} {l:List bq} (h:iQ k f l):ry l=true:=w8 l none h.fh (fun q hq=>by cases hq) h.bd
def iQ.seq {k:Nat} {f:aa} {l:List bq} (h:iQ k f l):Ef l:=fun p hp=>by have:=h.bd p hp; omega
def iQ.Zr {k:Nat} {f:aa} {l:List bq} (h:iQ k f l) (c:Int):jU (sX l c):=by
 unfold sX
 split
 ·rename_i s hs; exact h.nj s (List.mem_of_find?_eq_some hs)
 ·exact fB rfl rfl
def iQ.mono {k m:Nat} {f:aa} {l:List bq} (h:iQ k f l) (hm:k<=m):iQ m f l:=⟨h.fb.mono hm,h.fh,by have:=h.len; omega,h.bd,h.nj⟩
def iQ.once {k:Nat} {f:aa} {l:List bq} (h:iQ k f l) (hk:k<=89000) (c s:Int) (o:dL):iQ (k+200) (cd f l c s o).1 (cd f l c s o).2.1/\jU (cd f l c s o).2.2:=by
 rw [vu f h.fh]
 split
 ·exact ⟨h.mono (by omega),sa _⟩
 rename_i hm
 split
 ·exact ⟨h.mono (by omega),h.Zr c⟩
 have hm:=ow (Decidable.not_not.1 hm)
 have ha:=PI h.fb.ok (jV o c)
 refine ⟨⟨UF h.fb hk _,HE h.fh _ _ _,?_,?_,?_⟩,ha⟩
 ·show (jQ l c s (jB f (jV o c)).2).length<=k+200
  have:=(za h.fh c s (jB f (jV o c)).2).2; have:=h.len; omega
 ·intro p hp
  rcases qg h.fh hp with rfl|hp
  ·exact ⟨hm.1,hm.2.1,hm.2.2.1,hm.2.2.2.2.2⟩
  ·exact h.bd p hp
 ·intro p hp
  rcases qg h.fh hp with rfl|hp
  ·exact ha
  ·exact h.nj p hp
def Ab {k:Nat} {f:aa} {l:List bq} (h:iQ k f l) (hk:k<=89000) (c s:Int) (o:dL) (ho:qj o) (M:ai) :
  an (af eM) 12 [.agg (bB f),bt l,.int .i64 c,.int .i64 s,.agg (cz o)] M=some (.tuple [.agg (bB (cd f l c s o).1),bt (cd f l c s o).2.1,.agg (ba (cd f l c s o).2.2)],M) :=
 cO (c12 f l c s o h.fb.ok ⟨ho.path,ho.ng,ho.data⟩ (aca h.fh c) (by have:=h.len; omega) h.seq) M
def Ac (s:Bytes):dL:=⟨2,0,s,[],2,0,0,[]⟩
def hA:=cd f0 [] 3 1 (Ac [47,97])
def hB:=cd hA.1 hA.2.1 3 1 (Ac [47,98])
def hC:=cd hB.1 hB.2.1 3 2 (Ac [47,97])
def hD:=cd hC.1 hC.2.1 1 1 (Ac [47,98])
def hE:=cd hC.1 hC.2.1 3 1 (Ac [47,99])
def hI:=cd hC.1 hC.2.1 3 4 (Ac [47,99])
def hK:=cd hC.1 hC.2.1 16 1 (Ac [47,99])
def hP:=cd hC.1 hC.2.1 3 0 (Ac [47,99])
def hQ:=cd hC.1 hC.2.1 2 2 (Ac [47,99])
def facts:hA.2.2.err=0/\hA.2.2.ino=2/\hA.2.2=hB.2.2/\hA.1=hB.1/\hC.2.2.err=71/\hD.2.2.err=0/\hD.2.2.ino=3/\hE.2.2.err=120/\hI.2.2.err=121/\hK.2.2.err=1/\hP.2.2.err=120/\hQ.2.2.err=121 /\
  hD.2.1.length=2/\bJ hD.2.1 1=1/\bJ hD.2.1 3=2/\ry [⟨3,0,⟨0,0,0,0,0,[],[]⟩⟩]=false:=by
 refine ⟨?_,?_,?_,?_,?_,?_,?_,?_,?_,?_,?_,?_,?_,?_,?_,?_⟩<;>kernel_rfl
def DF (s:Bytes) (h:s.length<=400):qj (Ac s):=⟨by simp [Ac]; omega,by simp [Ac],by simp [Ac]⟩
section
attribute [local irreducible] cT cR gz gK bR kr af an aZ aK
def j24 (s:Bytes) (M:ai):an (af eM) 24 [.str s] M=some (.agg (cz (Ac s)),M):=lE (cO (c24 s) M)
set_option maxRecDepth 100000 in
def c9:af eM 9 [] []=some (.bool true,[]):=by
 obtain ⟨e1,e2,e3,e4,e5,e6,e7,e8,e9,e10,e11,e12,e13,e14,e15,e16⟩:=facts
 obtain ⟨sA,aA⟩:=RE.once (by omega) 3 1 (Ac [47,97])
 obtain ⟨sB,aB⟩:=sA.once (by omega) 3 1 (Ac [47,98])
 obtain ⟨sC,aC⟩:=sB.once (by omega) 3 2 (Ac [47,97])
 obtain ⟨sD,aD⟩:=sC.once (by omega) 1 1 (Ac [47,98])
 have o1:=DF [47,97] (by decide)
 have o2:=DF [47,98] (by decide)
 have o3:=DF [47,99] (by decide)
 have qA:=fun M=>Ab RE (by omega) 3 1 _ o1 M
 have qB:=fun M=>Ab sA (by omega) 3 1 _ o2 M
 have qC:=fun M=>Ab sB (by omega) 3 2 _ o1 M
 have qD:=fun M=>Ab sC (by omega) 1 1 _ o2 M
 have qE:=fun M=>Ab sC (by omega) 3 1 _ o3 M
 have qI:=fun M=>Ab sC (by omega) 3 4 _ o3 M
 have qK:=fun M=>Ab sC (by omega) 16 1 _ o3 M
 have qP:=fun M=>Ab sC (by omega) 3 0 _ o3 M
 have qQ:=fun M=>Ab sC (by omega) 2 2 _ o3 M
 have q16:=fun M=>lE (Qc hA.2.2 hB.2.2 aA M)
 have q17:=fun M=>lE (cO (Ti hA.1 hB.1 sA.fb.ok) M)
 have hl:hD.2.1.length<=100000:=by rw [e13]; omega
 have q1:=fun M=>lE (Lv hD.2.1 1 hl M)
 have q3:=fun M=>lE (Lv hD.2.1 3 hl M)
 have qr:=fun M=>lE (YX hD.2.1 hl M)
 have qx:=fun M=>lE (YX [⟨3,0,⟨0,0,0,0,0,[],[]⟩⟩] (by simp) M)
 have q11:=fun M=>lE (Vy M)
 have hr:ry hD.2.1=true:=sD.right
 rw [e14] at q1; rw [e15] at q3; rw [hr] at qr; rw [e16] at qx
 rw [decide_eq_true e3] at q16; rw [decide_eq_true e4] at q17
 change ∀M,an (af eM) 12 [.agg (bB f0),bt [],_,_,_] M=some (.tuple [.agg (bB hA.1),bt hA.2.1,.agg (ba hA.2.2)],M) at qA
 change ∀M,an (af eM) 12 [.agg (bB hA.1),bt hA.2.1,_,_,_] M=some (.tuple [.agg (bB hB.1),bt hB.2.1,.agg (ba hB.2.2)],M) at qB
 change ∀M,an (af eM) 12 [.agg (bB hB.1),bt hB.2.1,_,_,_] M=some (.tuple [.agg (bB hC.1),bt hC.2.1,.agg (ba hC.2.2)],M) at qC
 change ∀M,an (af eM) 12 [.agg (bB hC.1),bt hC.2.1,_,_,_] M=some (.tuple [.agg (bB hD.1),bt hD.2.1,.agg (ba hD.2.2)],M) at qD
 change ∀M,an (af eM) 12 [.agg (bB hC.1),bt hC.2.1,_,_,_] M=some (.tuple [.agg (bB hE.1),bt hE.2.1,.agg (ba hE.2.2)],M) at qE
 change ∀M,an (af eM) 12 [.agg (bB hC.1),bt hC.2.1,_,_,_] M=some (.tuple [.agg (bB hI.1),bt hI.2.1,.agg (ba hI.2.2)],M) at qI
 change ∀M,an (af eM) 12 [.agg (bB hC.1),bt hC.2.1,_,_,_] M=some (.tuple [.agg (bB hK.1),bt hK.2.1,.agg (ba hK.2.2)],M) at qK
 change ∀M,an (af eM) 12 [.agg (bB hC.1),bt hC.2.1,_,_,_] M=some (.tuple [.agg (bB hP.1),bt hP.2.1,.agg (ba hP.2.2)],M) at qP
 change ∀M,an (af eM) 12 [.agg (bB hC.1),bt hC.2.1,_,_,_] M=some (.tuple [.agg (bB hQ.1),bt hQ.2.1,.agg (ba hQ.2.2)],M) at qQ
 generalize hA=A,hB=B,hC=C,hD=D,hE=E,hI=I,hK=K,hP=P,hQ=Q at *
 refine aq rfl rfl rfl ?_
 have q24:=j24
 simp only [bB,ba,cz,bt,bK,bU,List.map_cons,List.map_nil] at *
 simp only [e1,e2] at q16
 simp only [fC,cY,List.map_nil] at qx
 simp only [fn9,E9,q11,q24,qA,qB,qC,qD,qE,qI,qK,qP,qQ,q16,q17,q1,q3,qr,qx,e1,e2,e5,e6,e7,e8,e9,e10,e11,e12,List.length_map,e13,EW,simprocAttr]
end
def Sv (v:ae) (s:List bq):Prop:=v=bt s\/(v = .slice .c0 []/\s=[])
def Y2:Sv (.slice .c0 []) [] := .inr ⟨rfl,rfl⟩
def sv (s:List bq):Sv (bt s) s := .inl rfl
def Sv.is {v:ae} {s:List bq} (h:Sv v s) (h0:s≠[]):v=bt s:=by
 rcases h with rfl|⟨rfl,rfl⟩
 ·rfl
 ·exact absurd rfl h0
def nD {l:List cC} (h:lR l=false):l.length<=40/\∀c,c∈l->qj c.op:=by
 unfold lR at h
 split at h
 ·cases h
 rename_i h0
 refine ⟨by simp at h0; omega,?_⟩
 clear h0
 induction l with
 |nil=>intro c hc; cases hc
 |cons a r ih =>
  rw [pY] at h
  split at h
  ·cases h
  rename_i h1
  simp only [Bool.or_eq_true,decide_eq_true_eq,not_or] at h1
  intro c hc
  rcases List.mem_cons.1 hc with rfl|hc
  ·exact ⟨by omega,by omega,by omega⟩
  ·exact ih h c hc
def fS (f:aa) {l:List bq} (h:ky l) (c s:Int) (o:dL) :
  (gU c s (bJ l c)≠0/\cd f l c s o=(f,l,kW (gU c s (bJ l c)))) \/
  (gU c s (bJ l c)=0/\s=bJ l c/\cd f l c s o=(f,l,sX l c)) \/
  (gU c s (bJ l c)=0/\s≠bJ l c/\cd f l c s o=((jB f (jV o c)).1,jQ l c s (jB f (jV o c)).2,(jB f (jV o c)).2)):=by
 rw [vu f h]
 by_cases h1:gU c s (bJ l c)=0
 ·by_cases h2:s=bJ l c
  ·exact .inr (.inl ⟨h1,h2,by rw [if_neg (fun g=>g h1),if_pos h2]⟩)
  ·exact .inr (.inr ⟨h1,h2,by rw [if_neg (fun g=>g h1),if_neg h2]⟩)
 ·exact .inl ⟨h1,by rw [if_pos h1]⟩
def Ex {l:List bq} {c:Int} (h:bJ l c≠0):∃j p,nB l c=(j:Nat)/\l[j]?=some p/\p.aj=c/\p.seq=bJ l c/\p.nj=sX l c:=by
 rcases kH c l 0 with ⟨_,h2⟩|⟨j,p,h1,h2,h3,h4⟩
 ·exfalso; apply h; unfold bJ; rw [h2]
 ·exact ⟨j,p,by unfold nB; rw [h1,Nat.zero_add],h2,h3,by unfold bJ; rw [h4],by unfold sX; rw [h4]⟩
def pV:∀ {l:List bq} (_:ky l) {p:bq},p∈l->l.find? (fun s=>s.aj==p.aj)=some p
 | [],_,p,h=>by cases h
 |a::r,h,p,hp=>by
  obtain ⟨h1,h2⟩:=List.pairwise_cons.1 h
  rw [List.find?_cons]
  rcases List.mem_cons.1 hp with rfl|hp
  ·simp
  ·have:=h1 p hp
   have:(a.aj==p.aj)=false:=by simp; omega
   rw [this]
   exact pV h2 hp
def iQ.pos {k:Nat} {f:aa} {l:List bq} (h:iQ k f l) (c:Int):0<=bJ l c:=by
 unfold bJ
 split
 ·rename_i s hs; have:=h.bd s (List.mem_of_find?_eq_some hs); omega
 ·omega
def iQ.wrap {k:Nat} {f:aa} {l:List bq} (h:iQ k f l) (c:Int):IntKind.i64.wrap (bJ l c+1)=bJ l c+1:=by
 have:=h.seq.last c
 exact bw (by omega) (by omega)
def GR {k:Nat} {f:aa} {l:List bq} (h:iQ k f l) (c s:Int) (o:dL) :
  (∀p,p∈l->∃(j:Nat) (q:bq),nB (cd f l c s o).2.1 p.aj=j/\(cd f l c s o).2.1[j]?=some q/\(p.aj≠c->q=p)) /\
  (bJ (cd f l c s o).2.1 c≠bJ l c->bJ (cd f l c s o).2.1 c=bJ l c+1/\bJ (cd f l c s o).2.1 c=s/\∃(j:Nat) (q:bq),nB (cd f l c s o).2.1 c=j/\(cd f l c s o).2.1[j]?=some q/\q.nj=(cd f l c s o).2.2) /\
  (cd f l c s o).2.1.length<=l.length+1:=by
 have stay:(∀p,p∈l->∃(j:Nat) (q:bq),nB l p.aj=j/\l[j]?=some q/\(p.aj≠c->q=p)):=by
  intro p hp
  have hs:=pV h.fh hp
  rcases kH p.aj l 0 with ⟨_,h2⟩|⟨j,q,h1,h2,h3,h4⟩
  ·rw [hs] at h2; cases h2
  ·rw [hs] at h4; injection h4 with h4
   exact ⟨j,q,by unfold nB; rw [h1,Nat.zero_add],h2,fun _=>h4.symm⟩
 rcases fS f h.fh c s o with ⟨h1,h2⟩|⟨h1,h2,h3⟩|⟨h1,h2,h3⟩
 ·rw [h2]; exact ⟨stay,fun g=>absurd rfl g,Nat.le_succ _⟩
 ·rw [h3]; exact ⟨stay,fun g=>absurd rfl g,Nat.le_succ _⟩
 ·rw [h3]
  obtain ⟨m1,m2,m3,m4,m5,m6⟩:=ow h1
  refine ⟨fun p hp=>?_,fun _=>?_,(za h.fh _ _ _).2⟩
  ·have hw:=rC h.fh c s (jB f (jV o c)).2 p.aj
   rcases kH p.aj (jQ l c s (jB f (jV o c)).2) 0 with ⟨_,g2⟩|⟨j,q,g1,g2,g3,g4⟩
   ·rw [hw] at g2
    split at g2
    ·cases g2
    ·rw [pV h.fh hp] at g2; cases g2
   ·refine ⟨j,q,by unfold nB; rw [g1,Nat.zero_add],g2,fun hne=>?_⟩
    rw [hw,if_neg hne,pV h.fh hp] at g4
    injection g4 with g4
    exact g4.symm
  ·have hl:=kb h.fh c s (jB f (jV o c)).2 c
   have ha:=vI h.fh c s (jB f (jV o c)).2 c
   rw [if_pos rfl] at hl ha
   have hn:bJ (jQ l c s (jB f (jV o c)).2) c≠0:=by rw [hl]; omega
   obtain ⟨j,p,g1,g2,_,_,g5⟩:=Ex hn
   exact ⟨by rw [hl]; omega,hl,j,p,g1,g2,by rw [g5,ha]⟩
def Kept (l:List bq) (c s:Int) (a:oV):Prop:=gU c s s=0/\bJ l c=s/\sX l c=a
def Kept.again {f:aa} {l:List bq} (h:ky l) {c s:Int} {a:oV} (hk:Kept l c s a) (o:dL):cd f l c s o=(f,l,a):=by
 rw [vu f h,hk.2.1,if_neg (fun g=>g hk.1),if_pos rfl,hk.2.2]
def Kept.other {f:aa} {l:List bq} (h:ky l) {c s d t:Int} {a:oV} (hk:Kept l c s a) (o:dL) (hd:d≠c):Kept (cd f l d t o).2.1 c s a:=by
 rcases fS f h d t o with ⟨h1,h2⟩|⟨h1,h2,h3⟩|⟨h1,h2,h3⟩
 ·rw [h2]; exact hk
 ·rw [h3]; exact hk
 ·rw [h3]
  exact ⟨hk.1,by rw [kb h,if_neg (fun g=>hd g.symm)]; exact hk.2.1,by rw [vI h,if_neg (fun g=>hd g.symm)]; exact hk.2.2⟩
def Qe {k:Nat} {f:aa} {l:List bq} (h:iQ k f l) {c s:Int} (o:dL) (h1:s=bJ l c+1) (h2:bJ (cd f l c s o).2.1 c=s):Kept (cd f l c s o).2.1 c s (cd f l c s o).2.2:=by
 rcases fS f h.fh c s o with ⟨g1,g2⟩|⟨g1,g2,g3⟩|⟨g1,g2,g3⟩
 ·rw [g2] at h2; simp only at h2; omega
 ·omega
 ·rw [g3]
  obtain ⟨m1,m2,m3,m4,m5,m6⟩:=ow g1
  refine ⟨?_,by rw [kb h.fh,if_pos rfl],by rw [vI h.fh,if_pos rfl]⟩
  unfold gU
  rw [if_neg (by omega),if_neg (by omega),if_neg (by omega)]
def refused {f:aa} {l:List bq} (h:ky l) {c s:Int} (o:dL) (hx:¬(0<=c/\c<16/\(s=bJ l c\/s=bJ l c+1)/\0<s)) :
  ∃e,cd f l c s o=(f,l,kW e)/\(e=1\/e=120\/e=121):=by
 rcases fS f h c s o with ⟨h1,h2⟩|⟨h1,_⟩|⟨h1,_⟩
 ·refine ⟨_,h2,?_⟩
  clear h2
  unfold gU at h1 ⊢
  by_cases a1:c<0\/16<=c
  ·rw [if_pos a1]; exact .inl rfl
  rw [if_neg a1] at h1 ⊢
  by_cases a2:s<1\/s<bJ l c
  ·rw [if_pos a2]; exact .inr (.inl rfl)
  rw [if_neg a2] at h1 ⊢
  by_cases a3:bJ l c+1<s\/1099511627776<s
  ·rw [if_pos a3]; exact .inr (.inr rfl)
  ·rw [if_neg a3] at h1; exact absurd rfl h1
 ·exact absurd h1 (fun g=>hx (by have:=ow g; omega))
 ·exact absurd h1 (fun g=>hx (by have:=ow g; omega))
def iE (l:List cC) (c:Int) (k:Nat):Int:=1+((l.take k).filter (fun x=>dp x.aj==c)).length
def uc {l:List cC} (c:Int) {k:Nat} {x:cC} (h:l[k]?=some x):iE l c (k+1)=if (dp x.aj==c)=true then iE l c k+1 else iE l c k:=by
 unfold iE
 rw [List.take_add_one,h,List.filter_append]
 simp only [Option.toList_some,List.filter_cons,List.filter_nil,List.length_append]
 split<;>simp
 omega
def Rp {l:List cC} (c:Int):∀ {i k:Nat},i<=k->k<=l.length->iE l c i<=iE l c k:=by
 intro i k h
 induction h with
 |refl=>intro _; exact Int.le_refl _
 | @step m hm ih =>
  intro hl
  have hx:=List.getElem?_eq_getElem (show m<l.length by omega)
  rw [uc c hx]
  have:=ih (by omega)
  split<;>omega
def zM {l:List cC} {c:Int} {i k:Nat} {x:cC} (h:i<k) (hk:k<=l.length) (hx:l[i]?=some x) (hc:dp x.aj=c):iE l c i<iE l c k:=by
 have h1:=Rp c (i:=i+1) (k:=k) h hk
 rw [uc c hx,if_pos (by simp [hc])] at h1
 omega
def yD {l:List cC} {c:Int}:∀ {k:Nat},k<=l.length->2<=iE l c k->∃i x,i<k/\l[i]?=some x/\dp x.aj=c/\iE l c i+1=iE l c k
 |0,_,h=>by unfold iE at h; simp at h
 |k+1,hk,h=>by
  have hx:=List.getElem?_eq_getElem (show k<l.length by omega)
  rw [uc c hx] at h ⊢
  split at h
  ·rename_i hc
   rw [if_pos hc]
   exact ⟨k,_,by omega,hx,by simpa using hc,rfl⟩
  ·rename_i hc
   rw [if_neg hc]
   obtain ⟨i,x,h1,h2⟩:=yD (k:=k) (by omega) h
   exact ⟨i,x,by omega,h2⟩
def BL (c:Int):∀(l:List cC) (ds:List Bool) (n:Int) (t:Bool),l.length<=ds.length ->
  uV c l ds (n,t)=(n+(l.filter (fun x=>dp x.aj==c)).length,t&&(l.zip ds).all (fun p => !(dp p.1.aj==c)||p.2))
 | [],ds,n,t,_=>by cases ds<;>simp [uV]
 |x::l,[],n,t,h=>by simp at h
 |x::l,d::ds,n,t,h=>by
  have ih:=fun n t=>BL c l ds n t (by simpa using h)
  rw [uV]
  cases hc:dp x.aj==c
  ·simp [ih,hc]
  ·simp [ih,hc,Bool.and_assoc]; omega
structure Flags (l:List cC) (ds:List Bool) (s:List bq):Prop where
 len:ds.length=l.length
 is:∀i x,l[i]?=some x->ds[i]?=some (decide (iE l (dp x.aj) i<=bJ s (dp x.aj)))
def ON {k:Nat} {l:List cC} {ds:List Bool} {f:aa} {s:List bq} (h:iQ k f s) (hf:Flags l ds s) {i:Nat} {x:cC} (hx:l[i]?=some x) :
  gy l ds i=(iE l (dp x.aj) i,decide (iE l (dp x.aj) i=bJ s (dp x.aj)+1)):=by
 have hi:=(List.getElem?_eq_some_iff.1 hx).1
 have h0:=h.pos (dp x.aj)
 unfold gy
 rw [show l.getD i default=x by rw [List.getD_eq_getElem?_getD,hx]; rfl,BL _ _ _ _ _ (by rw [hf.len]; simp; omega)]
 refine Prod.ext rfl ?_
 simp only
 have hd:ds.getD i false=decide (iE l (dp x.aj) i<=bJ s (dp x.aj)):=by rw [List.getD_eq_getElem?_getD,hf.is i x hx]; rfl
 rw [hd,Bool.eq_iff_iff]
 simp only [Bool.and_eq_true,Bool.not_eq_true',decide_eq_false_iff_not,decide_eq_true_eq,List.all_eq_true]
 have each:∀j y,j<i->l[j]?=some y->dp y.aj=dp x.aj->ds[j]?=some (decide (iE l (dp x.aj) j<=bJ s (dp x.aj))):=fun j y _ hy hc=>by rw [hf.is j y hy,hc]
 constructor
 ·rintro ⟨h1,h2⟩
  rcases Int.lt_or_le (iE l (dp x.aj) i) 2 with g|g
  ·have:1<=iE l (dp x.aj) i:=by unfold iE; omega
   omega
  ·obtain ⟨j,y,g1,g2,g3,g4⟩:=yD (by omega) g
   have hj:=each j y g1 g2 g3
   have hz:((l.take i).zip ds)[j]?=some (y,decide (iE l (dp x.aj) j<=bJ s (dp x.aj))):=by
    rw [List.getElem?_zip_eq_some]
    exact ⟨by rw [List.getElem?_take,if_pos g1]; exact g2,hj⟩
   have:=h2 _ (List.mem_of_getElem? hz)
   simp [g3] at this
   omega
 ·intro h1
  refine ⟨by omega,?_⟩
  rintro ⟨y,d⟩ hp
  obtain ⟨j,hj⟩:=List.mem_iff_getElem?.1 hp
  rw [List.getElem?_zip_eq_some] at hj
  obtain ⟨j1,j2⟩:=hj
  rw [List.getElem?_take] at j1
  split at j1
  ·rename_i hji
   by_cases hc:dp y.aj=dp x.aj
   ·have:=each j y hji j1 hc
    simp only at j2
    rw [this] at j2
    injection j2 with j2
    have hlt:=zM hji (by omega) j1 hc
    simp [<-j2]
    right; omega
   ·simp [hc]
  ·cases j1
def Hb {k:Nat} {l:List cC} {ds:List Bool} {f:aa} {s:List bq} (h:iQ k f s) (hl:l.length<=40) (hf:Flags l ds s) {i:Nat} {x:cC} (hx:l[i]?=some x) :
  ((gy l ds i).2=true/\cd f s (dp x.aj) (gy l ds i).1 x.op=((jB f (jV x.op (dp x.aj))).1,jQ s (dp x.aj) (gy l ds i).1 (jB f (jV x.op (dp x.aj))).2,(jB f (jV x.op (dp x.aj))).2) /\
   Flags l (ds.set i true) (jQ s (dp x.aj) (gy l ds i).1 (jB f (jV x.op (dp x.aj))).2)) \/
  ((gy l ds i).2=false/\∃a,cd f s (dp x.aj) (gy l ds i).1 x.op=(f,s,a)):=by
 have hi:=(List.getElem?_eq_some_iff.1 hx).1
 have h0:=h.pos (dp x.aj)
 have hm:=Q8 x.aj
 have hb:iE l (dp x.aj) i<=41:=by
  unfold iE
  have:=List.length_filter_le (fun x_1=>dp x_1.aj==dp x.aj) (l.take i)
  have:(l.take i).length<=40:=by simp; omega
  omega
 have h1:1<=iE l (dp x.aj) i:=by unfold iE; omega
 rw [ON h hf hx]
 by_cases ht:iE l (dp x.aj) i=bJ s (dp x.aj)+1
 ·refine .inl ⟨by simp [ht],?_,hf.len▸(by simp),fun j y hy=>?_⟩
  ·have hz:gU (dp x.aj) (iE l (dp x.aj) i) (bJ s (dp x.aj))=0:=by
    unfold gU
    rw [if_neg (by omega),if_neg (by omega),if_neg (by omega)]
   rw [vu f h.fh]
   simp only
   rw [if_neg (fun g=>g hz),if_neg (by omega)]
  ·simp only
   rw [kb h.fh,List.getElem?_set]
   have hjl:=(List.getElem?_eq_some_iff.1 hy).1
   by_cases hij:i=j
   ·subst hij
    rw [hx] at hy; injection hy with hy; subst hy
    rw [if_pos rfl,if_pos (by rw [hf.len]; exact hi),if_pos rfl]
    simp
   ·rw [if_neg hij,hf.is j y hy]
    by_cases hc:dp y.aj=dp x.aj
    ·rw [if_pos hc,hc]
     congr 1
     rw [Bool.eq_iff_iff]
     simp only [decide_eq_true_eq]
     have:iE l (dp x.aj) j≠iE l (dp x.aj) i:=by
      rcases Nat.lt_or_ge j i with g|g
      ·have:=zM g (by omega) hy hc; omega
      ·have:=zM (l:=l) (c:=dp x.aj) (i:=i) (k:=j) (by omega) (by omega) hx rfl; omega
     omega
    ·rw [if_neg hc]
 ·refine .inr ⟨by simp [ht],?_⟩
  simp only
  rcases fS f h.fh (dp x.aj) (iE l (dp x.aj) i) x.op with ⟨_,g⟩|⟨_,_,g⟩|⟨g1,g2,_⟩
  ·exact ⟨_,g⟩
  ·exact ⟨_,g⟩
  ·have:=ow g1; omega
def UJ (l:List cC):Flags l (List.replicate l.length false) []:=⟨by simp,fun i x hx=>by
 have hi:=(List.getElem?_eq_some_iff.1 hx).1
 rw [List.getElem?_replicate,if_pos hi]
 have:1<=iE l (dp x.aj) i:=by unfold iE; omega
 have h2:bJ [] (dp x.aj)=0:=rfl
 rw [h2]
 simp; omega⟩
end Go.Proofs.YtdbadpnkhaepnaaGreatDoor
