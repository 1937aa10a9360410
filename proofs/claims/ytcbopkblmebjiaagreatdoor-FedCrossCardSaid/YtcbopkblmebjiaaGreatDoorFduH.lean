import Derived.KernelRfl
import Derived.Laws.Strings
import Derived.Laws.StructEq
import Derived.MapKept
import Derived.Laws.IdiomStrings
import Derived.Laws.MakeOwn
import Derived.ChangeKeysEq
import Derived.Test.YtcbopkblmebjiaaGreatDoorFduB
import Derived.Test.YtcbopkblmebjiaaGreatDoorFduG
set_option linter.unusedSimpArgs false
set_option linter.unusedVariables false
set_option linter.unusedSectionVars false
set_option linter.defProp false
set_option linter.defProp false
set_option maxRecDepth 100000
open Go.Proofs.Tryz
namespace Go.Abs
section
open Go Go.RowKit
theorem eJ{α:Type}:∀(l:List α)(i:Nat),nth l i=l[i]?
 | [],_=>by rfl
 |_::_,0=>by rfl
 |_::l,n+1=>by simp[nth,eJ l n]
theorem fN{α:Type}:∀(l:List α)(i:Nat)(x:α),jZ l i x=l.set i x
 | [],_,_=>by rfl
 |_::_,0,_=>by rfl
 |_::l,n+1,x=>by simp[jZ,fN l n]
def gv(j:J)(id:Nat)(ob:Option Nat):J:=⟨fun i=>if i=id then ob else j i,j.X⟩
structure Quiet(w w':World):Prop where
 size:w.heap.size<=w'.heap.size
 os:w'.os=w.os
 tape:w'.tape=w.tape
 output:w'.output=w.output
theorem lt_of_block{w:World}{b:Nat}{o:Obj}(h:w.heap[b]?=some o):b<w.heap.size:=by
 grind
theorem aF{α:Type}{l:List α}{i:Nat}{x:α}(h:l[i]?=some x):i<l.length:=by grind
section
variable {j:J} {M:aK} {w w':World}
theorem pR{j':J}{M':aK}(hr:Rel j M w)(ext:Ext j M w j' M' w'){i sz ver:Nat}{xs:List ag}(h:M[i]?=some (.arr sz ver xs))(hj:j' i=j i)(hb:∀b,j i=some b->w'.heap[b]?=w.heap[b]?) :
  (xs=[]/\j' i=none)\/∃b vs t,j' i=some b/\w'.heap[b]?=some (.cells vs t (0,0))/\xs.length*sz<=vs.size/\(∀x,x∈xs->x.cells.length=sz) /\
  ∀(q:Nat)(x:ag)(k:Nat)(c:ag),xs[q]?=some x->x.cells[k]?=some c->∃v,vs[q*sz+k]?=some v/\fF w' (nR j' M' w') c v:=by
 rcases hr.arr i _ _ _ h with he|⟨b,vs,t,h1,h2,h3,h4,h5⟩
 ·grind
 refine .inr ⟨b,vs,t,hj.trans h1,(hb b h1).trans h2,h3,h4,fun q x k c hx hk=>?_⟩
 obtain⟨u,h6,h7⟩:=h5 q x k c hx hk;exact⟨u,h6,h7.mono ext.gX⟩
theorem Rel.yb(hr:Rel j M w){i sz ver b:Nat}{xs:List ag}(h:M[i]?=some (.arr sz ver xs))(hj:j i=some b):∃b vs t,j i=some b/\w.heap[b]?=some (.cells vs t (0,0))/\xs.length*sz<=vs.size/\(∀x,x∈xs->x.cells.length=sz) /\
  ∀(q:Nat)(x:ag)(k:Nat)(c:ag),xs[q]?=some x->x.cells[k]?=some c->∃v,vs[q*sz+k]?=some v/\fF w (nR j M w) c v:=by
 rcases hr.arr i _ _ _ h with ⟨_,he⟩|hh
 ·grind
 omega
theorem xb{bx:cA}{i:Nat}(h:i<M.length):(M++[bx])[i]?=M[i]?:=by grind
def lK{bx:cA}:(M++[bx])[M.length]?=some bx:=by simp
theorem Ext.push{ob:Option Nat}{bx:cA}(hob:∀b,ob=some b->w.heap.size<=b)(q:Quiet w w')(hb:∀b,b<w.heap.size->w'.heap[b]?=w.heap[b]?) :
  Ext j M w (gv j M.length ob) (M++[bx]) w' where
 len:=by simp
 size:=q.size
 os:=q.os
 tape:=q.tape
 output:=q.output
 X:=rfl
 fix:=fun i bx h _=>by
  have hi:=aF h;exact⟨by simp[gv,gm hi],bx,by rw[xb hi]; omega,rfl⟩
 tick:=fun i sz n h=>by
  have hi:=aF h;exact⟨n,ar _,by rw[xb hi]; omega,fun _=>⟨by simp[gv,gm hi],fun b vs t _ hv=>⟨vs,(hb b (lt_of_block hv)).trans hv,rfl⟩⟩⟩
 arr:=fun i sz v xs h=>by
  have hi:=aF h;exact .inr ⟨v,xs,by rw[xb hi]; omega,ar _,fun _=>⟨by simp[gv,gm hi],rfl,fun b vs t _ hv=>⟨vs,(hb b (lt_of_block hv)).trans hv,rfl⟩⟩⟩
 tags:=fun b0 vs0 t0 fr0 h=>⟨vs0,fr0,(hb b0 (lt_of_block h)).trans h,rfl⟩
 gX:=fun b off h=>by
  refine⟨⟨bp h.1 q.size,fun id hid hj=>?_,h.3⟩,World.cell?_of_block (hb b h.1)⟩
  by_cases he:id=M.length
  ·have:ob=some b:=by grind [gv]
   have:=hob b this;have:=h.1;omega
  ·have cr:id<M.length:=by grind
   rw[xb cr];exact h.2 id cr (by grind [gv])
 uk:=fun b cr h=>by
  grind [ob,gv]
theorem Rel.ahZ(hr:Rel j M w){ob:Option Nat}{bx:cA}(hob:∀b,ob=some b->w.heap.size<=b/\b<w'.heap.size)(q:Quiet w w')(hb:∀b,b<w.heap.size->w'.heap[b]?=w.heap[b]?)
  (hbox:bx.fixed=true->∃b,ob=some b/\(Ext j M w (gv j M.length ob) (M++[bx]) w'->Holds (gv j M.length ob) (M++[bx]) w' b bx))
  (htick:∀sz n b,bx = .tick sz n->ob=some b->∃vs t,w'.heap[b]?=some (.cells vs t (0,0)))
  (harr:∀sz ver xs,bx = .arr sz ver xs->(xs=[]/\ob=none)\/∃b vs t,ob=some b/\w'.heap[b]?=some (.cells vs t (0,0))/\xs.length*sz<=vs.size/\(∀x,x∈xs->x.cells.length=sz) /\
   ∀j' M',Ext j M w j' M' w'->∀(q:Nat)(x:ag)(k:Nat)(c:ag),xs[q]?=some x->x.cells[k]?=some c->∃v,vs[q*sz+k]?=some v/\fF w' (nR j' M' w') c v:=by intro _ _ _ h; cases h):Rel (gv j M.length ob) (M++[bx]) w':=by
 have ext:Ext j M w (gv j M.length ob) (M++[bx]) w':=Ext.push (fun b h=>(hob b h).1) q hb
 have up:∀i,i<M.length->gv j M.length ob i=j i:=fun i hi=>by simp[gv,gm hi]
 have cas:∀i x,(M++[bx])[i]?=some x->(i<M.length/\M[i]?=some x)\/(i=M.length/\x=bx):=by
  grind
 refine⟨fun i i' b hi hi' h h'=>?_,fun i b hi h=>?_,fun i bx' h hf=>?_,fun i sz n b h hj=>?_,fun i sz ver xs h=>?_,fun i b hi h off hx=>?_,fun b off h=>bp (hr.zG b off h) q.size⟩
 ·simp only[aJ,av,aG] at hi hi'
  by_cases e:i=M.length<;>by_cases e':i'=M.length
  ·omega
  ·have h1:ob=some b:=by simpa[gv,e] using h
   rw[up i' (by omega)] at h'
   have:=hr.lt i' b (by omega) h'
   have:=(hob b h1).1;omega
  ·have h1:ob=some b:=by simpa[gv,e'] using h'
   rw[up i (by omega)] at h
   have:=hr.lt i b (by omega) h
   have:=(hob b h1).1;omega
  ·rw[up i (by omega)] at h
   rw[up i' (by omega)] at h'
   exact hr.inj i i' b (by omega) (by omega) h h'
 ·simp only[aJ,av,aG] at hi
  by_cases e:i=M.length
  ·exact(hob b (by simpa[gv,e] using h)).2
  ·rw[up i (by omega)] at h
   exact bp (hr.lt i b (by omega) h) q.size
 ·rcases cas i _ h with ⟨hi,h⟩|⟨rfl,hx⟩
  ·obtain⟨b,h1,h2⟩:=hr.fix i bx' h hf;exact⟨b,by rw[up i hi]; exact h1,h2.mono ext (hb b (hr.lt i b hi h1))⟩
  ·subst hx;obtain⟨b,h1,h2⟩:=hbox hf;exact⟨b,by simp[gv,h1],h2 ext⟩
 ·rcases cas i _ h with ⟨hi,h⟩|⟨rfl,hx⟩
  ·rw[up i hi] at hj;obtain⟨vs,t,h1⟩:=hr.tick i sz n b h hj;exact⟨vs,t,(hb b (lt_of_block h1)).trans h1⟩
  ·exact htick sz n b hx.symm (by simpa[gv] using hj)
 ·rcases cas i _ h with ⟨hi,h⟩|⟨rfl,hx⟩
  ·exact pR hr ext h (up i hi) fun b h1=>hb b (hr.lt i b hi h1)
  grind [gv]
 ·by_cases e:i=M.length
  ·have h1:=(hob b (by simpa[gv,e] using h)).1
   have h2:=hr.zG b off hx;omega
  ·exact hr.uC i b (by simp at hi; omega) (by rw[up i (by simp at hi; omega)] at h; exact h) off hx
def Rel.push(hr:Rel j M w){ob:Option Nat}{bx:cA}(hob:∀b,ob=some b->w.heap.size<=b/\b<w'.heap.size)(q:Quiet w w')(hb:∀b,b<w.heap.size->w'.heap[b]?=w.heap[b]?)
  (hbox:bx.fixed=true->∃b,ob=some b/\∀j' M',Ext j M w j' M' w'->Holds j' M' w' b bx)
  (htick:∀sz n b,bx = .tick sz n->ob=some b->∃vs t,w'.heap[b]?=some (.cells vs t (0,0)))
  (harr:∀sz ver xs,bx = .arr sz ver xs->(xs=[]/\ob=none)\/∃b vs t,ob=some b/\w'.heap[b]?=some (.cells vs t (0,0))/\xs.length*sz<=vs.size/\(∀x,x∈xs->x.cells.length=sz) /\
   ∀j' M',Ext j M w j' M' w'->∀(q:Nat)(x:ag)(k:Nat)(c:ag),xs[q]?=some x->x.cells[k]?=some c->∃v,vs[q*sz+k]?=some v/\fF w' (nR j' M' w') c v:=by intro _ _ _ h; cases h):Rel (gv j M.length ob) (M++[bx]) w' :=
 hr.ahZ hob q hb (fun hf=>(hbox hf).imp fun b h=>⟨h.1,fun hx=>h.2 _ _ hx⟩) htick harr
theorem dC{id:Nat}{bx:cA}(h:id<M.length):(M.set id bx)[id]?=some bx:=by grind
theorem cC{id i:Nat}{bx:cA}(h:id≠i):(M.set id bx)[i]?=M[i]?:=by grind
theorem Ext.store{id b:Nat}{bx bx':cA}(hM:M[id]?=some bx)(hfx:bx.fixed=true)(htag:bx'.tag=bx.tag)(hj:j id=some b)(hr:Rel j M w)(q:Quiet w w')
  (hb:∀b',b'≠b->b'<w.heap.size->w'.heap[b']?=w.heap[b']?) (htg:∀(vs:Array Value)(t:TypeId)(fr:Nat×Nat),w.heap[b]?=some (.cells vs t fr)->∃vs' fr',w'.heap[b]?=some (.cells vs' t fr')/\vs'.size=vs.size):Ext j M w j (M.set id bx') w' where
 len:=by simp
 size:=q.size
 os:=q.os
 tape:=q.tape
 output:=q.output
 X:=rfl
 fix:=fun i b0 h _=>⟨rfl,by
  grind⟩
 tick:=fun i sz n h=>by
  have e:id≠i:=by rintro rfl; rw[hM] at h; cases h; cases hfx
  refine⟨n,ar _,by rw[cC e]; omega,fun _=>⟨rfl,fun b' vs t hb' hv=>⟨vs,?_,rfl⟩⟩⟩
  refine(hb b' ?_ (lt_of_block hv)).trans hv;rintro rfl;exact e (hr.inj _ _ _ (aF hM) (aF h) hj hb')
 arr:=fun i sz v xs h=>by
  have e:id≠i:=by rintro rfl; rw[hM] at h; cases h; cases hfx
  refine .inr ⟨v,xs,by rw[cC e]; omega,ar _,fun _=>⟨rfl,rfl,fun b' vs t hb' hv=>⟨vs,?_,rfl⟩⟩⟩
  refine(hb b' ?_ (lt_of_block hv)).trans hv;rintro rfl;exact e (hr.inj _ _ _ (aF hM) (aF h) hj hb')
 tags:=fun b0 vs0 t0 fr0 h=>by
  grind
 gX:=fun b0 off h=>by
  have hne:b0≠b:=by
   rintro rfl;obtain⟨sz,n,h1,_⟩:=h.2 id (aF hM) hj;rw[hM] at h1; cases h1; cases hfx
  refine⟨⟨bp h.1 q.size,fun i hi hji=>?_,h.3⟩,World.cell?_of_block (w:=w) (hb b0 hne h.1)⟩
  have e:id≠i:=by grind
  rw[cC e];exact h.2 i (by simpa using hi) hji
 uk:=fun b0 cr h=>by
  grind
theorem Rel.store{id b:Nat}{bx bx':cA}(hM:M[id]?=some bx)(hfx:bx.fixed=true)(htag:bx'.tag=bx.tag)(hj:j id=some b)(hr:Rel j M w)(q:Quiet w w')
  (hb:∀b',b'≠b->b'<w.heap.size->w'.heap[b']?=w.heap[b']?) (htg:∀(vs:Array Value)(t:TypeId)(fr:Nat×Nat),w.heap[b]?=some (.cells vs t fr)->∃vs' fr',w'.heap[b]?=some (.cells vs' t fr')/\vs'.size=vs.size) (hh:∀j' M',Ext j M w j' M' w'->Holds j' M' w' b bx'):Rel j (M.set id bx') w':=by
 have ext  := Ext.store hM hfx htag hj hr q hb htg;refine⟨fun i i' b0 hi hi'=>hr.inj i i' b0 (by simpa using hi) (by simpa using hi'),fun i b0 hi h=>bp (hr.lt i b0 (by simpa using hi) h) q.size,fun i bx0 h hf=>?_,fun i sz n b0 h hji=>?_,fun i sz ver xs h=>?_,fun i b0 hi h=>hr.uC i b0 (by simpa using hi) h,fun b0 off h=>bp (hr.zG b0 off h) q.size⟩
 ·by_cases e:id=i
  ·grind
  ·rw[cC e] at h;obtain⟨b0,h1,h2⟩:=hr.fix i _ h hf;refine⟨b0,h1,h2.mono ext (hb b0 ?_ (hr.lt i b0 (aF h) h1))⟩;rintro rfl;exact e (hr.inj _ _ _ (aF hM) (aF h) hj h1)
 ·have e:id≠i:=by
   rintro rfl;rw[dC (aF hM)] at h;injection h with h
   have:=AU htag hfx;rw[h] at this; cases this
  rw[cC e] at h;obtain⟨vs,t0,h1⟩:=hr.tick i sz n b0 h hji;refine⟨vs,t0,(hb b0 ?_ (lt_of_block h1)).trans h1⟩;rintro rfl;exact e (hr.inj _ _ _ (aF hM) (aF h) hj hji)
 ·have e:id≠i:=by
   rintro rfl;rw[dC (aF hM)] at h;injection h with h
   have:=AU htag hfx;rw[h] at this; cases this
  rw[cC e] at h;refine pR hr ext h rfl fun b0 h1=>hb b0 ?_ (hr.lt i b0 (aF h) h1)
  rintro rfl;exact e (hr.inj _ _ _ (aF hM) (aF h) hj h1)
theorem Ext.Gy{k b sz n n':Nat}{vs vs':Array Value}{t:TypeId}(hM:M[k]?=some (.tick sz n))(hj:j k=some b)(hr:Rel j M w)(q:Quiet w w')
  (hb:∀b',b'≠b->b'<w.heap.size->w'.heap[b']?=w.heap[b']?) (hw:w.heap[b]?=some (.cells vs t (0,0))) (hw':w'.heap[b]?=some (.cells vs' t (0,0))) (hvs:vs'.size=vs.size)
  (hq:∀p,p<n*sz->vs'[p]?=vs[p]?) (hn:n<=n'):Ext j M w j (M.set k (.tick sz n')) w' where
 len:=by simp
 size:=q.size
 os:=q.os
 tape:=q.tape
 output:=q.output
 X:=rfl
 fix:=fun i b0 h hf=>⟨rfl,by
  have e:k≠i:=by rintro rfl; rw[hM] at h; cases h; cases hf
  grind⟩
 tick:=fun i sz0 n0 h=>by
  grind
 arr:=fun i sz v xs h=>by
  grind
 tags:=fun b0 vs0 t0 fr0 h=>by
  grind
 gX:=fun b0 off h=>by
  refine⟨⟨bp h.1 q.size,fun i hi hji=>?_,h.3⟩,?_⟩
  ·by_cases e:k=i
   ·subst e;obtain⟨sz0,n0,h1,h2⟩:=h.2 k (aF hM) hji;rw[hM] at h1;injection h1 with h1; injection h1 with e1 e2
    subst e1; subst e2;exact⟨sz,n',dC (aF hM),bp h2 (bd _ hn)⟩
   ·rw[cC e];exact h.2 i (by simpa using hi) hji
  ·by_cases e:b0=b
   ·subst e;obtain⟨sz0,n0,h1,h2⟩:=h.2 k (aF hM) hj;rw[hM] at h1
    grind [World.cell?]
   ·exact World.cell?_of_block (w:=w) (hb b0 e h.1)
 uk:=fun b0 cr h=>by
  grind
theorem Rel.Gy{k b sz n n':Nat}{vs vs':Array Value}{t:TypeId}(hM:M[k]?=some (.tick sz n))(hj:j k=some b)(hr:Rel j M w)(q:Quiet w w')
  (hb:∀b',b'≠b->b'<w.heap.size->w'.heap[b']?=w.heap[b']?) (hw:w.heap[b]?=some (.cells vs t (0,0))) (hw':w'.heap[b]?=some (.cells vs' t (0,0))) (hvs:vs'.size=vs.size)
  (hq:∀p,p<n*sz->vs'[p]?=vs[p]?) (hn:n<=n'):Rel j (M.set k (.tick sz n')) w':=by
 have ext:Ext j M w j (M.set k (.tick sz n')) w':=Ext.Gy hM hj hr q hb hw hw' hvs hq hn;refine⟨fun i i' b0 hi hi'=>hr.inj i i' b0 (by grind) (by grind),fun i b0 hi h=>bp (hr.lt i b0 (by grind) h) q.size,fun i bx0 h hf=>?_,fun i sz0 n0 b0 h hji=>?_,fun i sz ver xs h=>?_,fun i b0 hi h=>hr.uC i b0 (by grind) h,fun b0 off h=>bp (hr.zG b0 off h) q.size⟩
 ·have e:k≠i:=by rintro rfl; rw[dC (aF hM)] at h; cases h; cases hf
  rw[cC e] at h;obtain⟨b0,h1,h2⟩:=hr.fix i bx0 h hf;refine⟨b0,h1,h2.mono ext (hb b0 ?_ (hr.lt i b0 (aF h) h1))⟩;rintro rfl;exact e (hr.inj _ _ _ (aF hM) (aF h) hj h1)
 ·by_cases e:k=i
  ·grind
  ·rw[cC e] at h;obtain⟨vs0,t0,h1⟩:=hr.tick i sz0 n0 b0 h hji
   grind
 ·have e:k≠i:=by grind
  rw[cC e] at h;refine pR hr ext h rfl fun b0 h1=>hb b0 ?_ (hr.lt i b0 (aF h) h1)
  rintro rfl;exact e (hr.inj _ _ _ (aF hM) (aF h) hj h1)
theorem Ext.BV{k b' sz n n':Nat}(hM:M[k]?=some (.tick sz n))(q:Quiet w w')(hb:∀b,b<w.heap.size->w'.heap[b]?=w.heap[b]?)(hf:w.heap.size<=b')(hn:n<n') :
  Ext j M w (gv j k (some b')) (M.set k (.tick sz n')) w' where
 len:=by simp
 size:=q.size
 os:=q.os
 tape:=q.tape
 output:=q.output
 X:=rfl
 fix:=fun i b0 h hf=>by
  have e:k≠i:=by rintro rfl; rw[hM] at h; cases h; cases hf
  exact⟨by simp[gv,dA e],b0,by rw[cC e]; omega,rfl⟩
 tick:=fun i sz0 n0 h=>by
  by_cases e:k=i
  ·grind
  ·exact⟨n0,ar _,by rw[cC e]; omega,fun _=>⟨by simp[gv,dA e],fun b vs0 t0 _ hv=>⟨vs0,(hb b (lt_of_block hv)).trans hv,rfl⟩⟩⟩
 arr:=fun i sz v xs h=>by
  have e:k≠i:=by grind
  exact .inr ⟨v,xs,by rw[cC e]; omega,ar _,fun _=>⟨by simp[gv,dA e],rfl,fun b vs0 t0 _ hv=>⟨vs0,(hb b (lt_of_block hv)).trans hv,rfl⟩⟩⟩
 tags:=fun b0 vs0 t0 fr0 h=>⟨vs0,fr0,(hb b0 (lt_of_block h)).trans h,rfl⟩
 gX:=fun b0 off h=>by
  refine⟨⟨bp h.1 q.size,fun i hi hji=>?_,h.3⟩,World.cell?_of_block (w:=w) (hb b0 h.1)⟩
  have e:k≠i:=by
   rintro rfl;have:b'=b0:=by grind [gv]
   have:=h.1;omega
  rw[cC e];exact h.2 i (by grind) (by simp_all [gv,Ne.symm])
 uk:=fun b0 cr h=>by
  grind [gv]
def Rel.BV{k b' sz n n':Nat}{vs:Array Value}{t:TypeId}(hM:M[k]?=some (.tick sz n))(hr:Rel j M w)(q:Quiet w w')(hb:∀b,b<w.heap.size->w'.heap[b]?=w.heap[b]?)
  (hf:w.heap.size<=b') (hw':w'.heap[b']?=some (.cells vs t (0,0))) (hn:n<n'):Rel (gv j k (some b')) (M.set k (.tick sz n')) w':=by
 have ext:Ext j M w (gv j k (some b')) (M.set k (.tick sz n')) w':=Ext.BV hM q hb hf hn;refine⟨fun i i' b0 hi hi' h h'=>?_,fun i b0 hi h=>?_,fun i bx0 h hf=>?_,fun i sz0 n0 b0 h hji=>?_,fun i sz ver xs h=>?_,fun i b0 hi h off hx=>?_,fun b0 off h=>bp (hr.zG b0 off h) q.size⟩
 ·simp only[ec] at hi hi'
  by_cases e:i=k<;>by_cases e':i'=k
  ·omega
  ·have h1:b'=b0:=by simpa[gv,e] using h
   have:=hr.lt i' b0 hi' (by simpa[gv,e'] using h')
   omega
  ·have h1:b'=b0:=by simpa[gv,e'] using h'
   have:=hr.lt i b0 hi (by simpa[gv,e] using h)
   omega
  ·exact hr.inj i i' b0 hi hi' (by simpa[gv,e] using h) (by simpa[gv,e'] using h')
 ·simp only[ec] at hi
  by_cases e:i=k
  ·have h1:b'=b0:=by simpa[gv,e] using h
   subst h1;exact lt_of_block hw'
  ·exact bp (hr.lt i b0 hi (by simpa[gv,e] using h)) q.size
 ·have e:k≠i:=by rintro rfl; rw[dC (aF hM)] at h; cases h; cases hf
  rw[cC e] at h;obtain⟨b0,h1,h2⟩:=hr.fix i bx0 h hf;exact⟨b0,by simpa[gv,dA e] using h1,h2.mono ext (hb b0 (hr.lt i b0 (aF h) h1))⟩
 ·by_cases e:i=k
  ·have h1:b'=b0:=by simpa[gv,e] using hji
   subst h1;exact⟨vs,t,hw'⟩
  ·rw[cC (dA e)] at h;obtain⟨vs0,t0,h1⟩:=hr.tick i sz0 n0 b0 h (by simpa[gv,e] using hji)
   exact⟨vs0,t0,(hb b0 (lt_of_block h1)).trans h1⟩
 ·have e:k≠i:=by rintro rfl; rw[dC (aF hM)] at h; cases h
  rw[cC e] at h;exact pR hr ext h (by simp[gv,dA e]) fun b0 h1=>hb b0 (hr.lt i b0 (aF h) h1)
 ·by_cases e:i=k
  ·have h1:b'=b0:=by simpa[gv,e] using h
   have h2:=hr.zG b0 off hx;omega
  ·exact hr.uC i b0 (by simpa using hi) (by simpa[gv,e] using h) off hx
end
section
variable {j:J} {M:aK} {w w':World}
def DM(j:J)(M:aK)(w:World)(b sz:Nat)(xs:List ag):Prop:=∃vs t,w.heap[b]?=some (.cells vs t (0,0))/\xs.length*sz<=vs.size/\(∀x,x∈xs->x.cells.length=sz) /\
  ∀(q:Nat)(x:ag)(k:Nat)(c:ag),xs[q]?=some x->x.cells[k]?=some c->∃v,vs[q*sz+k]?=some v/\fF w (nR j M w) c v
def Ext.DR{id b sz ver ver':Nat}{xs xs':List ag}(hM:M[id]?=some (.arr sz ver xs))(hj:j id=some b)(hr:Rel j M w)(q:Quiet w w')
  (hb:∀b',b'≠b->b'<w.heap.size->w'.heap[b']?=w.heap[b']?) (hw:∀vs t,w.heap[b]?=some (.cells vs t (0,0))->∃vs',w'.heap[b]?=some (.cells vs' t (0,0))/\vs'.size=vs.size)
  (hv:ver<=ver') (hl:ver'=ver->xs'.length=xs.length):Ext j M w j (M.set id (.arr sz ver' xs')) w' where
 len:=by simp
 size:=q.size
 os:=q.os
 tape:=q.tape
 output:=q.output
 X:=rfl
 fix:=fun i b0 h hf=>⟨rfl,by
  have e:id≠i:=by rintro rfl; rw[hM] at h; cases h; cases hf
  exact⟨b0,by rw[cC e]; exact h,rfl⟩⟩
 tick:=fun i sz0 n0 h=>by
  have e:id≠i:=by rintro rfl; rw[hM] at h; cases h
  refine⟨n0,ar _,by rw[cC e]; exact h,fun _=>⟨rfl,fun b' vs0 t0 hb' hv=>⟨vs0,?_,rfl⟩⟩⟩
  refine(hb b' ?_ (lt_of_block hv)).trans hv;rintro rfl;exact e (hr.inj _ _ _ (aF hM) (aF h) hj hb')
 arr:=fun i sz0 v0 xs0 h=>by
  by_cases e:id=i
  ·subst e;rw[hM] at h;injection h with h; injection h with e1 e2 e3
   subst e1; subst e2; subst e3;refine .inr ⟨ver',xs',dC (aF hM),hv,fun he=>⟨rfl,hl he,fun b' vs t hb' hv=>?_⟩⟩
   rw[hj] at hb'; cases hb';exact hw vs t hv
  ·refine .inr ⟨v0,xs0,by rw[cC e]; exact h,ar _,fun _=>⟨rfl,rfl,fun b' vs t hb' hv=>⟨vs,?_,rfl⟩⟩⟩
   refine(hb b' ?_ (lt_of_block hv)).trans hv;rintro rfl;exact e (hr.inj _ _ _ (aF hM) (aF h) hj hb')
 tags:=fun b0 vs0 t0 fr0 h=>by
  by_cases e:b0=b
  ·subst e;obtain⟨b',vs,t,g1,g2,_⟩:=hr.yb hM hj;rw[hj] at g1; cases g1;rw[g2] at h; injection h with h; injection h with h1 h2 h3
   subst h1; subst h2;obtain⟨vs',k1,k2⟩:=hw vs t g2;exact⟨_,_,k1,k2⟩
  ·exact⟨vs0,fr0,(hb b0 e (lt_of_block h)).trans h,rfl⟩
 gX:=fun b0 off h=>by
  have hne:b0≠b:=by
   rintro rfl;obtain⟨sz,n,h1,_⟩:=h.2 id (aF hM) hj;rw[hM] at h1; cases h1
  refine⟨⟨bp h.1 q.size,fun i hi hji=>?_,h.3⟩,World.cell?_of_block (w:=w) (hb b0 hne h.1)⟩
  have e:id≠i:=by rintro rfl; rw[hj] at hji; injection hji with hji; exact hne hji.symm
  rw[cC e];exact h.2 i (by simpa using hi) hji
 uk:=fun b0 cr h=>by
  have hne:b0≠b:=by rintro rfl; exact h id (aF hM) hj
  exact⟨hb b0 hne cr,fun i hi=>h i (by simpa using hi)⟩
def Rel.DR{id b sz ver ver':Nat}{xs xs':List ag}(hM:M[id]?=some (.arr sz ver xs))(hj:j id=some b)(hr:Rel j M w)(q:Quiet w w')
  (hb:∀b',b'≠b->b'<w.heap.size->w'.heap[b']?=w.heap[b']?) (hw:∀vs t,w.heap[b]?=some (.cells vs t (0,0))->∃vs',w'.heap[b]?=some (.cells vs' t (0,0))/\vs'.size=vs.size)
  (hv:ver<=ver') (hl:ver'=ver->xs'.length=xs.length) (hh:∀j' M',Ext j M w j' M' w'->DM j' M' w' b sz xs'):Rel j (M.set id (.arr sz ver' xs')) w':=by
 have ext:Ext j M w j (M.set id (.arr sz ver' xs')) w':=Ext.DR hM hj hr q hb hw hv hl;refine⟨fun i i' b0 hi hi'=>hr.inj i i' b0 (by simpa using hi) (by simpa using hi'),fun i b0 hi h=>bp (hr.lt i b0 (by simpa using hi) h) q.size,fun i bx0 h hf=>?_,fun i sz0 n0 b0 h hji=>?_,fun i sz0 v0 xs0 h=>?_,fun i b0 hi h=>hr.uC i b0 (by simpa using hi) h,fun b0 off h=>bp (hr.zG b0 off h) q.size⟩
 ·have e:id≠i:=by rintro rfl; rw[dC (aF hM)] at h; cases h; cases hf
  rw[cC e] at h;obtain⟨b0,h1,h2⟩:=hr.fix i bx0 h hf;refine⟨b0,h1,h2.mono ext (hb b0 ?_ (hr.lt i b0 (aF h) h1))⟩;rintro rfl;exact e (hr.inj _ _ _ (aF hM) (aF h) hj h1)
 ·have e:id≠i:=by rintro rfl; rw[dC (aF hM)] at h; cases h
  rw[cC e] at h;obtain⟨vs,t0,h1⟩:=hr.tick i sz0 n0 b0 h hji;refine⟨vs,t0,(hb b0 ?_ (lt_of_block h1)).trans h1⟩;rintro rfl;exact e (hr.inj _ _ _ (aF hM) (aF h) hj hji)
 ·by_cases e:id=i
  ·subst e;rw[dC (aF hM)] at h;injection h with h; injection h with e1 e2 e3
   subst e1; subst e2; subst e3;obtain⟨vs,t,g⟩:=hh _ _ ext;exact .inr ⟨b,vs,t,hj,g⟩
  ·rw[cC e] at h;refine pR hr ext h rfl fun b0 h1=>hb b0 ?_ (hr.lt i b0 (aF h) h1)
   rintro rfl;exact e (hr.inj _ _ _ (aF hM) (aF h) hj h1)
def Ext.freeze{id sz ver:Nat}{xs:List ag}(hM:M[id]?=some (.arr sz ver xs)):Ext j M w j (M.set id (.tick sz xs.length)) w where
 len:=by simp
 size:=ar _
 os:=rfl
 tape:=rfl
 output:=rfl
 X:=rfl
 fix:=fun i b0 h hf=>⟨rfl,by
  have e:id≠i:=by rintro rfl; rw[hM] at h; cases h; cases hf
  exact⟨b0,by rw[cC e]; exact h,rfl⟩⟩
 tick:=fun i sz0 n0 h=>by
  have e:id≠i:=by rintro rfl; rw[hM] at h; cases h
  exact⟨n0,ar _,by rw[cC e]; exact h,fun _=>⟨rfl,fun b' vs0 t0 hb' hv=>⟨vs0,hv,rfl⟩⟩⟩
 arr:=fun i sz0 v0 xs0 h=>by
  by_cases e:id=i
  ·subst e;rw[hM] at h;injection h with h; injection h with e1 e2 e3
   subst e1; subst e2; subst e3;exact .inl ⟨_,dC (aF hM)⟩
  ·exact .inr ⟨v0,xs0,by rw[cC e]; exact h,ar _,fun _=>⟨rfl,rfl,fun b' vs t hb' hv=>⟨vs,hv,rfl⟩⟩⟩
 tags:=fun b vs t fr h=>⟨vs,fr,h,rfl⟩
 gX:=fun b0 off h=>by
  refine⟨⟨h.1,fun i hi hji=>?_,h.3⟩,rfl⟩
  have e:id≠i:=by
   rintro rfl;obtain⟨sz,n,h1,_⟩:=h.2 id (aF hM) hji;rw[hM] at h1; cases h1
  rw[cC e];exact h.2 i (by simpa using hi) hji
 uk:=fun b0 cr h=>⟨rfl,fun i hi=>h i (by simpa using hi)⟩
def Rel.freeze{id sz ver:Nat}{xs:List ag}(hM:M[id]?=some (.arr sz ver xs))(hr:Rel j M w):Rel j (M.set id (.tick sz xs.length)) w:=by
 have ext:Ext j M w j (M.set id (.tick sz xs.length)) w:=Ext.freeze hM;refine⟨fun i i' b0 hi hi'=>hr.inj i i' b0 (by simpa using hi) (by simpa using hi'),fun i b0 hi h=>hr.lt i b0 (by simpa using hi) h,fun i bx0 h hf=>?_,fun i sz0 n0 b0 h hji=>?_,fun i sz0 v0 xs0 h=>?_,fun i b0 hi h=>hr.uC i b0 (by simpa using hi) h,hr.zG⟩
 ·have e:id≠i:=by rintro rfl; rw[dC (aF hM)] at h; cases h; cases hf
  rw[cC e] at h;obtain⟨b0,h1,h2⟩:=hr.fix i bx0 h hf;exact⟨b0,h1,h2.mono ext rfl⟩
 ·by_cases e:id=i
  ·subst e;obtain⟨b,vs,t,g1,g2,_⟩:=hr.yb hM hji;rw[hji] at g1; cases g1;exact⟨vs,t,g2⟩
  ·rw[cC e] at h;exact hr.tick i sz0 n0 b0 h hji
 ·have e:id≠i:=by rintro rfl; rw[dC (aF hM)] at h; cases h
  rw[cC e] at h;exact pR hr ext h rfl fun b0 h1=>rfl
end
def xf{w:World}{gX saf':Nat->Nat->Prop}{b lo hi sz cap:Nat}{vs:Array Value}{t:TypeId}{xs:List ag}(hw:w.heap[b]?=some (.cells vs t (0,0)))(hwid:∀x,x∈xs->x.cells.length=sz)
  (hc:∀(q:Nat)(x:ag)(k:Nat)(c:ag),xs[q]?=some x->x.cells[k]?=some c->∃v,vs[q*sz+k]?=some v/\fF w gX c v) (hm:∀b off,gX b off->saf' b off) (hs:∀off,off<xs.length*sz->saf' b off)
  (h1:lo<=hi) (h2:hi<=xs.length) (h3:hi-lo<=cap):fF w saf' (.slice .sh ((xs.take hi).drop lo)) (.slice (some ⟨b,lo*sz,none⟩) (hi-lo) cap):=by
 have hget:∀(i:Nat)(x:ag),((xs.take hi).drop lo)[i]?=some x->xs[lo+i]?=some x/\lo+i<hi:=by
  intro i x h;rw[cG] at h;have cr:lo+i<hi:=by have:=aF h; simp at this; omega
  rw[bE cr] at h;exact⟨h,cr⟩
 have idx:∀i k,lo*sz+(i*sz+k)=(lo+i)*sz+k:=fun i k=>by rw[bO]; omega
 refine .slice _ _ _ _ b (lo*sz) sz (fun p=>(vs[lo*sz+p]?).getD undef) (by simp; omega) (by omega) (fun _=>rfl) (fun x hx=>hwid x (di (dv hx))) (fun i x k c hx hk=>?_) fun i x k c hx hk=>?_
 ·obtain⟨g1,g2⟩:=hget i x hx;obtain⟨v,g3,g4⟩:=hc _ x k c g1 hk;have hk':k<sz:=by rw[<-hwid x (aQ g1)]; exact aF hk
  rw[idx];refine⟨by simp[World.cell?,hw,g3],hs _ ?_⟩
  calc (lo+i)*sz+k<(lo+i)*sz+sz:=by omega
   _=(lo+i+1)*sz:=by rw[bO (lo+i) 1]; omega
   _<=xs.length*sz:=bd _ (by omega)
 ·obtain⟨g1,g2⟩:=hget i x hx;obtain⟨v,g3,g4⟩:=hc _ x k c g1 hk;simp only[idx,g3,bz];exact g4.mono fun b off h=>⟨hm b off h,rfl⟩
section
variable [kd]
def iG(j:J)(M:aK)(w:World)(x:ag×aK)(v:Value)(w':World):Prop:=∃j',Rel j' x.2 w'/\Ext j M w j' x.2 w'/\fV j' x.2 w' x.1 v
def GN(j:J)(M:aK)(w:World)(x:ag×aK)(u:Value)(w':World):Prop:=x.1 = .oy u/\∃j',Rel j' x.2 w'/\Ext j M w j' x.2 w'
def vn(j:J)(M:aK)(w:World)(x:ag×aK)(e:Ending)(w':World):Prop :=
 (∃v,e = .returned v/\iG j M w x v w')\/∃u,e = .panicked [{ v:=u,recovered:=false }]/\GN j M w x u w'
def vn.ret{j:J}{M:aK}{w:World}{x:ag×aK}{e:Ending}{w':World}(h:vn j M w x e w')(hx:x.1.jR=false):∃v,e = .returned v/\iG j M w x v w':=by
 rcases h with h|⟨u,_,h,_⟩
 ·omega
 ·rw[h] at hx; cases hx
def eM(P:Program)(f:Nat)(args:List ag)(M:aK)(x:ag×aK):Prop :=
 ∀(j:J)(w:World)(vs:Array Value),Rel j M w->su j M w->args.length=vs.size->(∀(i:Nat)(c:ag)(v:Value),args[i]?=some c->vs[i]?=some v->fV j M w c v) ->
  Calls P f vs w fun e w'=>vn j M w x e w'
def nj(P:Program)(f:Nat)(args:List ag)(M:aK)(x:ag×aK):Prop :=
 ∀(j:J)(w:World)(vs:Array Value),Rel j M w->su j M w->args.length=vs.size->(∀(i:Nat)(c:ag)(v:Value),args[i]?=some c->vs[i]?=some v->fV j M w c v) ->
  Calls P f vs w fun e w'=>∃v j',e = .returned v/\Rel j' x.2 w'/\Ext j M w j' x.2 w'/\fV j' x.2 w' x.1 v
def nj.call{P:Program}{f:Nat}{args:List ag}{M:aK}{x:ag×aK}(h:nj P f args M x):eM P f args M x:=fun j w vs h1 h2 h3 h4 =>
 (h j w _ h1 h2 h3 h4).mono fun e w' ⟨v,j',he,g1,g2,g3⟩ => .inl ⟨v,he,j',g1,g2,g3⟩
def pd(P:Program)(C:eL):Prop:=∀f a M x,C f a M=some x->kJ P f=true/\eM P f a M x
section
variable {j:J} {M:aK} {w:World} {P:Program}
def iG.still{v:Value}{y:ag}(hr:Rel j M w)(h:fV j M w y v):iG j M w (y,M) v w:=⟨j,hr,Ext.refl j M w,h⟩
theorem GU{v:Value}{x:ag}(h:Jr v=some x):fV j M w x v:=by
 unfold Jr at h
 split at h<;>first
  |(cases h; first|exact .plain (.bool _)|exact .plain (.int _ _)|exact .plain (.str _)|exact .plain (.raw _ rfl)|exact .c0 _)
  |grind
theorem GR{gX:Nat->Nat->Prop}:∀ {vs:List Value} {l:List ag},Pd vs=some l->l.length=vs.length/\∀(i:Nat)(c:ag)(v:Value),l[i]?=some c->vs[i]?=some v->fF w gX c v
 | [],l,h=>by
  grind [Pd]
 |v::r,l,h=>by
  simp[Pd] at h;rw[cV] at h;obtain⟨x,hx,h⟩:=h;rw[cV] at h;obtain⟨l',hl,h⟩:=h;cases h;obtain⟨h1,h2⟩:=GR hl;refine⟨by grind,fun i c u hc hu=>?_⟩
  cases i with
  |zero =>
   simp at hc hu; subst hc; subst hu;unfold Xz at hx
   split at hx<;>first
    |(cases hx; first|exact .bool _|exact .int _ _|exact .str _|exact .raw _ rfl)
    |grind
  |succ i=>exact h2 i c u (by grind) (by grind)
theorem pQ:∀ {vs:List Value} {l:List ag},sM vs=some l->l.length=vs.length/\∀(i:Nat)(c:ag)(v:Value),l[i]?=some c->vs[i]?=some v->fV j M w c v
 | [],l,h=>by
  grind [sM]
 |v::r,l,h=>by
  simp[sM] at h;rw[cV] at h;obtain⟨x,hx,h⟩:=h;rw[cV] at h;obtain⟨l',hl,h⟩:=h;injection h with h; obtain⟨h1,h2⟩:=pQ hl
  grind [GU]
theorem GS{v:Value}{x:ag}(h:Pe v=some x):fV j M w x v:=by
 unfold Pe at h;split at h
 ·rw[cV] at h;obtain⟨l,hl,h⟩:=h;cases h;obtain⟨h1,h2⟩:=pQ hl;exact .agg (by omega) fun i c v hc hv=>h2 i c v hc (by grind)
 grind [GU]
theorem cF{br:Env}{a:Act}(he:cu j M w br a){x:Operand}{y:gM}(h:dZ x=some y):fV j M w (y.ev br) (a.eval x):=by
 unfold dZ at h;split at h
 ·cases h; exact he.at' _
 ·rw[cV] at h;obtain⟨z,hz,h⟩:=h;cases h;exact GS hz
 ·cases h;exact .func (by rfl) fun i c v hc=>by simp
 ·rename_i g;rw[cV] at h;obtain⟨vs,hg,h⟩:=h;rw[cV] at h;obtain⟨l,hl,h⟩:=h;cases h;obtain⟨h1,h2⟩:=GR (w:=w) (gX:=nR j M w) hl;refine .jd (vs:=fun k=>(vs[k]?).getD undef) fun k c hk=>?_
  have hk':=aF hk;have hv:vs[k]?=some _:=aj (by omega)
  obtain⟨h3,h4⟩:=he.gl.g g _ k _ hg hv
  grind
theorem tU{br:Env}{a:Act}(he:cu j M w br a):∀ {xs:List Operand} {ys:List gM},uH xs=some ys ->
  ys.length=xs.length/\∀(i:Nat)(y:gM)(x:Operand),ys[i]?=some y->xs[i]?=some x->fV j M w (y.ev br) (a.eval x)
 | [],ys,h=>by
  grind [uH]
 |x::r,ys,h=>by
  simp[uH] at h;rw[cV] at h;obtain⟨y,hy,h⟩:=h;rw[cV] at h;obtain⟨l,hl,h⟩:=h;injection h with h; obtain⟨h1,h2⟩:=tU he hl
  grind [cF]
def fV.iY{b:Bool}{v:Value}(h:fV j M w (.bool b) v):v = .bool b:=by cases h with|plain h=>cases h; rfl
def fV.fM{k:IntKind}{n:Int}{v:Value}(h:fV j M w (.int k n) v):v = .int k n:=by cases h with|plain h=>cases h; rfl
def fV.jU{s:List UInt8}{v:Value}(h:fV j M w (.str s) v):v = .string (bs s):=by cases h with|plain h=>cases h; rfl
theorem fV.lY{cs:List ag}{v:Value}(h:fV j M w (.agg cs) v):∃vs,v = .agg vs/\cs.length=vs.size/\∀(i:Nat)(c:ag)(u:Value),cs[i]?=some c->vs[i]?=some u->fV j M w c u:=by
 cases h with
 |plain h=>cases h
 |agg hl h=>grind
theorem fV.tq{cs:List ag}{v:Value}(h:fV j M w (.tuple cs) v):∃vs,v = .tuple vs/\cs.length=vs.size/\∀(i:Nat)(c:ag)(u:Value),cs[i]?=some c->vs[i]?=some u->fV j M w c u:=by
 cases h with
 |plain h=>cases h
 |tuple hl h=>grind
theorem fV.si{f:Nat}{cs:List ag}{v:Value}(h:fV j M w (.func f cs) v):∃vs,v = .func (.func f) #[] vs/\cs.length=vs.size/\∀(i:Nat)(c:ag)(u:Value),cs[i]?=some c->vs[i]?=some u->fV j M w c u:=by
 cases h with
 |plain h=>cases h
 |func hl h=>grind
theorem fV.pG{id off:Nat}{v:Value}(h:fV j M w (.ptr id off) v):∃b,id<M.length/\(∃cs,M[id]?=some (.cells cs))/\j id=some b/\v = .pointer (some ⟨b,off,none⟩):=by
 cases h with
 |plain h=>cases h
 |ptr h1 h2 h3=>grind
theorem fV.uY{id:Nat}{v:Value}(h:fV j M w (.gD id) v):∃b,(∃ks vs,M[id]?=some (.map ks vs))/\j id=some b/\v = .map (some b):=by
 cases h with
 |plain h=>cases h
 |gD h1 h2=>grind
theorem fV.CQ{id:Nat}{v:Value}(h:fV j M w (.jx id) v):∃b,(∃s p,M[id]?=some (.nB s p))/\j id=some b/\v = .pointer (some ⟨b,0,none⟩):=by
 cases h with
 |plain h=>cases h
 |jx h1 h2=>grind
theorem fV.Gg{f:Nat}{fs:List ag}{v:Value}(h:fV j M w (.rZ f fs) v):∃vs:Array Value,v = .func (.func f) vs #[]/\fs.length=vs.size/\∀(i:Nat)(c:ag)(v:Value),fs[i]?=some c->vs[i]?=some v->Bx w (nR j M w) c v:=by
 cases h with
 |plain h=>cases h
 |rZ hl h=>grind
theorem fV.HN{t id off:Nat}{v:Value}(h:fV j M w (.jL t id off) v):∃b:Nat,(∃cs,M[id]?=some (.cells cs))/\j id=some b/\v = .iface t (.pointer (some ⟨b,off,none⟩)):=by
 cases h with
 |plain h=>cases h
 |jL h1 h2=>grind
def fV.Ht{ks vs:List ag}{v:Value}(h:fV j M w (.iB ks vs) v):∃(b:Nat) (es:Array MapEntry) (clock:Nat),v = .map (some b)/\w.heap[b]?=some (.map es clock)/\ks.length=es.size/\vs.length=es.size /\
  (∀(i:Nat)(k:ag)(e:MapEntry),ks[i]?=some k->es[i]?=some e->fF w (nR j M w) k e.key)/\∀(i:Nat)(v:ag)(e:MapEntry),vs[i]?=some v->es[i]?=some e->Bx w (nR j M w) v e.val:=by
 cases h with
 |plain h=>cases h
 |iB hb hf hx hw hk hv hks hvs=>exact⟨_,_,_,rfl,hw,hk,hv,hks,hvs⟩
def fV.nw{id ver sz lo hi:Nat}{v:Value}(h:fV j M w (.dg id ver sz lo hi) v):((∃b off c,v = .slice (some ⟨b,off,none⟩) (hi-lo) c/\hi-lo<=c)\/hi-lo=0/\∃A,v = .slice A 0 0)/\id<M.length/\(∀bx,M[id]?=some bx->bx.loose=true) /\
  ∀sz' v' xs,M[id]?=some (.arr sz' v' xs)->ver<=v'/\(v'=ver->sz'=sz/\lo<=hi/\hi<=xs.length/\((xs=[]/\j id=none/\∃A,v = .slice A 0 0)\/∃b cap vs t,j id=some b/\v = .slice (some ⟨b,lo*sz,none⟩) (hi-lo) cap/\hi-lo<=cap/\w.heap[b]?=some (.cells vs t (0,0))/\(lo+cap)*sz<=vs.size)):=by
 cases h with
 |plain h=>cases h
 |dg h0 h1 h2 h3=>exact⟨h0,h1,h2,h3⟩
theorem fV.yR{id ver sz lo hi:Nat}{v:Value}(h:fV j M w (.dg id ver sz lo hi) v):∃A cap,v = .slice A (hi-lo) cap:=by
 rcases h.nw.1 with ⟨b,off,c,e,_⟩|⟨e,A,e'⟩
 ·grind
 grind
def fV.US{id ver sz lo hi:Nat}{v:Value}(h:fV j M w (.dg id ver sz lo hi) v)(hne:lo<hi):∃b off c,v = .slice (some ⟨b,off,none⟩) (hi-lo) c/\hi-lo<=c :=
 h.nw.1.resolve_right fun e=>by omega
def fV.sg{id ver i off:Nat}{v:Value}(h:fV j M w (.im id ver i off) v):(∃b o,v = .pointer (some ⟨b,o,none⟩))/\id<M.length/\(∀bx,M[id]?=some bx->bx.loose=true) /\
  ∀sz v' xs,M[id]?=some (.arr sz v' xs)->ver<=v'/\(v'=ver->i<xs.length/\∃b,j id=some b/\v = .pointer (some ⟨b,i*sz+off,none⟩)):=by
 cases h with
 |plain h=>cases h
 |im h0 h1 h2 h3=>exact⟨h0,h1,h2,h3⟩
def fV.tW{cs:List ag}{v:Value}(h:fV j M w (.jd cs) v):∃(b off:Nat) (vs:Nat->Value),v = .pointer (some ⟨b,off,none⟩) /\
  ∀(k:Nat)(c:ag),cs[k]?=some c->w.cell? ⟨b,off+k,none⟩=some (vs k)/\nR j M w b (off+k)/\fF w (nR j M w) c (vs k):=by
 cases h with
 |plain h=>cases h
 | @jd _ b off vs h=>exact⟨b,off,vs,rfl,h⟩
theorem fF.nil(gX:Nat->Nat->Prop)(A:Option Addr)(cap:Nat):fF w gX (.slice .sh []) (.slice A 0 cap) :=
 .slice _ A 0 _ 0 0 0 (fun _=>undef) rfl (cy _) (fun h=>absurd rfl h) (fun x h=>by grind) (fun i x k c h=>by grind) (fun i x k c h=>by grind)
def fV.dD{tk:Tk}{xs:List ag}{v:Value}(h:fV j M w (.slice tk xs) v):fF w (nR j M w) (.slice .sh xs) v:=by
 cases h with
 |plain h=>cases h with|slice=>exact .slice _ _ _ _ _ _ _ _ (by omega) (by omega) (by omega) (by omega) (by omega) (by omega)
 |c0 A=>simp[fF.nil]
 |own _ _ h _=>omega
def fF.dD{gX:Nat->Nat->Prop}{xs:List ag}{v:Value}(h:fF w gX (.slice .sh xs) v):∃(A:Option Addr) (cap b off sz:Nat) (vs:Nat->Value),v = .slice A xs.length cap/\xs.length<=cap/\(xs≠[]->A=some ⟨b,off,none⟩) /\
  (∀x,x∈xs->x.cells.length=sz)/\(∀(i:Nat)(x:ag)(k:Nat)(c:ag),xs[i]?=some x->x.cells[k]?=some c->w.cell? ⟨b,off+(i*sz+k),none⟩=some (vs (i*sz+k))/\gX b (off+(i*sz+k))) /\
  (∀(i:Nat)(x:ag)(k:Nat)(c:ag),xs[i]?=some x->x.cells[k]?=some c->fF w gX c (vs (i*sz+k))):=by
 cases h with
 |slice _ A len cap b off sz vs hl hc ha hz hs hr=>subst hl; exact⟨A,cap,b,off,sz,vs,rfl,hc,ha,hz,hs,hr⟩
end
def qQ(P:Program)(o:Oper)(a:Act)(w:World)(v:Value)(w':World):Prop :=
 (execOp a.eval o).run P w = .ok (.value v) w'\/((execOp a.eval o).run P w = .ok .skip w'/\v=undef)
theorem a8{α β:Type}{x:Option α}{f:α->Option β}{y:β}(h:x.bind f=some y):∃a,x=some a/\f a=some y:=by
 cases x<;>grind
section
variable {P:Program} {C:eL} {o:Oper} {br:Env} {M:aK} {j:J} {w:World} {a:Act} {x:ag×aK}
def dx{t:TypeId}{d:TypeDesc}(h:P.underlying t=some d):(underlying t).run P w = .ok d w:=by simp[underlying,h]
def py{t:TypeId}{i:TypeInfo}(h:P.info? t=some i):(typeInfo t).run P w = .ok i w:=by simp[typeInfo,h]
theorem Dv{t:TypeId}{n:Nat}(h:qo P t=some n):∃i,P.info? t=some i/\i.size=n:=by
 obtain⟨i,h1,h2⟩:=a8 h
 grind
def ja{t:TypeId}{n:Nat}(h:qo P t=some n):(sizeOf t).run P w = .ok n w:=by
 obtain⟨i,h1,h2⟩:=Dv h;simp_all [sizeOf,py]
def kN{t:TypeId}{g:Bool}(h:BA P t=some g):(isAgg t).run P w = .ok g w:=by
 obtain⟨d,h1,h2⟩:=a8 h;injection h2 with h2
 subst h2;simp[isAgg,dx h1];cases d<;>rfl
def ly(b off n:Nat):(⟨b,off,none⟩:Addr).add n=⟨b,off+n,none⟩:=by
 simp[Addr.add]
def BQ(hr:Rel j M w)(he:cu j M w br a){y:Operand}{z:gM}(hop:o.op = .move y\/o.op = .assign y)(hz:dZ y=some z)(h:dW C br M (.mv z)=some x) :
  ∃v w',qQ P o a w v w'/\iG j M w x v w':=by
 cases h;exact⟨a.eval y,w,.inl (by rcases hop with hop|hop<;>simp[execOp,hop]),.still hr (cF he hz)⟩
theorem WV(hr:Rel j M w)(he:cu j M w br a){c p q:Operand}{c' p' q':gM}(hop:o.op = .pick c p q)(hc:dZ c=some c')(hp:dZ p=some p')(hq:dZ q=some q')
  (h:dW C br M (.pick c' p' q')=some x):∃v w',qQ P o a w v w'/\iG j M w x v w':=by
 simp[dW] at h;have h1:=cF he hc;split at h
 ·rename_i t ht;rw[ht] at h1;have h1:=h1.iY;rcases kM h with ⟨rfl,h⟩|⟨rfl,h⟩<;>(cases h)
  ·exact⟨a.eval p,w,.inl (by simp_all [execOp,asBool]),.still hr (cF he hp)⟩
  ·exact⟨a.eval q,w,.inl (by simp_all [execOp,asBool]),.still hr (cF he hq)⟩
 grind
theorem ac3(hr:Rel j M w)(he:cu j M w br a){y:Operand}{z:gM}(hop:o.op = .nilCheck y)(hz:dZ y=some z)(h:dW C br M (.chk z)=some x) :
  ∃v w',qQ P o a w v w'/\iG j M w x v w':=by
 simp[dW] at h;have h1:=cF he hz;split at h
 ·rename_i id off e;cases h;rw[e] at h1;obtain⟨b,_,_,_,hv⟩:=h1.pG;exact⟨_,w,.inl (by simp_all [execOp]),.still hr (hv▸h1)⟩
 ·rename_i cs e;cases h;rw[e] at h1;obtain⟨b,off,vs,hv,_⟩:=h1.tW;exact⟨_,w,.inl (by simp_all [execOp]),.still hr (hv▸h1)⟩
 ·rename_i f caps e;cases h;rw[e] at h1;obtain⟨vs,hv,_⟩:=h1.si;exact⟨_,w,.inl (by simp_all [execOp]),.still hr (hv▸h1)⟩
 ·rename_i id v0 i off e;cases h;rw[e] at h1;obtain⟨⟨b,q,hv⟩,_⟩:=h1.sg;exact⟨_,w,.inl (by simp_all [execOp]),.still hr (hv▸h1)⟩
 grind
theorem ac5(hr:Rel j M w)(he:cu j M w br a){y:Operand}{z:gM}{t:TypeId}(hop:o.op = .unOp .not t y)(hz:dZ y=some z)(h:dW C br M (.not z)=some x) :
  ∃v w',qQ P o a w v w'/\iG j M w x v w':=by
 simp[dW] at h;have h1:=cF he hz;split at h
 ·rename_i b e;cases h;rw[e] at h1;exact⟨_,w,.inl (by simp[execOp,hop,h1.iY]; rfl),.still hr (.plain (.bool _))⟩
 grind
theorem ac4(hr:Rel j M w)(he:cu j M w br a){y:Operand}{z:gM}{t:TypeId}(hop:o.op = .unOp .neg t y)(hz:dZ y=some z)(h:dW C br M (.neg z)=some x) :
  ∃v w',qQ P o a w v w'/\iG j M w x v w':=by
 simp only[dW] at h;have h1:=cF he hz;split at h
 ·rename_i k n e;cases h;rw[e] at h1;exact⟨_,w,.inl (by simp only[execOp,hop,h1.fM]; rfl),.still hr (.plain (.int _ _))⟩
 grind
theorem WO(hr:Rel j M w)(he:cu j M w br a){y:Operand}{z:gM}{s d:TypeId}{k0 k:IntKind}(hop:o.op = .convert s d y)(hs:P.underlying s=some (.int k0))(hd:P.underlying d=some (.int k))
  (hz:dZ y=some z) (h:dW C br M (.conv k z)=some x):∃v w',qQ P o a w v w'/\iG j M w x v w':=by
 simp[dW] at h;have h1:=cF he hz;split at h
 ·rename_i k1 n e;cases h;rw[e] at h1;refine⟨.int k _,w,.inl ?_,.still hr (.plain (.int _ _))⟩;simp[execOp,hop,convert,dx hs,dx hd,h1.fM,Conv.intToInt]
 grind
theorem WX(hr:Rel j M w)(he:cu j M w br a){y:Operand}{z:gM}{s d:TypeId}(hop:o.op = .convert s d y)(hs:P.underlying s=some .string)(hd:P.underlying d=some .string)
  (hz:dZ y=some z) (h:dW C br M (.same z)=some x):∃v w',qQ P o a w v w'/\iG j M w x v w':=by
 simp[dW] at h;have h1:=cF he hz;split at h
 ·rename_i l e;cases h;rw[e] at h1;refine⟨.string _,w,.inl ?_,.still hr (.plain (.str _))⟩;simp[execOp,hop,convert,dx hs,dx hd,h1.jU]
 grind
theorem ahP(hr:Rel j M w)(he:cu j M w br a){f:Nat}{first caps:Array Operand}{zs:List gM}(hop:o.op = .makeFunc (.func f) first caps)(hf:first.isEmpty=true)(hz:uH caps.toList=some zs)
  (h:dW C br M (.fn f zs)=some x):∃v w',qQ P o a w v w'/\iG j M w x v w':=by
 cases h;obtain⟨h1,h2⟩:=tU he hz;have hf':first = #[]:=by grind
 refine⟨.func _ _ (caps.map a.eval),w,.inl ?_,.still hr (.func (by grind) fun i c v hc hv=>?_)⟩
 ·simp[execOp,hop,Instr.makeFunc,hf']
 grind
theorem KH(hr:Rel j M w)(he:cu j M w br a){y:Operand}{z:gM}{i:Nat}(hop:o.op = .extract y i)(hz:dZ y=some z)(h:dW C br M (.extract z i)=some x) :
  ∃v w',qQ P o a w v w'/\iG j M w x v w':=by
 simp[dW] at h;have h1:=cF he hz;split at h
 ·rename_i vs e;obtain⟨c,hc,h⟩:=bn h;cases h;rw[e] at h1;obtain⟨us,hv,hl,hu⟩:=h1.tq;rw[eJ] at hc;have hi:=aF hc;have hui:us[i]?=some _:=ba (by omega)
  exact⟨_,w,.inl (by simp[execOp,hop,Instr.extract,hv,hui]),.still hr (hu i c _ hc hui)⟩
 grind
theorem WR(hr:Rel j M w)(he:cu j M w br a){c:Call}{y:Operand}{z:gM}{t:TypeId}(hop:o.op = .call c)(hb:c.callee = .builtin .len)(ha:c.args.toList=[y])
  (ht:c.argTypes[0]?=some t) (hs:P.underlying t=some .string) (hz:dZ y=some z) (h:dW C br M (.SD z)=some x):∃v w',qQ P o a w v w'/\iG j M w x v w':=by
 simp only[dW] at h;have h1:=cF he hz;split at h
 ·rename_i l e;cases h;rw[e] at h1;have ha':c.args = #[y]:=by rw[<-ha]
  refine⟨.int .i64 _,w,.inl ?_,.still hr (.plain (.int _ _))⟩;have hsz:(bs l).size=l.length:=by rfl
  simp[execOp,hop,resolve,hb,invoke,builtin,Builtin.len_,ha',ht,dx hs,h1.jU,goInt,hsz]
 grind
theorem WS(hr:Rel j M w)(he:cu j M w br a){c:Call}{y:Operand}{z:gM}{t e:TypeId}(hop:o.op = .call c)(hb:c.callee = .builtin .len)(ha:c.args.toList=[y])
  (ht:c.argTypes[0]?=some t) (hs:P.underlying t=some (.slice e)) (hz:dZ y=some z) (h:dW C br M (.Al z)=some x):∃v w',qQ P o a w v w'/\iG j M w x v w':=by
 simp only[dW] at h;have h1:=cF he hz;split at h
 ·rename_i tk l e;cases h;rw[e] at h1;have ha':c.args = #[y]:=by rw[<-ha]
  obtain⟨A,cap,b,off,sz,vs,hv,_⟩:=h1.dD.dD;refine⟨.int .i64 l.length,w,.inl ?_,.still hr (.plain (.int _ _))⟩;simp[execOp,hop,resolve,hb,invoke,builtin,Builtin.len_,ha',ht,dx hs,hv,goInt]
 ·rename_i id v0 sz lo hi e;cases h;rw[e] at h1;have ha':c.args = #[y]:=by rw[<-ha]
  obtain⟨A,cap,hv⟩:=h1.yR;refine⟨.int .i64 (hi-lo:Nat),w,.inl ?_,.still hr (.plain (.int _ _))⟩;simp[execOp,hop,resolve,hb,invoke,builtin,Builtin.len_,ha',ht,dx hs,hv,goInt]
 grind
theorem EP(hr:Rel j M w)(he:cu j M w br a){c:Call}{y y':Operand}{z z':gM}{mx:Bool}(hop:o.op = .call c)(hb:c.callee = .builtin (if mx then .max else .min))(ha:c.args.toList=[y,y'])
  (hz:dZ y=some z) (hz':dZ y'=some z') (h:dW C br M (.Au mx z z')=some x):∃v w',qQ P o a w v w'/\iG j M w x v w':=by
 simp only[dW] at h;have h1:=cF he hz;have h2:=cF he hz';split at h
 ·rename_i k n k' n' e e';cases h;rw[e] at h1;rw[e'] at h2;have ha':c.args = #[y,y']:=by rw[<-ha]
  refine⟨_,w,.inl ?_,.still hr (.plain (.int _ _))⟩;cases mx
  ·simp[execOp,hop,resolve,hb,invoke,builtin,Builtin.min_,Builtin.min2,ha',h1.fM,h2.fM,List.foldlM]
  ·simp[execOp,hop,resolve,hb,invoke,builtin,Builtin.max_,Builtin.max2,ha',h1.fM,h2.fM]
 grind
theorem Ob(hr:Rel j M w)(he:cu j M w br a){y i:Operand}{z z':gM}{t:TypeId}(hop:o.op = .index t y i)(ht:P.underlying t=some .string)(hz:dZ y=some z)(hz':dZ i=some z')
  (h:dW C br M (.Ah z z')=some x):∃v w',qQ P o a w v w'/\iG j M w x v w':=by
 simp only[dW] at h;have h1:=cF he hz;have h2:=cF he hz';split at h
 ·rename_i l k n e e';obtain⟨hn,h⟩:=db h;obtain⟨b,hb,h⟩:=bn h;cases h;rw[e] at h1;rw[e'] at h2;refine⟨.int .u8 b.toNat,w,.inl ?_,.still hr (.plain (.int _ _))⟩
  have hg:(bs l)[n.toNat]?=some b:=by
   have cr:=aF hb;have:n.toNat<(bs l).size:=by simp_all [bs,ByteArray.size]
   rw[getElem?_pos (bs l) n.toNat this];congr 1
   have h3:l[n.toNat]=b:=by
    have:=aj cr
    grind
   exact h3
  simp[execOp,hop,Instr.index,asIntOf,dx ht,h1.jU,h2.fM,hn,hg]
 ·cases h
theorem N8(hr:Rel j M w)(he:cu j M w br a){y:Operand}{z:gM}{s:TypeId}{fs:Array Field}{f:Field}{i:Nat}(hop:o.op = .field s y i)(hs:P.underlying s=some (.struct fs))(hf:fs[i]?=some f)
  (hg:BA P f.type=some false) (hz:dZ y=some z) (h:dW C br M (.Cz f.offset z)=some x):∃v w',qQ P o a w v w'/\iG j M w x v w':=by
 simp[dW] at h;have h1:=cF he hz;split at h
 ·rename_i cs e;obtain⟨c,hc,h⟩:=bn h;cases h;rw[e] at h1;obtain⟨us,hv,hl,hu⟩:=h1.lY;rw[eJ] at hc;have hi:=aF hc;have hui:us[f.offset]?=some _:=ba (by omega)
  refine⟨_,w,.inl ?_,.still hr (hu _ c _ hc hui)⟩;simp[execOp,hop,Instr.field,dx hs,hf,asAgg,hv,part,kN hg,hui]
 grind
theorem N9(hr:Rel j M w)(he:cu j M w br a){y:Operand}{z:gM}{s:TypeId}{fs:Array Field}{f:Field}{i n:Nat}(hop:o.op = .field s y i)(hs:P.underlying s=some (.struct fs))(hf:fs[i]?=some f)
  (hg:BA P f.type=some true) (hn:qo P f.type=some n) (hz:dZ y=some z) (h:dW C br M (.CA f.offset n z)=some x):∃v w',qQ P o a w v w'/\iG j M w x v w':=by
 simp only[dW] at h;have h1:=cF he hz;split at h
 ·rename_i cs e;split at h
  ·cases h;rw[e] at h1;obtain⟨us,hv,hl,hu⟩:=h1.lY;refine⟨.agg (us.extract f.offset (f.offset+n)),w,.inl ?_,.still hr (.agg (by grind) fun p c u hc hu'=>?_)⟩
   ·simp[execOp,hop,Instr.field,dx hs,hf,asAgg,hv,part,kN hg,ja hn]
   grind
  ·cases h
 ·cases h
theorem Tl(hr:Rel j M w)(he:cu j M w br a){y:Operand}{z:gM}{s:TypeId}{fs:Array Field}{f:Field}{i:Nat}(hop:o.op = .fieldAddr s y i)(hs:P.underlying s=some (.struct fs))(hf:fs[i]?=some f)
  {n:Nat} (hn:qo P f.type=some n) (hpos:0<n) (hz:dZ y=some z) (h:dW C br M (.kC f.offset z)=some x):∃v w',qQ P o a w v w'/\iG j M w x v w':=by
 simp only[dW] at h;have h1:=cF he hz
 have hrun:∀b off,a.eval y = .pointer (some ⟨b,off,none⟩)->(execOp a.eval o).run P w = .ok (.value (.pointer (some ⟨b,off+f.offset,none⟩))) w:=by
  intro b off hv;have hne:n≠0:=by omega
  simp[execOp,hop,Instr.fieldAt,dx hs,hf,Instr.sureAddr,hv,fieldPlace,ja hn,hne,ly]
 split at h
 ·rename_i id off e;cases h;rw[e] at h1;obtain⟨b,h2,h3,h4,hv⟩:=h1.pG;exact⟨_,w,.inl (hrun _ _ hv),.still hr (.ptr h2 h3 h4)⟩
 ·rename_i cs e;cases h;rw[e] at h1;obtain⟨b,off,vs,hv,hc⟩:=h1.tW;refine⟨_,w,.inl (hrun _ _ hv),.still hr (.jd (vs:=fun k=>vs (f.offset+k)) fun k c hk=>?_)⟩
  rw[cG] at hk;have:=hc _ c hk;rw[Nat.add_assoc];omega
 ·rename_i id v0 i0 o0 e;cases h;rw[e] at h1;obtain⟨⟨b,q,hv⟩,h2,h3,h4⟩:=h1.sg;refine⟨_,w,.inl (hrun _ _ hv),.still hr (.im ⟨_,_,rfl⟩ h2 h3 fun sz v' xs hM=>?_)⟩
  grind
 grind
end
theorem UZ(l:List UInt8):∀(n i:Nat)(acc:List UInt8),i+n=l.length->ByteArray.toList.loop (bs l) i acc=acc.reverse++l.drop i:=by
 intro n;induction n with
 |zero =>
  simp_all [bs,ByteArray.size,ByteArray.toList.loop]
 |succ n ih =>
  intro i acc h;have hs:(bs l).size=l.length:=by rfl
  rw[ByteArray.toList.loop,az (by omega)]
  grind [bs,ByteArray.get!,List.reverse_cons,List.append_assoc,List.singleton_append,List.drop_eq_getElem_cons]
def uG(l:List UInt8):(bs l).toList=l:=by
 rw[ByteArray.toList,UZ l l.length 0 _ (by simp)]; rfl
def Ll(l:List UInt8):(bs l).size=l.length:=by rfl
def IY:∀a b:List UInt8,Op.bytesLess a b=strLt a b
 | [],[]=>rfl
 | [],_::_=>rfl
 |_::_,[]=>rfl
 |a::x,b::y=>by simp[Op.bytesLess,strLt,IY x y]
def yf(a:List UInt8)(l h:Nat):(bs a).extract l h=bs ((a.take h).drop l):=by
 apply ByteArray.ext;simp[bs,List.drop_take]
section
variable {P:Program} {C:eL} {o:Oper} {br:Env} {M:aK} {j:J} {w:World} {a:Act} {x:ag×aK}
def Nz(op:BinOp)(t:TypeId)(y z:Operand)(k k':IntKind)(m n:Int):(eqGuard op t y z (.int k m) (.int k' n)).run P w = .ok () w:=by
 simp[eqGuard]
def NA(op:BinOp)(t:TypeId)(y z:Operand)(m n:ByteArray):(eqGuard op t y z (.string m) (.string n)).run P w = .ok () w:=by
 simp[eqGuard]
def CM(op:BinOp)(t:TypeId)(y z:Operand)(m n:Bool):(eqGuard op t y z (.bool m) (.bool n)).run P w = .ok () w:=by
 simp[eqGuard]
theorem UX{op:BinOp}{b:MG}(hb:MX op=some b){t:TypeId}{k k':IntKind}{m n:Int}{r:ag}(h:p9 b (.int k m) (.int k' n)=some r) :
  ∃v,(binOp op t (.int k m) (.int k' n)).run P w = .ok v w/\fF w (nR j M w) r v:=by
 cases op<;>simp only[MX,reduceCtorEq,iz] at hb<;>subst hb<;>simp only[p9] at h
 case shl =>
  split at h
  ·rename_i hn;cases h;exact⟨_,by simp[binOp,Op.shift,mH.2 hn],.int _ _⟩
  ·cases h
 case shr =>
  split at h
  ·rename_i hn;cases h;exact⟨_,by simp[binOp,Op.shift,mH.2 hn],.int _ _⟩
  grind
 case quo =>
  split at h
  ·cases h
  ·rename_i hk;split at h
   ·cases h
   ·rename_i hn;cases h;have hk:k=k':=by grind
    subst hk;exact⟨_,by simp[binOp,Op.intDiv,hn],.int _ _⟩
 case rem =>
  split at h
  ·cases h
  ·rename_i hk;split at h
   ·cases h
   ·rename_i hn;cases h;have hk:k=k':=by grind
    subst hk;exact⟨_,by simp[binOp,Op.intDiv,hn],.int _ _⟩
 case and =>
  split at h
  ·cases h
  ·rename_i hk;cases h;have hk:k=k':=by grind
   subst hk;exact⟨_,by simp[binOp,Op.intBits]; rfl,.int _ _⟩
 case or =>
  split at h
  ·grind
  ·rename_i hk;cases h;have hk:k=k':=by grind
   subst hk;exact⟨_,by simp[binOp,Op.intBits]; rfl,.int _ _⟩
 case xor =>
  split at h
  ·grind
  ·rename_i hk;cases h;have hk:k=k':=by grind
   subst hk;exact⟨_,by simp[binOp,Op.intBits]; rfl,.int _ _⟩
 all_goals
  split at h
  ·cases h
  ·rename_i hk;cases h;have hk:k=k':=by simpa using hk
   subst hk
   first
    |exact⟨_,by simp[binOp,Op.intArith],.int _ _⟩
    |exact⟨_,by simp[binOp,Op.intCmp],.bool _⟩
theorem UY{op:BinOp}{b:MG}(hb:MX op=some b){t:TypeId}{m n:List UInt8}{r:ag}(h:p9 b (.str m) (.str n)=some r) :
  ∃v,(binOp op t (.string (bs m)) (.string (bs n))).run P w = .ok v w/\fF w (nR j M w) r v:=by
 cases op<;>simp only[MX,reduceCtorEq,iz] at hb<;>subst hb<;>simp only[p9,reduceCtorEq] at h
 case add =>
  split at h
  ·grind
  ·cases h;refine⟨.string (bs m++bs n),?_,by exact .str _⟩
   simp_all [binOp,Op.stringOp,Ll,ak]
 all_goals
  cases h;exact⟨_,by simp only[binOp,Op.stringOp,uG,IY]; rfl,.bool _⟩
def Td(hr:Rel j M w)(he:cu j M w br a){op:BinOp}{b:MG}{y y':Operand}{z z':gM}{t t':TypeId}(hop:o.op = .binOp op t y y' t')(hb:MX op=some b)(hz:dZ y=some z)(hz':dZ y'=some z')
  (h:dW C br M (.bin b z z')=some x):∃v w',qQ P o a w v w'/\iG j M w x v w':=by
 simp only[dW] at h;have h1:=cF he hz;have h2:=cF he hz';obtain⟨r,hr',h⟩:=bn h;cases h;generalize hu:z.ev br=u at *;generalize hu':z'.ev br=u' at *;cases u<;>cases u'<;>try (simp[p9] at hr'; done)
 ·rename_i k m k' n;obtain⟨v,hv,hp⟩:=UX (P:=P) (w:=w) (j:=j) (M:=M) (t:=t) hb hr';exact⟨v,w,.inl (by simp[execOp,hop,h1.fM,h2.fM,Nz,hv]),.still hr (.plain hp)⟩
 ·rename_i m n;obtain⟨v,hv,hp⟩:=UY (P:=P) (w:=w) (j:=j) (M:=M) (t:=t) hb hr';exact⟨v,w,.inl (by simp[execOp,hop,h1.jU,h2.jU,NA,hv]),.still hr (.plain hp)⟩
theorem Tj(hr:Rel j M w)(he:cu j M w br a){neg:Bool}{y y':Operand}{z z':gM}{t t':TypeId}(hop:o.op = .binOp (if neg then .neq else .eql) t y y' t')(ht:P.underlying t=some .bool)
  (hz:dZ y=some z) (hz':dZ y'=some z') (h:dW C br M (.eqB neg z z')=some x):∃v w',qQ P o a w v w'/\iG j M w x v w':=by
 simp only[dW] at h;have h1:=cF he hz;have h2:=cF he hz';split at h
 ·rename_i m n e e';cases h;rw[e] at h1;rw[e'] at h2
  have heq:(Op.equal t (.bool m) (.bool n)).run P w = .ok (m==n) w:=by
   unfold Op.equal;rw[show Op.maxDepth=9999+1 from rfl,Op.equalIn]
   simp[dx ht]
  cases neg
  ·exact⟨.bool (m==n),w,.inl (by simp[execOp,hop,h1.iY,h2.iY,CM,binOp,heq]),.still hr (.plain (.bool _))⟩
  ·exact⟨.bool (!(m==n)),w,.inl (by simp[execOp,hop,h1.iY,h2.iY,CM,binOp,heq]),.still hr (.plain (.bool _))⟩
 grind
theorem qv{br:Env}{a:Act}(he:cu j M w br a){y:Operand}{z:gM}(hz:dZ y=some z){n:Nat}{i:Int}(h:jc br n (some z)=some i){m:Nat}(h0:0<=i)(h1:i<=m)(code:BoundsCode) :
  (Instr.sliceBound (a.eval y) m code).run P w = .ok i.toNat w:=by
 unfold jc at h;have h2:=cF he hz;simp at h;split at h
 ·rename_i k i' e;cases h;rw[e] at h2;simp[Instr.sliceBound,h2.fM,asIntOf,h0,h1]
 grind
theorem qS{y:Option Operand}{z:Option gM}(h:BB y=some z):(y=none/\z=none)\/∃y' z',y=some y'/\z=some z'/\dZ y'=some z':=by
 cases y with
 |none=>grind [BB]
 |some y =>
  obtain⟨z',h1,h2⟩:=a8 h
  grind
def ye{br:Env}{a:Act}(he:cu j M w br a){lo hi:Option Operand}{lo' hi':Option gM}(hlo:BB lo=some lo')(hhi:BB hi=some hi'){len cap:Nat}{l h:Int}
  (h1:jc br len hi'=some h) (h2:jc br 0 lo'=some l) (hh0:0<=h) (hh:h<=len) (hl0:0<=l) (hl:l<=h) (hc:len<=cap) (isS:Bool) :
  (Instr.sliceBounds isS len cap (lo.map a.eval) (hi.map a.eval) none).run P w = .ok (l.toNat,h.toNat,cap) w:=by
 unfold Instr.sliceBounds;rcases qS hhi with ⟨rfl,rfl⟩|⟨y,z,rfl,rfl,hz⟩<;>rcases qS hlo with ⟨rfl,rfl⟩|⟨y',z',rfl,rfl,hz'⟩
 ·simp[jc] at h1 h2; subst h1; subst h2; rfl
 ·simp[jc] at h1; subst h1;have:=qv (P:=P) he hz' h2 hl0 (by omega) .sliceB
  simp_all
 ·simp[jc] at h2; subst h2;have:=qv (P:=P) he hz h1 hh0 (m:=cap) (by omega) (if isS then .sliceAcap else .sliceAlen)
  simp_all
 ·have t1:=qv (P:=P) he hz h1 hh0 (m:=cap) (by omega) (if isS then .sliceAcap else .sliceAlen)
  have t2:=qv (P:=P) he hz' h2 hl0 (m:=h.toNat) (by omega) .sliceB
  simp_all
theorem Oc(hr:Rel j M w)(he:cu j M w br a){y:Operand}{lo hi:Option Operand}{z:gM}{lo' hi':Option gM}{t:TypeId}(hop:o.op = .slice t y lo hi none)(ht:P.underlying t=some .string)
  (hz:dZ y=some z) (hlo:BB lo=some lo') (hhi:BB hi=some hi') (h:dW C br M (.AI z lo' hi')=some x):∃v w',qQ P o a w v w'/\iG j M w x v w':=by
 simp[dW] at h;have h1:=cF he hz;split at h
 ·rename_i s e;obtain⟨hh,h2,h⟩:=bn h;obtain⟨l,h3,h⟩:=bn h;obtain⟨⟨c1,c2,c3,c4⟩,h⟩:=db h;cases h;rw[e] at h1;have hb:=ye (P:=P) he hlo hhi h2 h3 c1 c2 c3 c4 (ar _) false;refine⟨.string _,w,.inl ?_,.still hr (.plain (.str _))⟩;simp[execOp,hop,Instr.sliceAt,dx ht,Instr.slice,h1.jU,Ll,hb,yf]
 grind
theorem fF.part{gX:Nat->Nat->Prop}{xs:List ag}{A:Option Addr}{cap m l h n:Nat}(hx:fF w gX (.slice .sh xs) (.slice A xs.length cap))(hw:wid xs n)(hl:l<=h)(hh:h<=xs.length)(hm:h<=m) :
  fF w gX (.slice .sh ((xs.take h).drop l)) (.slice (if m=l then A else A.map (·.add (l*n))) (h-l) (m-l)):=by
 obtain⟨A',cap',b,off,sz,vs,hv,hc,ha,hz,hs,hrp⟩:=hx.dD;injection hv with e1 e2 e3
 subst e1; subst e3;have eU:((xs.take h).drop l).length=h-l:=by simp_all
 refine .slice _ _ _ _ b (off+l*sz) sz (fun p=>vs (l*sz+p)) eU.symm (by omega) (fun hne=>?_) (fun x hx=>hz x (di (dv hx))) (fun i x k c hi hk=>?_) (fun i x k c hi hk=>?_)
 ·have:0<h-l:=by
   rw[<-eU]; exact iI.2 hne
  rw[ak (by omega)]
  have hne':xs≠[]:=by grind
  rw[ha hne']
  have:n=sz:=by
   obtain⟨x,r,rfl⟩:=fm hne';rw[<-hw x (by simp),hz x (by simp)]
  simp[ly,this]
 ·grind
 grind
theorem Od(hr:Rel j M w)(he:cu j M w br a){y:Operand}{lo hi mx:Option Operand}{z:gM}{lo' hi' mx':Option gM}{t e:TypeId}{n:Nat}(hop:o.op = .slice t y lo hi mx)(ht:P.underlying t=some (.slice e))
  (hn:qo P e=some n) (hz:dZ y=some z) (hlo:BB lo=some lo') (hhi:BB hi=some hi') (hmx:BB mx=some mx') (hmh:mx'.isNone=true\/hi'.isSome=true)
  (h:dW C br M (.AJ n z lo' hi' mx')=some x):∃v w',qQ P o a w v w'/\iG j M w x v w':=by
 simp only[dW] at h;have h1:=cF he hz;split at h
 ·rename_i tk xs ez;obtain⟨hw,h⟩:=db h;obtain⟨hh,h2,h⟩:=bn h;obtain⟨l,h3,h⟩:=bn h;rw[ez] at h1;have hp:=h1.dD;obtain⟨A,cap,b,off,sz,vs,hv,hc,_⟩:=hp.dD;rw[hv] at hp;rcases qS hmx with ⟨rfl,rfl⟩|⟨my,mz,rfl,rfl,hmz⟩
  ·simp only at h;obtain⟨⟨c1,c2,c3,c4⟩,h⟩:=db h;cases h;have hb:=ye (P:=P) he hlo hhi (cap:=cap) h2 h3 c1 c2 c3 c4 hc true;refine⟨_,w,.inl ?_,.still hr (.plain (hp.part (m:=cap) (l:=l.toNat) (h:=hh.toNat) hw (by omega) (by omega) (by omega)))⟩
   simp[execOp,hop,Instr.sliceAt,dx ht,Instr.slice,hv,hb,ja hn]
  ·simp only at h;split at h
   ·rename_i mk m em;obtain⟨⟨c0,c0',c1,c2,c3,c4⟩,h⟩:=db h;have hm:=cF he hmz;rw[em] at hm
    have hmr:(Instr.sliceBound (a.eval my) cap .slice3Acap).run P w = .ok m.toNat w:=by
     simp[Instr.sliceBound,hm.fM,asIntOf,c0,show m<=cap by omega]
    have hbs:(Instr.sliceBounds true xs.length cap (lo.map a.eval) (hi.map a.eval) (some (a.eval my))).run P w = .ok (l.toNat,hh.toNat,m.toNat) w:=by
     unfold Instr.sliceBounds;rcases qS hhi with ⟨rfl,rfl⟩|⟨hy,hz',rfl,rfl,hhz⟩
     ·simp at hmh
     ·have t1:=qv (P:=P) he hhz h2 c1 (m:=m.toNat) (by omega) .slice3B
      rcases qS hlo with ⟨rfl,rfl⟩|⟨y',z',rfl,rfl,hz'⟩
      ·simp[jc] at h3; subst h3;simp[hmr,t1]
      ·have t2:=qv (P:=P) he hz' h3 c3 (m:=hh.toNat) (by omega) .slice3C
       simp[hmr,t1,t2]
    have hrun:(execOp a.eval o).run P w = .ok (.value (.slice (if m.toNat=l.toNat then A else A.map (·.add (l.toNat*n))) (hh.toNat-l.toNat) (m.toNat-l.toNat))) w:=by
     simp[execOp,hop,Instr.sliceAt,dx ht,Instr.slice,hv,hbs,ja hn]
    rcases kM h with ⟨hm0,h⟩|⟨hm0,h⟩<;>(cases h)
    ·have hm0:m=0:=by simpa using hm0
     subst hm0;have e1:hh=0:=by omega
     have e2:l=0:=by omega
     subst e1; subst e2;exact⟨_,w,.inl hrun,.still hr (.c0 _)⟩
    ·exact⟨_,w,.inl hrun,.still hr (.plain (hp.part (m:=m.toNat) hw (by omega) (by omega) (by omega)))⟩
   ·cases h
 ·rename_i id v0 sz' al ah ez;obtain⟨hsz,h⟩:=db h;subst hsz;obtain⟨hh,h2,h⟩:=bn h;obtain⟨l,h3,h⟩:=bn h;rw[ez] at h1;obtain⟨hs0,g1,g2,g3⟩:=h1.nw
  obtain⟨A,cap,hv,hc,hA⟩:∃A cap,a.eval y = .slice A (ah-al) cap/\ah-al<=cap/\(0<ah-al->∃b off,A=some ⟨b,off,none⟩):=by
   grind
  have key:∀m:Nat,m<=cap->0<=l->l<hh->hh<=m->hh<=(ah-al:Nat)->fV j M w (.dg id v0 sz' (al+l.toNat) (al+hh.toNat)) (.slice (A.map (·.add (l.toNat*sz'))) (hh.toNat-l.toNat) (m-l.toNat)):=by
   intro m hmc hl0 hlh hhm hha;obtain⟨b,off,rfl⟩:=hA (by omega)
   simp only[cz,ly];have e0:al+hh.toNat-(al+l.toNat)=hh.toNat-l.toNat:=by omega
   have e6:hh.toNat-l.toNat<=m-l.toNat:=by clear g3 g2 h1 hv; omega
   have e7:al+l.toNat+(m-l.toNat)<=al+cap:=by omega
   have e8:al+l.toNat<=al+hh.toNat:=by omega
   have e9:al+hh.toNat<=ah:=by clear g3 g2 h1 hv; omega
   refine .dg (.inl ⟨b,off+l.toNat*sz',m-l.toNat,by rw[e0],by rw[e0]; exact e6⟩) g1 g2 fun sz v' xs hM=>?_
   obtain⟨k1,k2⟩:=g3 sz v' xs hM;refine⟨k1,fun hev=>?_⟩
   obtain⟨l0,l1,l2,⟨rfl,_⟩|⟨b',cap',vs,t',l3,l4,l5,l6,l7⟩⟩:=k2 hev
   ·simp at l2; omega
   rw[hv] at l4;injection l4 with l4 l4' l4''
   injection l4 with l4; injection l4 with e1 e2 e3
   subst e1; subst e2; subst l4'';exact⟨l0,e8,bh e9 l2,.inr ⟨b,m-l.toNat,vs,t',l3,by rw[e0,bO],by rw[e0]; exact e6,l6,bh (bd _ e7) l7⟩⟩
  rcases qS hmx with ⟨rfl,rfl⟩|⟨my,mz,rfl,rfl,hmz⟩
  ·simp only at h;obtain⟨⟨c1,c2,c3,c4⟩,h⟩:=db h;have hb:=ye (P:=P) he hlo hhi (cap:=cap) h2 h3 c1 c2 c3 c4 hc true
   have hrun:(execOp a.eval o).run P w = .ok (.value (.slice (if cap=l.toNat then A else A.map (·.add (l.toNat*sz'))) (hh.toNat-l.toNat) (cap-l.toNat))) w:=by
    simp[execOp,hop,Instr.sliceAt,dx ht,Instr.slice,hv,hb,ja hn]
   rcases kM h with ⟨hm0,h⟩|⟨hm0,h⟩<;>(cases h)
   ·have:l=hh:=by simpa using hm0
    subst this;refine⟨_,w,.inl hrun,.still hr (.plain ?_)⟩;rw[Nat.sub_self];exact fF.nil _ _ _
   ·have:l≠hh:=by simpa using hm0
    rw[ak (by omega)] at hrun
    exact⟨_,w,.inl hrun,.still hr (key cap (ar _) c3 (by omega) (by omega) c2)⟩
  ·simp only at h;split at h
   ·rename_i mk m em;obtain⟨⟨c0,c0',c1,c2,c3,c4⟩,h⟩:=db h;have hm:=cF he hmz;rw[em] at hm
    have hmr:(Instr.sliceBound (a.eval my) cap .slice3Acap).run P w = .ok m.toNat w:=by
     simp[Instr.sliceBound,hm.fM,asIntOf,c0,show m<=cap by omega]
    have hbs:(Instr.sliceBounds true (ah-al) cap (lo.map a.eval) (hi.map a.eval) (some (a.eval my))).run P w = .ok (l.toNat,hh.toNat,m.toNat) w:=by
     unfold Instr.sliceBounds;rcases qS hhi with ⟨rfl,rfl⟩|⟨hy,hz',rfl,rfl,hhz⟩
     ·simp at hmh
     ·have t1:=qv (P:=P) he hhz h2 c1 (m:=m.toNat) (by omega) .slice3B
      rcases qS hlo with ⟨rfl,rfl⟩|⟨y',z',rfl,rfl,hz'⟩
      ·simp[jc] at h3; subst h3;simp[hmr,t1]
      ·have t2:=qv (P:=P) he hz' h3 c3 (m:=hh.toNat) (by omega) .slice3C
       simp[hmr,t1,t2]
    have hrun:(execOp a.eval o).run P w = .ok (.value (.slice (if m.toNat=l.toNat then A else A.map (·.add (l.toNat*sz'))) (hh.toNat-l.toNat) (m.toNat-l.toNat))) w:=by
     simp[execOp,hop,Instr.sliceAt,dx ht,Instr.slice,hv,hbs,ja hn]
    rcases kM h with ⟨hm0,h⟩|⟨hm0,h⟩
    ·cases h;have hm0:m=0:=by simpa using hm0
     subst hm0;have e1:hh=0:=by omega
     have e2:l=0:=by omega
     subst e1; subst e2;exact⟨_,w,.inl hrun,.still hr (.c0 _)⟩
    ·rcases kM h with ⟨hm1,h⟩|⟨hm1,h⟩<;>(cases h)
     ·have:l=hh:=by simpa using hm1
      subst this;refine⟨_,w,.inl hrun,.still hr (.plain ?_)⟩;rw[Nat.sub_self];exact fF.nil _ _ _
     ·have:l≠hh:=by simpa using hm1
      rw[ak (by omega)] at hrun
      exact⟨_,w,.inl hrun,.still hr (key m.toNat (by omega) c3 (by omega) (by omega) (by omega))⟩
   ·cases h
 ·cases h
theorem Tm(hr:Rel j M w)(he:cu j M w br a){y i:Operand}{z z':gM}{t e:TypeId}{n:Nat}(hop:o.op = .indexAddr t y i)(ht:P.underlying t=some (.slice e))(hn:qo P e=some n)
  (hz:dZ y=some z) (hz':dZ i=some z') (h:dW C br M (.vQ n z z')=some x):∃v w',qQ P o a w v w'/\iG j M w x v w':=by
 simp only[dW] at h;have h1:=cF he hz;have h2:=cF he hz';split at h
 ·rename_i tk xs k m ez ez';obtain⟨h0,h⟩:=db h;obtain⟨el,hel,h⟩:=bn h;split at h
  ·rename_i hwd;cases h;rw[ez] at h1;rw[ez'] at h2;obtain⟨A,cap,b,off,sz,vs,hv,hc,ha,hsz,hs,hrp⟩:=h1.dD.dD;have cr:=aF hel;have hne:xs≠[]:=by rintro rfl; simp at cr
   have hA:=ha hne;have hsz':sz=n:=by rw[<-hwd]; exact(hsz el (aQ hel)).symm
   subst hsz';subst hA;refine⟨.pointer (some ⟨b,off+m.toNat*sz,none⟩),w,.inl ?_,.still hr (.jd (vs:=fun q=>vs (m.toNat*sz+q)) fun q c hq=>?_)⟩
   ·have hm:m<xs.length:=by omega
    simp[execOp,hop,Instr.indexAt,dx ht,hv,h2.fM,asIntOf,h0,hm,ja hn,ly]
   grind
  ·cases h
 ·rename_i id v0 sz' lo hi k m ez ez';obtain⟨⟨h0,hm,hsz⟩,h⟩:=db h;cases h;subst hsz;rw[ez] at h1;rw[ez'] at h2;have hlt0:lo+m.toNat<hi:=by omega
  obtain⟨b,off,cap,hv,hcap⟩:=h1.US (by omega)
  obtain⟨_,g1,g2,g3⟩:=h1.nw;refine⟨.pointer (some ⟨b,off+m.toNat*sz',none⟩),w,.inl ?_,.still hr (.im ⟨_,_,rfl⟩ g1 g2 fun sz v' xs hM=>?_)⟩
  ·simp[execOp,hop,Instr.indexAt,dx ht,hv,h2.fM,asIntOf,h0,hm,ja hn,ly]
  ·obtain⟨k1,k2⟩:=g3 sz v' xs hM;refine⟨k1,fun he=>?_⟩
   obtain⟨rfl,l1,l2,⟨rfl,_⟩|⟨b',cap',vs,t',l3,l4,l5,l6,l7⟩⟩:=k2 he
   ·exact absurd (bp hlt0 l2) (by simp)
   rw[hv] at l4
   grind [Nat.lt_of_lt_of_le,Nat.add_mul]
 ·cases h
def Gd(b off:Nat)(u:Nat->Value):∀(n i:Nat)(acc:Array Value),(∀k,k<n->w.cell? ⟨b,off+(i+k),none⟩=some (u (i+k))) ->
  (loadCellsFrom ⟨b,off,none⟩ i n acc).run P w = .ok (acc++((List.range n).map fun k=>u (i+k)).toArray) w:=by
 intro n;induction n with
 |zero=>simp[loadCellsFrom]
 |succ n ih =>
  intro i acc h;have h0:=h 0 (by simp)
  simp_all [loadCellsFrom,ly,List.range_succ_eq_map,Function.comp_def,Nat.add_comm,Nat.add_left_comm]
theorem oE(b off n:Nat)(u:Nat->Value)(h:∀k,k<n->w.cell? ⟨b,off+k,none⟩=some (u k)) :
  (loadCells ⟨b,off,none⟩ n).run P w = .ok (((List.range n).map u).toArray) w:=by
 have:=Gd (P:=P) (w:=w) b off u n 0 #[] (by grind)
 grind [loadCells]
theorem wv{id b:Nat}{cs:List ag}(hr:Rel j M w)(hM:M[id]?=some (.cells cs))(hj:j id=some b):∃vs t,w.heap[b]?=some (.cells vs t (0,0))/\cs.length=vs.size /\
  (∀(q:Nat)(c:ag)(v:Value),cs[q]?=some c->vs[q]?=some v->fV j M w c v)/\∀q,w.cell? ⟨b,q,none⟩=vs[q]?:=by
 obtain⟨b',vs,t,h1,h2,h3,h4⟩:=hr.box _ _ hM
 grind [World.cell?]
theorem G4(hr:Rel j M w){id ver i off sz:Nat}{xs:List ag}{v:Value}{el:ag}(hM:M[id]?=some (.arr sz ver xs))(h:fV j M w (.im id ver i off) v)(hel:xs[i]?=some el) :
  ∃b,v = .pointer (some ⟨b,i*sz+off,none⟩)/\∀(k:Nat)(c:ag),el.cells[off+k]?=some c->∃u,w.cell? ⟨b,i*sz+off+k,none⟩=some u/\fF w (nR j M w) c u:=by
 obtain⟨_,_,_,g⟩:=h.sg;obtain⟨g1,b,g2,g3⟩:=(g _ _ _ hM).2 rfl;obtain⟨b',vs,t,k1,k2,k3,k4,k5⟩:=hr.yb hM g2
 grind [World.cell?]
theorem Tq(hr:Rel j M w)(he:cu j M w br a){y:Operand}{z:gM}{t:TypeId}(hop:o.op = .load t y)(hg:BA P t=some false)(hz:dZ y=some z)(h:dW C br M (.js z)=some x) :
  ∃v w',qQ P o a w v w'/\iG j M w x v w':=by
 simp only[dW] at h;have h1:=cF he hz;split at h
 ·rename_i id off e;rw[e] at h1;obtain⟨b,_,_,hj,hv⟩:=h1.pG;rw[eJ] at h;split at h
  ·rename_i cs hM;obtain⟨c,hc,h⟩:=bn h;cases h;rw[eJ] at hc;obtain⟨vs,t0,hw,hl,hcs,hcell⟩:=wv hr hM hj;have cr:=aF hc;have hu:vs[off]?=some (vs[off]'(by omega)):=ba (by omega)
   refine⟨_,w,.inl ?_,.still hr (hcs _ c _ hc hu)⟩;simp[execOp,hop,Instr.loadAt,Instr.sureAddr,hv,loadVar,kN hg,hcell,hu]
  grind
 ·rename_i cs e;rw[e] at h1;obtain⟨b,off,vs,hv,hc⟩:=h1.tW;obtain⟨c,hc0,h⟩:=bn h;cases h;rw[eJ] at hc0;obtain⟨h2,_,h3⟩:=hc 0 c hc0;refine⟨_,w,.inl ?_,.still hr (.plain h3)⟩;simp_all [execOp,Instr.loadAt,Instr.sureAddr,loadVar,kN]
 ·rename_i id ver i off e;rw[e] at h1;rw[eJ] at h;split at h
  ·rename_i sz v0 xs hM;split at h
   ·rename_i hv0;subst hv0;obtain⟨el,hel,h⟩:=bn h;obtain⟨c,hc,h⟩:=bn h;cases h;rw[eJ] at hc;obtain⟨b,hv,hcell⟩:=G4 hr hM h1 hel;obtain⟨u,l1,l2⟩:=hcell 0 c (by omega)
    refine⟨u,w,.inl ?_,.still hr (.plain l2)⟩;simp_all [execOp,Instr.loadAt,Instr.sureAddr,loadVar,kN]
   grind
  ·cases h
 grind
theorem Tr(hr:Rel j M w)(he:cu j M w br a){y:Operand}{z:gM}{t:TypeId}{n:Nat}(hop:o.op = .load t y)(hg:BA P t=some true)(hn:qo P t=some n)(hz:dZ y=some z)
  (h:dW C br M (.nz n z)=some x):∃v w',qQ P o a w v w'/\iG j M w x v w':=by
 simp only[dW] at h;have h1:=cF he hz;split at h
 ·rename_i id off e;rw[e] at h1;obtain⟨b,_,_,hj,hv⟩:=h1.pG;rw[eJ] at h;split at h
  ·rename_i cs hM;split at h
   ·rename_i hle;cases h;obtain⟨vs,t0,hw,hl,hcs,hcell⟩:=wv hr hM hj
    have hrun:=oE (P:=P) (w:=w) b off n (fun k=>(vs[off+k]?).getD undef) fun k hk=>by
     rw[hcell,ba (by omega)]; simp
    refine⟨_,w,.inl (by simp[execOp,hop,Instr.loadAt,Instr.sureAddr,hv,loadVar,kN hg,ja hn,hrun]; rfl),.still hr (.agg (by grind) fun p c u hc hu=>?_)⟩
    grind
   ·cases h
  ·cases h
 ·rename_i cs e;split at h
  ·rename_i hle;cases h;rw[e] at h1;obtain⟨b,off,vs,hv,hc⟩:=h1.tW;have hrun:=oE (P:=P) (w:=w) b off n vs fun k hk=>(hc k _ (aj (by omega))).1
   refine⟨_,w,.inl (by simp[execOp,hop,Instr.loadAt,Instr.sureAddr,hv,loadVar,kN hg,ja hn,hrun]; rfl),.still hr (.agg (by simp; omega) fun p c u hc' hu=>?_)⟩
   have hp:p<n:=by have:=aF hc'; simp_all
   rw[bE hp] at hc';have hu':u=vs p:=by simp_all
   subst hu';exact .plain (hc p c hc').2.2
  ·cases h
 ·rename_i id ver i off e;rw[e] at h1;rw[eJ] at h;split at h
  ·rename_i sz v0 xs hM;split at h
   ·rename_i hv0;subst hv0;obtain⟨el,hel,h⟩:=bn h;split at h
    ·rename_i hle;cases h;obtain⟨b,hv,hcell⟩:=G4 hr hM h1 hel
     have hrun:=oE (P:=P) (w:=w) b (i*sz+off) n (fun k=>(w.cell? ⟨b,i*sz+off+k,none⟩).getD undef) fun k hk=>by
      obtain⟨u,l1,_⟩:=hcell k _ (aj (by omega))
      rw[l1]; rfl
     refine⟨_,w,.inl (by simp[execOp,hop,Instr.loadAt,Instr.sureAddr,hv,loadVar,kN hg,ja hn,hrun]; rfl),.still hr (.agg (by simp; omega) fun p c u hc' hu=>?_)⟩
     have hp:p<n:=by have:=aF hc'; simp at this; omega
     rw[bE hp,cG] at hc';obtain⟨u',l1,l2⟩:=hcell p c hc';have hu':u=(w.cell? ⟨b,i*sz+off+p,none⟩).getD undef:=by simp_all
     rw[l1] at hu';subst hu';exact .plain l2
    ·cases h
   ·cases h
  ·cases h
 ·cases h
end
section
variable {P:Program} {C:eL} {o:Oper} {br:Env} {M:aK} {j:J} {w:World} {a:Act} {x:ag×aK}
def th{y:ag}{v:Value}{cs:List ag}(h:fV j M w y v)(hc:y.cells?=some cs):RC j M w cs v.cells:=by
 cases y<;>simp only[ag.cells?,iz,reduceCtorEq] at hc
 case agg cs' =>
  subst hc;obtain⟨vs,rfl,h1,h2⟩:=h.lY;exact⟨h1,h2⟩
 case raw u =>
  cases h with
  |plain h =>
   cases h with
   |raw _ h1 =>
    cases v<;>simp at hc<;>subst hc <;>
     exact⟨rfl,fun i c v hc hv=>by
      cases i with
      |zero=>simp[Value.cells] at hc hv; subst hc; subst hv; exact .plain (.raw _ h1)
      |succ i=>simp at hc⟩
 all_goals
  subst hc
  have hv:v.cells = #[v]:=by
   first
    |(have:=h.iY; subst this; rfl)
    |(have:=h.fM; subst this; rfl)
    |(have:=h.jU; subst this; rfl)
    |(obtain⟨A,cap,b,off,sz,vs,e,_⟩:=h.dD.dD; subst e; rfl)
    |(obtain⟨b,_,_,_,e⟩:=h.pG; subst e; rfl)
    |(obtain⟨b,off,vs,e,_⟩:=h.tW; subst e; rfl)
    |(obtain⟨vs,e,_⟩:=h.si; subst e; rfl)
    |(obtain⟨b,_,_,e⟩:=h.uY; subst e; rfl)
    |(obtain⟨b,_,_,e⟩:=h.CQ; subst e; rfl)
    |(obtain⟨b,es,cl,e,_⟩:=h.Ht; subst e; rfl)
    |(obtain⟨_,_,e⟩:=h.yR; subst e; rfl)
    |(obtain⟨⟨_,_,e⟩,_⟩:=h.sg; subst e; rfl)
    |(obtain⟨_,e,_⟩:=h.Gg; subst e; rfl)
    |(obtain⟨_,_,_,e⟩:=h.HN; subst e; rfl)
  rw[hv]
  exact⟨rfl,fun i c u hc hu=>by
   cases i with
   |zero=>simp at hc hu; subst hc; subst hu; exact h
   |succ i=>simp at hc⟩
theorem Cl{c:ag}{v:Value}(h:fV j M w c v)(hc:c.kW=true):v.oneCell'=true:=by
 cases c<;>simp only[ag.kW,af] at hc
 case bool=>have:=h.iY; subst this; rfl
 case int=>have:=h.fM; subst this; rfl
 case str=>have:=h.jU; subst this; rfl
 case slice=>obtain⟨A,cap,b,off,sz,vs,e,_⟩:=h.dD.dD; subst e; rfl
 case ptr=>obtain⟨b,_,_,_,e⟩:=h.pG; subst e; rfl
 case jd=>obtain⟨b,off,vs,e,_⟩:=h.tW; subst e; rfl
 case func=>obtain⟨vs,e,_⟩:=h.si; subst e; rfl
 case gD=>obtain⟨b,_,_,e⟩:=h.uY; subst e; rfl
 case jx=>obtain⟨b,_,_,e⟩:=h.CQ; subst e; rfl
 case iB=>obtain⟨b,es,cl,e,_⟩:=h.Ht; subst e; rfl
 case dg=>obtain⟨_,_,e⟩:=h.yR; subst e; rfl
 case im=>obtain⟨⟨_,_,e⟩,_⟩:=h.sg; subst e; rfl
 case rZ=>obtain⟨_,e,_⟩:=h.Gg; subst e; rfl
 case jL=>obtain⟨_,_,_,e⟩:=h.HN; subst e; rfl
 case raw u =>
  cases h with
  |plain h=>cases h<;>grind
theorem Gj(hr:Rel j M w){cs:List ag}{vs:Array Value}(hc:RC j M w cs vs)(t:TypeId) :
  iG j M w (.ptr M.length 0,M++[.cells cs]) (.pointer (some ⟨w.heap.size,0,none⟩)) { w with heap:=w.heap.push (.cells vs t (0,0)) }:=by
 have q:Quiet w { w with heap:=w.heap.push (.cells vs t (0,0)) }:=⟨by simp,rfl,rfl,rfl⟩
 have hb:∀b,b<w.heap.size->({ w with heap:=w.heap.push (.cells vs t (0,0)) }:World).heap[b]?=w.heap[b]?:=fun b hb=>by
  grind
 have hn:({ w with heap:=w.heap.push (.cells vs t (0,0)) }:World).heap[w.heap.size]?=some (.cells vs t (0,0)):=by simp
 refine⟨gv j _ (some w.heap.size),hr.push (fun b h=>?_) q hb (fun _=>?_) (fun sz n b h=>by grind),Ext.push (fun b h=>?_) q hb,.ptr (by simp) ⟨cs,by simp⟩ (by simp[gv])⟩
 ·grind
 ·exact⟨_,rfl,fun j' M' hx=>⟨vs,t,hn,hc.1,fun i c v h1 h2=>(hc.2 i c v h1 h2).mono hx⟩⟩
 grind
def ac2(hr:Rel j M w)(he:cu j M w br a){y:Operand}{z:gM}{t:TypeId}(hop:o.op = .box t y)(hz:dZ y=some z)(h:dW C br M (.box z)=some x) :
  ∃v w',qQ P o a w v w'/\iG j M w x v w':=by
 obtain⟨cs,hc,h⟩:=bn h;cases h;exact⟨_,_,.inl (by simp_all [execOp,Instr.box,newVar,newRow]),Gj hr (th (cF he hz) hc) t⟩
theorem Mh(hr:Rel j M w){t:TypeId}{i:TypeInfo}{zv:Value}{l:List ag}(hop:o.op = .alloc t)(hi:P.info? t=some i)(hzv:i.zero=some zv)(hl:sM zv.cells.toList=some l)
  (h:dW C br M (.sO l)=some x):∃v w',qQ P o a w v w'/\iG j M w x v w':=by
 cases h;obtain⟨h1,h2⟩:=pQ hl;refine⟨_,_,.inl (by simp[execOp,hop,Instr.alloc,zeroValue,py hi,hzv]; rfl),Gj hr ⟨by omega,fun i c v hc hv=>h2 i c v hc (by grind)⟩ t⟩
theorem ac6(hr:Rel j M w)(he:cu j M w br a){y:Operand}{n:Nat}(hop:o.op = .assign y)(hz:dZ y=some (.lg (.slice .c0 [])))(h:dW C br M (.own n (.lg (.slice .c0 [])))=some x) :
  ∃v w',qQ P o a w v w'/\iG j M w x v w':=by
 cases h;have h1:=cF he hz;have q:Quiet w w:=⟨ar _,rfl,rfl,rfl⟩
 obtain⟨A,hA⟩:∃A,a.eval y = .slice A 0 0:=by
  generalize a.eval y=v at h1;cases h1 with
  |plain h=>cases h
  |c0 A=>simp
 refine⟨a.eval y,w,.inl (by simp_all [execOp]),gv j _ none,hr.push (fun b h=>by grind) q (fun _ _=>rfl) (fun h=>by cases h) (fun sz n b h h'=>by grind),Ext.push (fun b h=>by grind) q (fun _ _=>rfl),?_⟩
 rw[hA];exact .own (sz:=n) (by simp) (by simp) (fF.nil _ _ _) fun _ => .inl ⟨by simp[gv],rfl,A,rfl⟩
def oQ(w:World)(b:Nat):Nat->List Value->World
 |_,[]=>w
 |off,v::r=>oQ (w.setCell ⟨b,off,none⟩ v) b (off+1) r
def lu{b:Nat}{t:TypeId}:∀(l:List Value)(w:World)(off:Nat)(vs:Array Value),w.heap[b]?=some (.cells vs t (0,0))->off+l.length<=vs.size ->
  (oQ w b off l).heap.size=w.heap.size/\(oQ w b off l).os=w.os/\(oQ w b off l).tape=w.tape/\(oQ w b off l).output=w.output /\
  (∀b',b'≠b->(oQ w b off l).heap[b']?=w.heap[b']?) /\
  ∃vs',(oQ w b off l).heap[b]?=some (.cells vs' t (0,0))/\vs'.size=vs.size/\(∀p,p<off\/off+l.length<=p->vs'[p]?=vs[p]?)/\∀p,p<l.length->vs'[off+p]?=l[p]?:=by
 intro l;induction l with
 |nil=>intro w off vs h _; exact⟨rfl,rfl,rfl,rfl,fun _ _=>rfl,vs,h,rfl,fun _ _=>rfl,fun p hp=>by simp at hp⟩
 |cons v r ih =>
  intro w off vs h hle;simp only[av] at hle
  have hs:(w.setCell ⟨b,off,none⟩ v).heap[b]?=some (.cells (vs.setIfInBounds off v) t (0,0)):=by
   simp[World.setCell,eY,h]
  obtain⟨h1,h2,h3,h4,h5,vs',h6,h7,h8,h9⟩:=ih (w.setCell ⟨b,off,none⟩ v) (off+1) (vs.setIfInBounds off v) hs (by simp; omega)
  refine⟨by simp only[oQ]; rw[h1]; simp[World.setCell],by simp only[oQ]; rw[h2]; rfl,by simp only[oQ]; rw[h3]; rfl,by simp only[oQ]; rw[h4]; rfl,fun b' hb'=>?_,vs',h6,by rw[h7]; simp,fun p hp=>?_,fun p hp=>?_⟩
  ·simp only[oQ];rw[h5 b' hb'];simp[World.setCell,eY,dA hb']
  ·simp only[av] at hp;rw[h8 p (by omega),eR (by omega)]
  ·cases p with
   |zero =>
    have:vs'[off]?=(vs.setIfInBounds off v)[off]?:=h8 off (by omega)
    rw[cS,this];simp[gG];omega
   |succ p =>
    have:=h9 p (by simpa using hp)
    rw[show off+(p+1)=off+1+p by omega,this]
    simp
def mP{b:Nat}{t:TypeId}:∀(l:List Value)(w:World)(off i:Nat)(vs:Array Value),w.heap[b]?=some (.cells vs t (0,0))->off+i+l.length<=vs.size->(∀v,v∈l->v.oneCell'=true) ->
  (storeCells ⟨b,off,none⟩ l i).run P w = .ok () (oQ w b (off+i) l):=by
 intro l;induction l with
 |nil=>simp[storeCells,oQ]
 |cons v r ih =>
  intro w off i vs h hle hv;simp only[av] at hle
  have hs:(w.setCell ⟨b,off+i,none⟩ v).heap[b]?=some (.cells (vs.setIfInBounds (off+i) v) t (0,0)):=by
   simp[World.setCell,eY,h]
  have hc:w.cell? ⟨b,off+i,none⟩=some (vs[off+i]'(by omega)):=by
   simp[World.cell?,h]
  have hf:w.frozen? ⟨b,off+i,none⟩=false:=by simp[World.frozen?,h]
  have hi:=ih _ off (i+1) _ hs (by simp; omega) (fun u hu=>hv u (aO _ hu))
  simp[storeCells,ly,run_store P w _ v .plain (hv v _),hc,hf,aw,Result.andThen_ok,hi];rfl
theorem qL{cs new:List ag}{off:Nat}(h:off+new.length<=cs.length)(p:Nat) :
  (mC cs off new)[p]?=if off<=p/\p<off+new.length then new[p-off]? else cs[p]?:=by
 grind [mC]
theorem uo{cs new:List ag}{off:Nat}(h:off+new.length<=cs.length):(mC cs off new).length=cs.length:=by
 grind [mC]
theorem zw{c:ag}{v:Value}(h:fV j M w c v)(hp:c.shut.plainCell=true):fF w (nR j M w) c.shut v:=by
 cases c<;>simp[ag.shut,ag.plainCell] at hp ⊢
 case bool=>have:=h.iY; subst this; exact .bool _
 case int=>have:=h.fM; subst this; exact .int _ _
 case str=>have:=h.jU; subst this; exact .str _
 case slice=>exact h.dD
 case raw=>cases h<;>grind
theorem Br{c:ag}(h:c.shut.plainCell=true):c.kW=true:=by
 cases c<;>simp[ag.shut,ag.plainCell] at h<;>try rfl
 rename_i v;cases v<;>first|rfl|grind
def Gs{c:ag}(h:c.plainCell=true):c.cells=[c]:=by
 cases c<;>first|rfl|cases h
theorem Dk{e:ag}{off:Nat}{new:List ag}(h:off+new.length<=e.cells.length)(hp:new.all ag.plainCell=true):(putCells e off new).cells=mC e.cells off new:=by
 by_cases hag:∃cs,e = .agg cs
 ·obtain⟨cs,rfl⟩:=hag;cases new<;>rfl
 ·have h1:e.cells=[e]:=by cases e<;>first|rfl|grind
  rw[h1] at h ⊢
  match new,h,hp with
  | [],h,_ =>
   have:putCells e off []=e:=by cases e<;>first|rfl|grind
   rw[this,h1]
   match off,h with
   |0,_=>rfl
   |1,_=>rfl
  | [c],h,hp =>
   have:putCells e off [c]=c:=by cases e<;>first|rfl|grind
   have h0:off=0:=by grind
   subst h0;rw[this,Gs (by grind)]
   rfl
  |_::_::_,h,_=>grind
theorem Dc(hr:Rel j M w)(he:cu j M w br a){y y':Operand}{z z':gM}{t:TypeId}{n:Nat}(hop:o.op = .store t y y')(hn:qo P t=some n)(hz:dZ y=some z)(hz':dZ y'=some z')
  (h:dW C br M (.store n z z')=some x):∃v w',qQ P o a w v w'/\iG j M w x v w':=by
 simp only[dW] at h;have h1:=cF he hz;have h2:=cF he hz';split at h
 ·rename_i id off e;rw[e] at h1;obtain⟨b,_,_,hj,hv⟩:=h1.pG;rw[eJ] at h;split at h
  ·rename_i cs hM;obtain⟨new,iq,h⟩:=bn h;split at h
   ·rename_i hcond;obtain⟨c1,c2,c3⟩:=hcond;cases h;obtain⟨vs,t0,hw,hl,hcs,hcell⟩:=wv hr hM hj;obtain⟨n1,n2⟩:=th h2 iq
    have hone:∀v,v∈(a.eval y').cells.toList->v.oneCell'=true:=by
     intro v hv;obtain⟨p,hp,rfl⟩:=jG hv;have hp':p<(a.eval y').cells.size:=by simpa using hp
     have hpl:p<new.length:=by omega
     have hr':=n2 p _ _ (aj hpl) (ba hp');have:=Cl hr' (bu.1 c3 _ (jI hpl));simpa using this
    have hrun:=mP (P:=P) (a.eval y').cells.toList w off 0 vs hw (by simp; omega) hone
    obtain⟨s1,s2,s3,s4,s5,vs',s6,s7,s8,s9⟩:=lu (a.eval y').cells.toList w off vs hw (by simp; omega)
    have q:Quiet w (oQ w b off (a.eval y').cells.toList):=⟨by omega,s2,s3,s4⟩
    have hle:off+new.length<=cs.length:=by omega
    rw[fN];refine⟨undef,oQ w b off (a.eval y').cells.toList,.inr ⟨?_,rfl⟩,j,Rel.store hM rfl rfl hj hr q (fun b' hb' _=>s5 b' hb') (fun vs0 t1 fr h=>by rw[hw] at h; grind) (fun j' M' hx=>⟨vs',t0,s6,by rw[uo hle]; omega,fun p c v hc hv'=>fV.mono hx ?_⟩),Ext.store hM rfl rfl hj hr q (fun b' hb' _=>s5 b' hb') (fun vs0 t1 fr h=>by rw[hw] at h; grind),.any _⟩
    ·simp_all [cS,execOp,Instr.storeAt,Instr.sureAddr,storeVar,ja]
    ·rw[qL hle] at hc;split at hc
     ·rename_i hp;have h9:=s9 (p-off) (by simp; omega)
      rw[show off+(p-off)=p by omega,hv'] at h9
      exact n2 (p-off) c v hc (by simpa using h9.symm)
     grind
   ·cases h
  ·cases h
 ·rename_i id ver i off e;rw[e] at h1;rw[eJ] at h;split at h
  ·rename_i sz v0 xs hM;obtain⟨new,iq,h⟩:=bn h;obtain⟨el,hel,h⟩:=bn h;split at h
   ·rename_i hcond;obtain⟨hv0,c1,c2,c3⟩:=hcond;subst hv0;cases h;obtain⟨_,hid,_,hv⟩:=h1.sg;obtain⟨hi,b,hj,hv⟩:=(hv sz v0 xs hM).2 rfl;obtain⟨b',vs,t0,k1,hw,k3,k4,k5⟩:=hr.yb hM hj;rw[hj] at k1; cases k1;have hsz:el.cells.length=sz:=k4 el (aQ hel)
    have hbd:i*sz+sz<=vs.size:=by
     refine bh ?_ k3
     calc i*sz+sz=(i+1)*sz:=by rw[bO]; omega
      _<=xs.length*sz:=bd _ hi
    obtain⟨n1,n2⟩:=th h2 iq
    have hpl:∀(p:Nat)(c:ag),new[p]?=some c->c.shut.plainCell=true:=fun p c hc=>by
     rw[List.all_map,bu] at c3;exact c3 c (aQ hc)
    have hone:∀v,v∈(a.eval y').cells.toList->v.oneCell'=true:=by
     intro v hv;obtain⟨p,hp,rfl⟩:=jG hv;have hp':p<(a.eval y').cells.size:=by simpa using hp
     have hpl':p<new.length:=by omega
     have hr':=n2 p _ _ (aj hpl') (ba hp');have:=Cl hr' (Br (hpl p _ (aj hpl')));simpa using this
    have hrun:=mP (P:=P) (a.eval y').cells.toList w (i*sz+off) 0 vs hw (by simp; omega) hone
    obtain⟨s1,s2,s3,s4,s5,vs',s6,s7,s8,s9⟩:=lu (a.eval y').cells.toList w (i*sz+off) vs hw (by simp; omega)
    have q:Quiet w (oQ w b (i*sz+off) (a.eval y').cells.toList):=⟨by omega,s2,s3,s4⟩
    have hle:off+(new.map ag.shut).length<=el.cells.length:=by simp; omega
    have hput:=Dk hle c3
    have hw':∀vs0 t1,w.heap[b]?=some (.cells vs0 t1 (0,0))->∃vs1,(oQ w b (i*sz+off) (a.eval y').cells.toList).heap[b]?=some (.cells vs1 t1 (0,0))/\vs1.size=vs0.size:=fun vs0 t1 h=>by
     rw[hw] at h; grind
    rw[fN,fN];refine⟨undef,oQ w b (i*sz+off) (a.eval y').cells.toList,.inr ⟨?_,rfl⟩,j,Rel.DR hM hj hr q (fun b' hb' _=>s5 b' hb') hw' (ar _) (fun _=>by simp) (fun j' M' hx=>⟨vs',t0,s6,by simp; omega,fun x hx'=>?_,fun p x k c hp hk=>?_⟩),Ext.DR hM hj hr q (fun b' hb' _=>s5 b' hb') hw' (ar _) (fun _=>by simp),.any _⟩
    ·simp only[cS] at hrun;simp[execOp,hop,Instr.storeAt,Instr.sureAddr,hv,storeVar,ja hn,show(a.eval y').cells.size=n by omega,hrun]
    ·rcases kS hx' with hx'|rfl
     ·exact k4 x hx'
     ·rw[hput,uo hle,hsz]
    ·have eU:(a.eval y').cells.toList.length=n:=by simp; omega
     by_cases hpi:i=p
     ·subst hpi;rw[er hi] at hp;cases hp;rw[hput,qL hle] at hk;split at hk
      ·rename_i hin;simp only[aH] at hin;rw[aY,aN] at hk;obtain⟨c0,hc0,rfl⟩:=hk;have h9:=s9 (k-off) (by omega)
       rw[show i*sz+off+(k-off)=i*sz+k by omega] at h9
       have cr:k-off<(a.eval y').cells.size:=by omega
       have hu:(a.eval y').cells[k-off]?=some (a.eval y').cells[k-off]:=ba cr;exact⟨_,by rw[h9]; simp,(zw (n2 _ c0 _ hc0 hu) (hpl _ c0 hc0)).mono hx.gX⟩
      ·rename_i hin;simp only[aH] at hin;obtain⟨u,u1,u2⟩:=k5 i el k c hel hk;exact⟨u,by rw[s8 _ (by omega)]; exact u1,u2.mono hx.gX⟩
     ·rw[fu hpi] at hp;obtain⟨u,u1,u2⟩:=k5 p x k c hp hk;have hk':k<sz:=by rw[<-k4 x (aQ hp)]; exact aF hk
      refine⟨u,(s8 _ ?_).trans u1,u2.mono hx.gX⟩;rcases bG p i with cr|hge
      ·left;have:=bd sz (show p+1<=i from cr)
       rw[bO] at this;omega
      ·right;have:=bd sz (show i+1<=p by omega)
       rw[bO] at this;omega
   ·cases h
  ·cases h
 ·cases h
end
def T0(off:Nat):∀(l:List Value)(k:Nat)(cells:Array Value),
  ((l.zipIdx k).foldl (fun(cs:Array Value) (x:Value×Nat)=>cs.setIfInBounds (off+x.2) x.1) cells).size=cells.size /\
  ∀p,((l.zipIdx k).foldl (fun(cs:Array Value) (x:Value×Nat)=>cs.setIfInBounds (off+x.2) x.1) cells)[p]? =
   if off+k<=p/\p<off+k+l.length/\p<cells.size then l[p-(off+k)]? else cells[p]?:=by
 intro l;induction l with
 |nil=>intro k cells; exact⟨rfl,fun p=>by simp; omega⟩
 |cons v r ih =>
  intro k cells;rw[List.zipIdx_cons,bA];obtain⟨h1,h2⟩:=ih (k+1) (cells.setIfInBounds (off+k) v);refine⟨by rw[h1]; simp,fun p=>?_⟩
  rw[h2];simp only[Array.size_setIfInBounds,av]
  by_cases c1:off+(k+1)<=p/\p<off+(k+1)+r.length/\p<cells.size
  ·rw[az c1,az (by omega),show p-(off+k)=(p-(off+(k+1)))+1 by omega]
   simp
  ·rw[ak c1]
   by_cases c2:p=off+k/\p<cells.size
   ·obtain⟨rfl,cr⟩:=c2;rw[az (by omega)]
    simp[gG,cr]
   ·rw[ak (by omega)]
    by_cases c3:p=off+k
    ·have:¬p<cells.size:=fun h=>c2 ⟨c3,h⟩
     rw[gU (by simp; omega),gU (by omega)]
    ·rw[eR (by omega)]
def putRow(cells:Array Value)(off:Nat)(vs:Array Value):Array Value:=vs.zipIdx.foldl (fun cs (c,k)=>cs.setIfInBounds (off+k) c) cells
def Bp(cells:Array Value)(off:Nat)(vs:Array Value):(putRow cells off vs).size=cells.size /\
  ∀p,(putRow cells off vs)[p]?=if off<=p/\p<off+vs.size/\p<cells.size then vs[p-off]? else cells[p]?:=by
 have h:=T0 off vs.toList 0 cells
 have e:putRow cells off vs=(vs.toList.zipIdx 0).foldl (fun(cs:Array Value) (x:Value×Nat)=>cs.setIfInBounds (off+x.2) x.1) cells:=by
  unfold putRow;rw[<-Array.foldl_toList];simp
 rw[e];exact⟨h.1,fun p=>by rw[h.2 p]; simp⟩
section
variable {P:Program} {C:eL} {o:Oper} {br:Env} {M:aK} {j:J} {w:World} {a:Act} {x:ag×aK}
def RC.write{cs new:List ag}{cells vs:Array Value}{off:Nat}(h:RC j M w cs cells)(hn:RC j M w new vs)(hle:off+new.length<=cs.length):RC j M w (mC cs off new) (putRow cells off vs):=by
 obtain⟨p1,p2⟩:=Bp cells off vs;have h1:=h.1;have h2:=hn.1;refine⟨by rw[uo hle,p1]; exact h1,fun i c v hc hv=>?_⟩
 rw[qL hle] at hc;rw[p2] at hv
 have hi:i<cells.size:=by
  rcases bG i cells.size with hi|hi
  ·exact hi
  ·rw[ak (by omega),gU hi] at hv; cases hv
 split at hc
 ·rename_i hp;rw[az (by omega)] at hv
  exact hn.2 _ c v hc hv
 ·rename_i hp;rw[ak (by omega)] at hv
  exact h.2 _ c v hc hv
def SX{α β:Type}{g:α->Sem β}{f:α->β}:∀(l:List α),(∀x,x∈l->(g x).run P w = .ok (f x) w)->(l.mapM g).run P w = .ok (l.map f) w:=by
 intro l;induction l with
 |nil=>intro _; simp
 |cons y r ih =>
  intro h;simp[List.mapM_cons,h y (by simp),ih fun x hx=>h x (by simp[hx])]
def Hq{fs:Array Field}(he:cu j M w br a)(hfs:∀f,f∈fs.toList->(P.info? f.type).isSome=true):∀ {parts:List (Nat×Operand)} {ps:List (Nat×Nat×gM)} {cs cs':List ag} {cells:Array Value},
  zU P fs parts=some ps->lk br cs ps=some cs'->RC j M w cs cells ->
  ∃cells',Instr.fill (fun i=>(fs.map fun f=>(f.offset,P.cellsOf f.type))[i]?) cells (parts.map fun p=>(p.1,a.eval p.2))=some cells'/\RC j M w cs' cells':=by
 intro parts;induction parts with
 |nil =>
  intro ps cs cs' cells h1 h2 h3;simp[zU] at h1; subst h1;simp[lk] at h2; subst h2;exact⟨cells,rfl,h3⟩
 |cons p r ih =>
  intro ps cs cs' cells h1 h2 h3;obtain⟨i,y⟩:=p;simp only[zU] at h1;obtain⟨f,hf,h1⟩:=a8 h1;obtain⟨n,hn,h1⟩:=a8 h1;obtain⟨z,hz,h1⟩:=a8 h1;obtain⟨l,hl,h1⟩:=a8 h1;cases h1;simp only[lk] at h2;obtain⟨new,iq,h2⟩:=bn h2;split at h2
  ·rename_i hc;obtain⟨c1,c2⟩:=hc;have hrc:=th (cF he hz) iq;obtain⟨inf,hinf,hsz⟩:=Dv hn;have hco:P.cellsOf f.type=n:=by simp[Program.cellsOf,hinf,hsz]
   obtain⟨cells',e1,e2⟩:=ih hl h2 (h3.write (off:=f.offset) hrc (by omega))
   refine⟨cells',?_,e2⟩;have hs1:=hrc.1;have hs2:=h3.1;have hpl:(fs.map fun f=>(f.offset,P.cellsOf f.type))[i]?=some (f.offset,n):=by simp[hf,hco]
   simp only[aV,Instr.fill,hpl];rw[ak (by simp; omega)]
   exact e1
  ·cases h2
def Tf(hr:Rel j M w)(he:cu j M w br a){t:TypeId}{parts:Array (Nat×Operand)}{fs:Array Field}{i:TypeInfo}{zv:Value}{l:List ag}{ps:List (Nat×Nat×gM)}(hop:o.op = .build t parts)
  (ht:P.underlying t=some (.struct fs)) (hi:P.info? t=some i) (hzv:i.zero=some zv) (hl:sM zv.cells.toList=some l) (hps:zU P fs parts.toList=some ps) (hfs:fs.all (fun f=>(P.info? f.type).isSome)=true)
  (h:dW C br M (.build l ps)=some x):∃v w',qQ P o a w v w'/\iG j M w x v w':=by
 simp only[dW] at h;obtain⟨cs,hcs,h⟩:=bn h;cases h;obtain⟨h1,h2⟩:=pQ (j:=j) (M:=M) (w:=w) hl
 have hfs':∀f,f∈fs.toList->(P.info? f.type).isSome=true:=fun f hf=>by
  have:=Array.all_eq_true'.1 hfs f (by simpa using hf)
  simpa using this
 obtain⟨cells',e1,e2⟩:=Hq (P:=P) he hfs' hps hcs (cells:=zv.cells) ⟨by simpa using h1,fun i c v hc hv=>h2 i c v hc (by simpa using hv)⟩
 have hmap:(fs.mapM fun f=>do pure (f.offset,<-sizeOf f.type):Sem _).run P w = .ok (fs.map fun f=>(f.offset,P.cellsOf f.type)) w:=by
  rw[kQ]
  have hm:=SX (P:=P) (w:=w) (g:=fun f:Field=>(do pure (f.offset,<-sizeOf f.type):Sem _)) (f:=fun f:Field=>(f.offset,P.cellsOf f.type)) fs.toList fun f hf=>by
   obtain⟨inf,hinf⟩:=lf.1 (hfs' f hf);simp[sizeOf,py hinf,Program.cellsOf,hinf]
  rw[Sem.run_map,hm,<-Array.toList_map];simp only[Result.andThen_ok,Array.toArray_toList]
 refine⟨.agg cells',w,.inl ?_,.still hr (.agg e2.1 e2.2)⟩;have e1':Instr.fill (fun i=>(fs.map fun f=>(f.offset,P.cellsOf f.type))[i]?) zv.cells (parts.map fun p=>(p.1,a.eval p.2)).toList=some cells':=by simpa using e1
 simp only[execOp,hop,Instr.build,zeroValue,Sem.run_bind,py hi,Result.andThen_ok,hzv,Sem.run_pure,dx ht,hmap];simp only[e1',Sem.run_pure,Result.andThen_ok]
def Bq{y:ag}{v:Value}(h:fV j M w y v)(hp:y.fZ.plain=true):y.fZ.cells.length=v.cells.size /\
  ∀(k:Nat)(c:ag)(u:Value),y.fZ.cells[k]?=some c->v.cells[k]?=some u->fF w (nR j M w) c u:=by
 by_cases hag:∃cs,y = .agg cs
 ·obtain⟨cs,rfl⟩:=hag;obtain⟨vs,rfl,h1,h2⟩:=h.lY;simp only[ag.fZ,ag.plain,ag.cells,Value.cells] at hp ⊢;refine⟨by simpa using h1,fun k c u hc hu=>?_⟩
  rw[aY,aN] at hc;obtain⟨c0,hc0,rfl⟩:=hc;refine zw (h2 k c0 u hc0 hu) ?_;have:=bu.1 hp c0.shut (bR.2 ⟨c0,aQ hc0,rfl⟩);exact this
 ·have hs:y.fZ=y.shut:=by cases y<;>first|rfl|exact absurd ⟨_,rfl⟩ hag
  have hpl:y.shut.plainCell=true:=by
   rw[hs] at hp;cases y<;>first|exact hp|exact absurd ⟨_,rfl⟩ hag
  have hr:=zw h hpl;have hc1:y.shut.cells=[y.shut]:=by cases y<;>first|rfl|exact absurd ⟨_,rfl⟩ hag
  have hv1:v.cells = #[v]:=by
   cases y<;>simp only[ag.shut,ag.plainCell,af] at hpl
   case bool=>have:=h.iY; subst this; rfl
   case int=>have:=h.fM; subst this; rfl
   case str=>have:=h.jU; subst this; rfl
   case slice=>obtain⟨A,cap,b,off,sz,vs,e,_⟩:=h.dD.dD; subst e; rfl
   case raw=>cases h with|plain h=>cases h; cases v<;>simp_all [Value.cells]
  rw[hs,hc1,hv1];refine⟨rfl,fun k c u hc hu=>?_⟩
  cases k with
  |zero=>simp at hc hu; subst hc; subst hu; exact hr
  |succ k=>simp at hc
def PW{sz:Nat}:∀(l:List Value)(k:Nat)(cells:Array Value),(∀v,v∈l->v.cells.size=sz)->(k+l.length)*sz<=cells.size ->
  ∃cells',Instr.fill (fun i=>some (i*sz,sz)) cells ((l.zipIdx k).map fun x=>(x.2,x.1))=some cells'/\cells'.size=cells.size/\(∀p,p<k*sz->cells'[p]?=cells[p]?) /\
   ∀i v q,l[i]?=some v->q<sz->cells'[(k+i)*sz+q]?=v.cells[q]?:=by
 intro l;induction l with
 |nil=>intro k cells _ _; exact⟨cells,rfl,rfl,fun _ _=>rfl,fun i v q h=>by simp at h⟩
 |cons v r ih =>
  intro k cells hv hle;have hv0:=hv v (by simp)
  have hk1:(k+1)*sz=k*sz+sz:=lV k sz
  have hle':k*sz+sz<=cells.size:=by
   have:(k+1)*sz<=(k+(r.length+1))*sz:=bd _ (by omega)
   simp only[av] at hle;omega
  obtain⟨p1,p2⟩:=Bp cells (k*sz) v.cells;obtain⟨cells',e1,e2,e3,e4⟩:=ih (k+1) (putRow cells (k*sz) v.cells) (fun u hu=>hv u (by simp[hu])) (by rw[p1]; simp only[av] at hle; rw[show k+1+r.length=k+(r.length+1) by omega]; exact hle)
  refine⟨cells',?_,by rw[e2,p1],fun p hp=>?_,fun i u q hi hq=>?_⟩
  ·rw[List.zipIdx_cons,aV];simp only[Instr.fill];rw[ak (by simp; omega)]
   exact e1
  ·rw[e3 p (by omega),p2,ak (by omega)]
  ·cases i with
   |zero =>
    simp at hi; subst hi;rw[cS,e3 _ (by omega),p2,az (by omega)]
    congr 1;omega
   |succ i =>
    have:=e4 i u q (by simpa using hi) hq
    rw[show k+1+i=k+(i+1) by omega] at this
    exact this
def DW:∀ {l:List (Nat×Operand)} {k:Nat} {zs:List gM},Ha k l=some zs->∃ys:List Operand,l=(ys.zipIdx k).map (fun x=>(x.2,x.1))/\uH ys=some zs
 | [],k,zs,h=>by simp[Ha] at h; subst h; exact⟨[],rfl,rfl⟩
 |(i,y)::r,k,zs,h=>by
  simp only[Ha] at h;split at h
  ·rename_i hi;obtain⟨z,hz,h⟩:=a8 h;obtain⟨l,hl,h⟩:=a8 h;cases h;obtain⟨ys,e1,e2⟩:=DW hl;exact⟨y::ys,by rw[List.zipIdx_cons,aV,hi,e1],by simp[uH,hz,e2]⟩
  ·cases h
def Ez:∀ {zs:List gM} {sz:Nat} {l:List ag},sG br sz zs=some l->l.length=zs.length /\
  ∀(i:Nat)(y:ag)(z:gM),l[i]?=some y->zs[i]?=some z->y=(z.ev br).fZ/\y.plain=true/\y.cells.length=sz
 | [],sz,l,h=>by simp[sG] at h; subst h; exact⟨rfl,fun i y z h=>by simp at h⟩
 |z::r,sz,l,h=>by
  simp only[sG] at h;split at h
  ·rename_i hc;obtain⟨l',hl,h⟩:=bn h;cases h;obtain⟨h1,h2⟩:=Ez hl;refine⟨by simp[h1],fun i y z' hy hz=>?_⟩
   cases i with
   |zero=>simp at hy hz; subst hy; subst hz; exact⟨rfl,hc.1,hc.2⟩
   |succ i=>exact h2 i y z' (by simpa using hy) (by simpa using hz)
  ·cases h
def pH(o:Obj):Quiet w { w with heap:=w.heap.push o }/\(∀b,b<w.heap.size->({ w with heap:=w.heap.push o }:World).heap[b]?=w.heap[b]?)/\({ w with heap:=w.heap.push o }:World).heap[w.heap.size]?=some o :=
 ⟨⟨by simp,rfl,rfl,rfl⟩,fun b hb=>by
  show(w.heap.push _)[b]?=_
  rw[fI,ak (by omega)],by simp⟩
def Ey(he:cu j M w br a){t e:TypeId}{len:Nat}{parts:Array (Nat×Operand)}{i:TypeInfo}{zs:List gM}{l:List ag}(hop:o.op = .buildSlice t len parts)(ht:P.underlying t=some (.slice e))
  (hi:P.info? e=some i) (hzs:Ha 0 parts.toList=some zs) (eU:zs.length=len) (hroom:len*i.size<=2 ^ 24) (hzero:(i.zero.map fun z=>z.cells.size)=some i.size)
  (hl:sG br i.size zs=some l):l.length=len/\wid l i.size/\∃cells':Array Value,cells'.size=len*i.size /\
   (execOp a.eval o).run P w = .ok (.value (.slice (some ⟨w.heap.size,0,none⟩) len len)) { w with heap:=w.heap.push (.cells cells' e (0,0)) } /\
   ∀(n:Nat)(y:ag)(k:Nat)(c:ag),l[n]?=some y->y.cells[k]?=some c->∃u,cells'[n*i.size+k]?=some u/\fF w (nR j M w) c u:=by
 obtain⟨ys,hys,hyz⟩:=DW hzs;obtain⟨l1,l2⟩:=Ez hl;obtain⟨y1,y2⟩:=tU he hyz
 obtain⟨zv,hzv,hzs'⟩:∃zv,i.zero=some zv/\zv.cells.size=i.size:=by
  cases hz:i.zero with
  |none=>rw[hz] at hzero; cases hzero
  |some zv=>rw[hz] at hzero; exact⟨zv,rfl,by simpa using hzero⟩
 have hvs:∀v,v∈ys.map a.eval->v.cells.size=i.size:=by
  intro v hv;obtain⟨y,hy,rfl⟩:=bR.1 hv;obtain⟨p,hp,rfl⟩:=jG hy;have hpz:p<zs.length:=by omega
  have hpl:p<l.length:=by omega
  have hrep:=y2 p _ _ (aj hpz) (aj hp);obtain⟨e1,e2,e3⟩:=l2 p _ _ (aj hpl) (aj hpz);have:=(Bq hrep (by rw[<-e1]; exact e2)).1
  rw[<-e1] at this;omega
 let zero:Array Value:=if len*i.size=0 then #[] else zv.cells
 let cells0:Array Value:=(Array.range (len*i.size)).map (zero[· % zero.size]!)
 obtain⟨cells',f1,f2,f3,f4⟩:=PW (sz:=i.size) (ys.map a.eval) 0 cells0 hvs (by simp[cells0,<-eU,y1])
 have hfill:Instr.fill (fun k=>some (k*i.size,i.size)) cells0 (parts.map fun p=>(p.1,a.eval p.2)).toList=some cells':=by
  have:(parts.map fun p=>(p.1,a.eval p.2)).toList=((ys.map a.eval).zipIdx 0).map fun x=>(x.2,x.1):=by
   rw[Array.toList_map,hys,fT,List.zipIdx_map,fT];rfl
  rw[this]; exact f1
 have hrun:(execOp a.eval o).run P w = .ok (.value (.slice (some ⟨w.heap.size,0,none⟩) len len)) { w with heap:=w.heap.push (.cells cells' e (0,0)) }:=by
  simp only[execOp,hop,Instr.buildSlice,Sem.run_bind,dx ht,Result.andThen_ok,ja (show qo P e=some i.size by simp[qo,hi]),ak (show ¬len*i.size>2 ^ 24 by omega),Sem.run_pure]
  simp only[cells0] at hfill
  by_cases hc:len*i.size=0
  ·have hz:zero = #[]:=az hc;rw[hz] at hfill;rw[az hc];simp only[Sem.run_bind,Sem.run_pure,Result.andThen_ok,hfill];simp[newRow]
  ·have hz:zero=zv.cells:=ak hc;rw[hz] at hfill;rw[ak hc];simp only[zeroValue,Sem.run_bind,py hi,Result.andThen_ok,hzv,Sem.run_pure,hfill];simp[newRow]
 have hel:∀(n:Nat)(y:ag)(k:Nat)(c:ag),l[n]?=some y->y.cells[k]?=some c->∃u,cells'[n*i.size+k]?=some u/\fF w (nR j M w) c u:=by
  intro n y k c hn hk;have hnl:=aF hn;have hz:=aj (show n<zs.length by omega)
  have hy:=aj (show n<ys.length by omega)
  obtain⟨e1,e2,e3⟩:=l2 n y _ hn hz;have hrep:=y2 n _ _ hz hy;obtain⟨s1,s2⟩:=Bq hrep (by rw[<-e1]; exact e2)
  rw[<-e1] at s1 s2;have hkl:=aF hk;have hu:=ba (show k<(a.eval ys[n]).cells.size by omega)
  have f:=f4 n (a.eval ys[n]) k (by simp[hy]) (by omega)
  rw[aP] at f;exact⟨_,f.trans hu,s2 k c _ hk hu⟩
 refine⟨by omega,fun y hy=>?_,cells',by first|(simp[f2,cells0])|(simp[f3,cells0]),hrun,hel⟩
 obtain⟨p,hp,rfl⟩:=jG hy;exact(l2 p _ _ (aj hp) (aj (by omega))).2.2
def Mi(hr:Rel j M w)(he:cu j M w br a){t e:TypeId}{len:Nat}{parts:Array (Nat×Operand)}{i:TypeInfo}{zs:List gM}(hop:o.op = .buildSlice t len parts)(ht:P.underlying t=some (.slice e))
  (hi:P.info? e=some i) (hzs:Ha 0 parts.toList=some zs) (eU:zs.length=len) (hroom:len*i.size<=2 ^ 24) (hzero:(i.zero.map fun z=>z.cells.size)=some i.size)
  (h:dW C br M (.lits i.size zs)=some x):∃v w',qQ P o a w v w'/\iG j M w x v w':=by
 simp only[dW] at h;obtain⟨l,hl,h⟩:=bn h;obtain⟨hll,hwd,cells',_,hrun,hel⟩:=Ey (w:=w) he hop ht hi hzs eU hroom hzero hl;obtain⟨q,hb,iq⟩:=pH (w:=w) (.cells cells' e (0,0));refine⟨_,_,.inl hrun,?_⟩;have ext:Ext j M w j M { w with heap:=w.heap.push (.cells cells' e (0,0)) }:=Ext.grow q.size rfl rfl rfl hb
 have rel:Rel j M { w with heap:=w.heap.push (.cells cells' e (0,0)) }:=hr.grow q.size rfl rfl rfl hb
 have key:fF { w with heap:=w.heap.push (.cells cells' e (0,0)) } (nR j M { w with heap:=w.heap.push (.cells cells' e (0,0)) }) (.slice .sh l) (.slice (some ⟨w.heap.size,0,none⟩) len len):=by
  refine .slice l _ _ _ w.heap.size 0 i.size (fun p=>(cells'[p]?).getD undef) hll.symm (ar _) (fun _=>rfl) hwd (fun n y k c hn hk=>?_) (fun n y k c hn hk=>?_)
  ·obtain⟨u,hu,_⟩:=hel n y k c hn hk;refine⟨?_,by simp,fun id hid hj=>?_,fun hx=>absurd (hr.zG _ _ hx) (iK _)⟩
   ·simp only[World.cell?,iq,aP,hu];rfl
   ·have:=hr.lt id _ hid hj;omega
  ·obtain⟨u,hu,hru⟩:=hel n y k c hn hk;rw[hu];exact hru.mono ext.gX
 injection h with h
 subst h;cases l with
 |nil =>
  have:len=0:=by simpa using hll.symm
  subst this;exact⟨j,rel,ext,.c0 _⟩
 |cons y r=>exact⟨j,rel,ext,.plain key⟩
def Tp(hr:Rel j M w)(he:cu j M w br a){t e:TypeId}{len:Nat}{parts:Array (Nat×Operand)}{i:TypeInfo}{zs:List gM}(hop:o.op = .buildSlice t len parts)(ht:P.underlying t=some (.slice e))
  (hi:P.info? e=some i) (hzs:Ha 0 parts.toList=some zs) (eU:zs.length=len) (hroom:len*i.size<=2 ^ 24) (hzero:(i.zero.map fun z=>z.cells.size)=some i.size)
  (h:dW C br M (.Ex i.size zs)=some x):∃v w',qQ P o a w v w'/\iG j M w x v w':=by
 simp only[dW] at h;obtain⟨l,hl,h⟩:=bn h;cases h;obtain⟨hll,hwd,cells',hcs,hrun,hel⟩:=Ey (w:=w) he hop ht hi hzs eU hroom hzero hl;obtain⟨q,hb,iq⟩:=pH (w:=w) (.cells cells' e (0,0));have hob:∀b,some w.heap.size=some b->w.heap.size<=b/\b<({ w with heap:=w.heap.push (.cells cells' e (0,0)) }:World).heap.size:=fun b h=>by cases h; simp
 have ext:Ext j M w (gv j M.length (some w.heap.size)) (M++[.tick i.size l.length]) { w with heap:=w.heap.push (.cells cells' e (0,0)) }:=Ext.push (fun b hb=>(hob b hb).1) q hb
 refine⟨_,_,.inl hrun,gv j M.length (some w.heap.size),hr.push hob q hb (fun h=>by cases h) (fun sz n b _ hb=>by cases hb; exact⟨cells',e,iq⟩),ext,?_⟩
 refine .own (sz:=i.size) (n:=l.length) (by simp) (ar _) ?_ fun _ => .inr ⟨w.heap.size,len,cells',e,by simp[gv],by rw[hll],iq,by omega,by omega⟩
 refine .slice l _ _ _ w.heap.size 0 i.size (fun p=>(cells'[p]?).getD undef) hll.symm (ar _) (fun _=>rfl) hwd (fun n y k c hn hk=>?_) (fun n y k c hn hk=>?_)
 ·obtain⟨u,hu,_⟩:=hel n y k c hn hk;have hk':k<i.size:=by rw[<-hwd y (aQ hn)]; exact aF hk
  refine⟨?_,by simp,fun id hid hj=>?_,fun hx=>absurd (hr.zG _ _ (by rw[<-ext.X]; exact hx)) (iK _)⟩
  ·simp only[World.cell?,iq,aP,hu];rfl
  ·have hid':id=M.length:=by
    rcases bG id M.length with h|h
    ·rw[show gv j M.length (some w.heap.size) id=j id by simp[gv,gm h]] at hj
     exact absurd (hr.lt id _ h hj) (iK _)
    ·simp at hid; omega
   subst hid';refine⟨i.size,l.length,by simp,?_⟩
   have:=bd i.size (show n+1<=l.length from aF hn)
   rw[bO] at this;omega
 ·obtain⟨u,hu,hru⟩:=hel n y k c hn hk;rw[hu];exact hru.mono ext.gX
end
def fV.Cj{j:J}{M:aK}{w:World}{xs:List ag}{v:Value}(h:fV j M w (.slice .c0 xs) v):∃A,v = .slice A 0 0:=by
 cases h with
 |plain h=>cases h
 |c0 A=>simp
theorem fV.WY{j:J}{M:aK}{w:World}{k:Nat}{xs:List ag}{v:Value}(h:fV j M w (.slice (.own k) xs) v) :
  ∃sz n,M[k]?=some (.tick sz n)/\xs.length<=n/\fF w (nR j M w) (.slice .sh xs) v/\(xs.length=n->GP j w k sz n v):=by
 cases h with
 |plain h=>cases h
 |own hk hn h ht=>grind
theorem Ed(n:Nat):∀(r c:Nat),c<=2*n+1000->Builtin.growBy n r c<=2*n+1000
 |0,c,h=>h
 |r+1,c,h=>by
  unfold Builtin.growBy;split
  ·omega
  ·exact Ed n r _ (by omega)
theorem C8{n c:Nat}(h:c<n):Builtin.nextslicecap n c<=2*n+1000:=by
 grind [Builtin.nextslicecap,Ed]
def fF.one{w:World}{gX:Nat->Nat->Prop}{c:ag}{v:Value}(h:fF w gX c v):v.oneCell'=true:=by
 cases h<;>first|rfl|omega
section
variable {P:Program} {C:eL} {o:Oper} {br:Env} {M:aK} {j:J} {w:World} {a:Act} {x:ag×aK}
theorem D8{gX:Nat->Nat->Prop}{xs:List ag}{v:Value}{size:Nat}(hx:fF w gX (.slice .sh xs) v)(hw:wid xs size)(hpos:0<size) :
  ∃u:Nat->Value,(∀w':World,w'.heap=w.heap->(Builtin.firstCells size xs.length v).run P w' = .ok (((List.range (xs.length*size)).map u).toArray) w') /\
   (∀(i:Nat)(y:ag)(k:Nat)(c:ag),xs[i]?=some y->y.cells[k]?=some c->fF w gX c (u (i*size+k))) /\
   ∀b,(∃n cap,v = .slice (some ⟨b,0,none⟩) n cap)->∀p,p<xs.length*size->w.cell? ⟨b,p,none⟩=some (u p):=by
 obtain⟨A,cap,b,off,sz,vs,hv,hc,ha,hz,hs,hr⟩:=hx.dD
 by_cases hne:xs=[]
 ·subst hne;rw[hv];cases A<;>simp_all [Builtin.firstCells,loadCells,loadCellsFrom]
 ·have hsz:sz=size:=by
   obtain⟨y,r,rfl⟩:=fm hne;rw[<-hz y (by simp),hw y (by simp)]
  subst hsz;have hA:=ha hne;subst hA
  have hcell:∀p,p<xs.length*sz->w.cell? ⟨b,off+p,none⟩=some (vs p):=by
   intro p hp;have hd:p / sz<xs.length:=(kh hpos).2 hp;have hm:p % sz<sz:=iE _ hpos;have hy:=aj hd;have hcl:=hw _ (jI hd);have:=(hs (p / sz) _ (p % sz) _ hy (aj (by omega))).1
   rw[Nat.div_add_mod'] at this;omega
  refine⟨vs,fun w' hw'=>?_,hr,fun b' hb' p hp=>?_⟩
  ·rw[hv]
   have hc':∀p,p<xs.length*sz->w'.cell? ⟨b,off+p,none⟩=some (vs p):=fun p hp=>by
    grind [World.cell?]
   exact oE (P:=P) b off (xs.length*sz) vs hc'
  grind
theorem fF.join{w':World}{saf':Nat->Nat->Prop}{xs ys:List ag}{size:Nat}(hwx:wid xs size)(hwy:wid ys size)(hpos:0<size){ux uy:Nat->Value}
  (hx:∀(i:Nat)(y:ag)(k:Nat)(c:ag),xs[i]?=some y->y.cells[k]?=some c->fF w' saf' c (ux (i*size+k)))
  (hy:∀(i:Nat)(y:ag)(k:Nat)(c:ag),ys[i]?=some y->y.cells[k]?=some c->fF w' saf' c (uy (i*size+k)))
  {b:Nat} {arr:Array Value} {t:TypeId} (harr:w'.heap[b]?=some (.cells arr t (0,0))) (h1:∀p,p<xs.length*size->arr[p]?=some (ux p)) (h2:∀p,p<ys.length*size->arr[xs.length*size+p]?=some (uy p))
  (hs:∀p,p<(xs.length+ys.length)*size->saf' b p) {cap:Nat} (hc:xs.length+ys.length<=cap):fF w' saf' (.slice .sh (xs++ys)) (.slice (some ⟨b,0,none⟩) (xs.length+ys.length) cap):=by
 have cr:∀(i k n:Nat),i<n->k<size->i*size+k<n*size:=by
  intro i k n hi hk;have:(i+1)*size<=n*size:=bd _ hi;rw[lV] at this;omega
 have cas:∀(i:Nat)(y:ag),(xs++ys)[i]?=some y->(i<xs.length/\xs[i]?=some y)\/(∃i',i=xs.length+i'/\ys[i']?=some y):=by
  grind
 refine .slice _ _ _ _ b 0 size (fun p=>if p<xs.length*size then ux p else uy (p-xs.length*size)) (by simp) hc (fun _=>rfl) (fun y hy'=>?_) (fun i y k c hi hk=>?_) (fun i y k c hi hk=>?_)
 ·rcases bS.1 hy' with h|h
  ·exact hwx y h
  ·exact hwy y h
 ·have hkl:=aF hk;rw[aP];rcases cas i y hi with ⟨hil,hxi⟩|⟨i',rfl,hyi⟩
  ·have hk':k<size:=by rw[<-hwx y (aQ hxi)]; omega
   have hp:=cr i k _ hil hk';refine⟨?_,hs _ (cr i k _ (by omega) hk')⟩
   rw[az hp,<-h1 _ hp];simp[World.cell?,harr]
  ·have hk':k<size:=by rw[<-hwy y (aQ hyi)]; exact hkl
   have hil:=aF hyi;have hp:=cr i' k _ hil hk';refine⟨?_,hs _ (cr _ k _ (by omega) hk')⟩
   have he:(xs.length+i')*size+k=xs.length*size+(i'*size+k):=by rw[bO]; omega
   rw[he,ak (by simp),iv,<-h2 _ hp]
   simp[World.cell?,harr]
 ·have hkl:=aF hk;rcases cas i y hi with ⟨hil,hxi⟩|⟨i',rfl,hyi⟩
  ·have hk':k<size:=by rw[<-hwx y (aQ hxi)]; exact hkl
   rw[az (cr i k _ hil hk')];exact hx i y k c hxi hk
  ·have he:(xs.length+i')*size+k=xs.length*size+(i'*size+k):=by rw[bO]; omega
   rw[he,ak (by simp),iv]
   grind
theorem qc{t t' e:TypeId}{d':TypeDesc}{v':Value}{i:TypeInfo}{zv:Value}(hs:P.underlying t=some (.slice e))(hs':P.underlying t'=some d')(hd':∀k,d' ≠ .int k)(hi:P.info? e=some i)(hz:i.zero=some zv)(hb0:0<i.bytes)(hb1:i.bytes<=2 ^ 20)
  (ty:TypeId) {bM:Option Addr} {n cap m:Nat} {uk new:Array Value} (eU:∀w':World,(Builtin.lenOf v').run P w' = .ok m w')
  (hold:∀w':World,w'.heap=w.heap->(Builtin.firstCells i.size n (.slice bM n cap)).run P w' = .ok uk w') (iq:∀w':World,w'.heap=w.heap->(Builtin.firstCells i.size m v').run P w' = .ok new w')
  (hroom:(n+m)*i.bytes<=2 ^ 44) :
  (n+m<=cap->∀w',(match bM with|some ad=>(storeCells (ad.add (n*i.size)) new.toList).run P w = .ok () w'|none=>w'=w)->(Builtin.append_ #[t,t'] ty #[.slice bM n cap,v']).run P w = .ok (.slice bM (n+m) cap) w') /\
  (cap<n+m->∃newCap rest,n+m<=newCap/\rest.size=(newCap-(n+m))*zv.cells.size /\
   (Builtin.append_ #[t,t'] ty #[.slice bM n cap,v']).run P w = .ok (.slice (some ⟨w.heap.size,0,none⟩) (n+m) newCap) { w with heap:=w.heap.push (.cells (uk++new++rest) e (0,0)),drawn:=w.drawn+1 }):=by
 have hsz:(sizeOf e).run P w = .ok i.size w:=ja (by grind [qo])
 refine⟨fun hle w' hst=>?_,fun cr=>?_⟩
 ·have h1:=iq w rfl;unfold Builtin.append_;simp only[List.getElem?_toArray,dU,dy,Sem.run_bind,dx hs,dx hs',Result.andThen_ok,hsz,Sem.run_pure];simp only[af,aw,eU,Result.andThen_ok,fS,aE,az hle,h1,Sem.run_bind];cases bM with
  |none=>simp_all
  |some ad=>simp_all
 ·have hcapb:¬Builtin.nextslicecap (n+m) cap*i.bytes>2 ^ 48:=by
   have h1:=C8 cr;have h2:Builtin.nextslicecap (n+m) cap*i.bytes<=(2*(n+m)+1000)*i.bytes:=bd _ h1
   grind
  let q:Question := .appendCap (n+m) cap e
  refine⟨q.cut (w.tape w.drawn q),Builtin.zeroCells zv.cells (q.cut (w.tape w.drawn q)-(n+m)),by grind [Question.cut],by simp[Builtin.zeroCells],?_⟩
  have h1:=hold w.drew rfl;have h2:=iq w.drew rfl;have hne:i.bytes≠0:=by omega
  have hqf:q.forced=false:=rfl;unfold Builtin.append_;simp only[List.getElem?_toArray,dU,dy,Sem.run_bind,dx hs,dx hs',Result.andThen_ok,hsz,Sem.run_pure];simp only[af,aw,eU,Result.andThen_ok,fS,aE,ak (Nat.not_le.2 cr),Sem.run_bind];simp[py hi,hne,hcapb,h1,h2,zeroValue,hz,newRow,q,Question.forced];rfl
theorem G2(hr:Rel j M w){c:Call}{y y':Operand}{t t' e:TypeId}{d':TypeDesc}{i:TypeInfo}{zv:Value}(hop:o.op = .call c)(hb:c.callee = .builtin .append)(ha:c.args.toList=[y,y'])
  (hat:c.argTypes = #[t,t']) (hs:P.underlying t=some (.slice e)) (hs':P.underlying t'=some d') (hd':∀k,d' ≠ .int k) (hi:P.info? e=some i) (hz:i.zero=some zv) (hzs:zv.cells.size=i.size) (hpos:0<i.size) (hb0:0<i.bytes) (hb1:i.bytes<=2 ^ 20)
  {tk:Tk} {xs ys:List ag} (r1:fV j M w (.slice tk xs) (a.eval y)) (eU:∀w':World,(Builtin.lenOf (a.eval y')).run P w' = .ok ys.length w') {uy:Nat->Value}
  (fy1:∀w':World,w'.heap=w.heap->(Builtin.firstCells i.size ys.length (a.eval y')).run P w' = .ok (((List.range (ys.length*i.size)).map uy).toArray) w')
  (fy2:∀(q:Nat)(y:ag)(k:Nat)(c:ag),ys[q]?=some y->y.cells[k]?=some c->fF w (nR j M w) c (uy (q*i.size+k)))
  (h:ct (dL (xs.length+ys.length) i.bytes/\wid xs i.size/\wid ys i.size) (
    match tk with
    | .c0=>match xs with|[]=>some (.slice (.own M.length) ys,M++[.tick i.size ys.length])|_=>none
    | .own k=>match nth M k with
     |some (.tick sz' n)=>ct (sz'=i.size/\n=xs.length) (some (.slice (.own k) (xs++ys),jZ M k (.tick i.size (xs.length+ys.length))))
     |_=>none
    | .sh=>none)=some x):∃v w' j',qQ P o a w v w'/\Rel j' x.2 w'/\Ext j M w j' x.2 w'/\fV j' x.2 w' x.1 v/\(ys=[]->v=a.eval y/\∀k,tk = .own k->j'=j)/\∀k b',tk = .own k->j' k=some b'->j k=some b'\/∃vs,w'.heap[b']?=some (.cells vs e (0,0)):=by
 obtain⟨⟨hroom,hwx,hwy⟩,h9⟩:=db h;clear h;have h:=h9;clear h9;have p1:=r1.dD;obtain⟨ux,fx1,fx2,fx3⟩:=D8 (P:=P) p1 hwx hpos;obtain⟨bM,cap,_,_,_,_,hv,hcap,_⟩:=p1.dD;have ha':c.args = #[y,y']:=by rw[<-ha]
 have hexec:∀r,(Builtin.append_ #[t,t'] o.type #[a.eval y,a.eval y']).run P w=r->(execOp a.eval o).run P w=r.andThen fun v w' => .ok (.value v) w':=by
  intro r hr';simp[execOp,hop,resolve,hb,invoke,builtin,ha',hat,hr']
 rw[hv] at fx1;obtain⟨A1,A2⟩:=qc (P:=P) (w:=w) hs hs' hd' hi hz hb0 hb1 o.type (bM:=bM) (n:=xs.length) (cap:=cap) (m:=ys.length) eU fx1 fy1 hroom;rw[<-hv] at A1 A2
 -- nothing is appended
 have nil:ys=[]->∃v,(execOp a.eval o).run P w = .ok (.value v) w/\v=a.eval y:=by
  intro hy;subst hy;refine⟨_,?_,rfl⟩
  have:=A1 (by simp; exact hcap) w (by
   cases bM with
   |none=>rfl
   |some ad=>simp[storeCells])
  rw[hexec _ this];simp[hv]
 -- a new block
 have fresh:cap<xs.length+ys.length->∃newCap arr w',xs.length+ys.length<=newCap/\(execOp a.eval o).run P w = .ok (.value (.slice (some ⟨w.heap.size,0,none⟩) (xs.length+ys.length) newCap)) w' /\
   Quiet w w'/\(∀b,b<w.heap.size->w'.heap[b]?=w.heap[b]?)/\w'.heap[w.heap.size]?=some (.cells arr e (0,0))/\newCap*i.size<=arr.size /\
   (∀p,p<xs.length*i.size->arr[p]?=some (ux p))/\∀p,p<ys.length*i.size->arr[xs.length*i.size+p]?=some (uy p):=by
  intro cr;obtain⟨newCap,rest,h1,h2,h3⟩:=A2 cr;obtain⟨q,hbk,iq⟩:=pH (w:=w) (.cells (((List.range (xs.length*i.size)).map ux).toArray++((List.range (ys.length*i.size)).map uy).toArray++rest) e (0,0));refine⟨newCap,_,{ w with heap:=w.heap.push (.cells (((List.range (xs.length*i.size)).map ux).toArray++((List.range (ys.length*i.size)).map uy).toArray++rest) e (0,0)),drawn:=w.drawn+1 },h1,(hexec _ h3).trans rfl,⟨q.size,rfl,rfl,rfl⟩,hbk,iq,?_,fun p hp=>?_,fun p hp=>?_⟩
  ·simp only[fQ,cH,aH,ku,h2,hzs];rw[<-bO,<-bO];exact bd _ (by omega)
  ·rw[Array.append_assoc,cp (by simpa using hp)]
   simp[hp]
  ·rw[Array.append_assoc,Array.getElem?_append_right (by simp),cp (by simp; omega)]
   simp[hp]
 split at h
 ·-- c0
  split at h
  ·cases h;simp only[aG,aP] at *
   have hc0:cap=0:=by
    obtain⟨A',hA'⟩:=r1.Cj;rw[hv] at hA';injection hA'
   by_cases hy:ys=[]
   ·subst hy;obtain⟨v,h1,h2⟩:=nil rfl;have q:Quiet w w:=⟨ar _,rfl,rfl,rfl⟩;refine⟨v,w,gv j M.length none,.inl h1,hr.push (ob:=none) (fun b h=>by cases h) q (fun _ _=>rfl) (fun h=>by cases h) (fun sz n b h h'=>by cases h'),Ext.push (fun b h=>by cases h) q (fun _ _=>rfl),?_,fun _=>⟨h2,fun _ h=>by cases h⟩,fun _ _ h=>by cases h⟩
    rw[h2,hv,hc0];exact .own (sz:=i.size) (n:=0) (by simp) (by simp) (fF.nil _ _ _) fun _ => .inl ⟨by simp[gv],rfl,bM,rfl⟩
   ·have hyl:0<ys.length:=iI.2 hy;obtain⟨newCap,arr,w',g1,g2,g3,g4,g5,g6,g7,g8⟩:=fresh (by omega)
    have hob:∀b,some w.heap.size=some b->w.heap.size<=b/\b<w'.heap.size:=fun b hb=>by
     cases hb; exact⟨ar _,lt_of_block g5⟩
    have ext:Ext j M w (gv j M.length (some w.heap.size)) (M++[.tick i.size ys.length]) w':=Ext.push (fun b hb=>(hob b hb).1) g3 g4
    refine⟨_,w',gv j M.length (some w.heap.size),.inl g2,hr.push hob g3 g4 (fun h=>by cases h) (fun sz n b _ hb=>by grind),ext,?_,fun h=>absurd h hy,fun _ _ h=>by cases h⟩
    have hsaf:∀p,p<(0+ys.length)*i.size->nR (gv j M.length (some w.heap.size)) (M++[.tick i.size ys.length]) w' w.heap.size p:=by
     intro p hp;refine⟨lt_of_block g5,fun id hid hj=>?_,fun hx=>absurd (hr.zG _ _ hx) (iK _)⟩
     by_cases hid':id=M.length
     ·subst hid'; exact⟨i.size,ys.length,by simp,by simpa using hp⟩
     ·have:=hr.lt id w.heap.size (by simp at hid; omega) (by simpa[gv,hid'] using hj)
      omega
    have hj:=fF.join (xs:=[]) (ys:=ys) (w':=w') hwx hwy hpos (ux:=ux) (uy:=uy) (fun i y k c h=>by simp at h) (fun i y k c h1 h2=>(fy2 i y k c h1 h2).mono ext.gX) g5 (fun p hp=>by simp at hp) (fun p hp=>by simpa using g8 p hp) hsaf (cap:=newCap) (by simpa using g1)
    simp only[aX,aG,aP] at hj;exact .own (sz:=i.size) (n:=ys.length) (by simp) (ar _) hj fun _ => .inr ⟨w.heap.size,newCap,arr,e,by simp[gv],rfl,g5,g6,g1⟩
  ·cases h
 ·-- own
  rename_i k;rw[eJ] at h;split at h
  ·rename_i sz' n' hMk;obtain⟨⟨e1,e2⟩,hx⟩:=db h;subst e1;subst e2;injection hx with hx
   subst hx;rw[fN];obtain⟨sz0,n0,hk,hn,hrp,ht⟩:=r1.WY
   ·rw[hMk] at hk;injection hk with hk; injection hk with e1 e2
    subst e1; subst e2
    by_cases hy:ys=[]
    ·subst hy;obtain⟨v,h1,h2⟩:=nil rfl
     have hset:M.set k (.tick i.size (xs.length+([]:List ag).length))=M:=by
      apply cN
      grind
     rw[h2] at h1;rw[hset,bV];exact⟨a.eval y,w,j,.inl h1,hr,Ext.refl j M w,r1,fun _=>⟨rfl,fun _ _=>rfl⟩,fun _ _ _ h => .inl h⟩
    ·have hyl:0<ys.length:=iI.2 hy
     have moved:cap<xs.length+ys.length->∃v w' j',qQ P o a w v w'/\Rel j' (M.set k (.tick i.size (xs.length+ys.length))) w'/\Ext j M w j' (M.set k (.tick i.size (xs.length+ys.length))) w'/\fV j' (M.set k (.tick i.size (xs.length+ys.length))) w' (.slice (.own k) (xs++ys)) v/\(ys=[]->v=a.eval y/\∀k',Tk.own k = .own k'->j'=j)/\∀k' b',Tk.own k = .own k'->j' k'=some b'->j k'=some b'\/∃vs,w'.heap[b']?=some (.cells vs e (0,0)):=by
      intro cr;obtain⟨newCap,arr,w',g1,g2,g3,g4,g5,g6,g7,g8⟩:=fresh cr;have ext:Ext j M w (gv j k (some w.heap.size)) (M.set k (.tick i.size (xs.length+ys.length))) w':=Ext.BV hMk g3 g4 (ar _) (by omega)
      refine⟨_,w',gv j k (some w.heap.size),.inl g2,Rel.BV hMk hr g3 g4 (ar _) g5 (by omega),ext,?_,fun h=>absurd h hy,fun k' b' hk' hb' => .inr ⟨arr,(by grind [gv])⟩⟩
      have hsaf:∀p,p<(xs.length+ys.length)*i.size->nR (gv j k (some w.heap.size)) (M.set k (.tick i.size (xs.length+ys.length))) w' w.heap.size p:=by
       intro p hp;refine⟨lt_of_block g5,fun id hid hj=>?_,fun hx=>absurd (hr.zG _ _ hx) (iK _)⟩
       by_cases hid':id=k
       ·subst hid'; exact⟨i.size,_,dC (aF hMk),hp⟩
       ·have:=hr.lt id w.heap.size (by simpa using hid) (by simpa[gv,hid'] using hj)
        omega
      have hj:=fF.join (w':=w') hwx hwy hpos (ux:=ux) (uy:=uy) (fun i y k c h1 h2=>(fx2 i y k c h1 h2).mono ext.gX) (fun i y k c h1 h2=>(fy2 i y k c h1 h2).mono ext.gX) g5 g7 g8 hsaf (cap:=newCap) g1
      exact .own (sz:=i.size) (n:=xs.length+ys.length) (dC (aF hMk)) (by simp) hj fun _ => .inr ⟨w.heap.size,newCap,arr,e,by simp[gv],rfl,g5,g6,g1⟩
     rcases ht rfl with ⟨_,hn0,A',hA'⟩|⟨b,cap0,vs,t0,hj,hv0,hw0,hsz0,hcap0⟩
     ·rw[hv] at hA';injection hA' with _ _ e3
      exact moved (by omega)
     ·have hvv:=hv.symm.trans hv0;injection hvv with e1 e2 e3
      subst e1; subst e3
      by_cases hfit:xs.length+ys.length<=cap
      ·have iq:(((List.range (ys.length*i.size)).map uy).toArray).toList.length=ys.length*i.size:=by simp
       have hle:xs.length*i.size+ys.length*i.size<=vs.size:=by
        rw[<-bO];exact bh (bd _ hfit) hsz0
       have hone:∀v,v∈(((List.range (ys.length*i.size)).map uy).toArray).toList->v.oneCell'=true:=by
        intro v hv;simp only[bR,fx] at hv;obtain⟨p,hp,rfl⟩:=hv;have hd:p / i.size<ys.length:=(kh hpos).2 hp;have hm:p % i.size<i.size:=iE _ hpos;have hcl:=hwy _ (jI hd);have:=fy2 (p / i.size) _ (p % i.size) _ (aj hd) (aj (by omega))
        rw[Nat.div_add_mod'] at this;exact this.one
       have hst:=mP (P:=P) (((List.range (ys.length*i.size)).map uy).toArray).toList w (xs.length*i.size) 0 vs hw0 (by rw[iq]; omega) hone
       rw[cS] at hst;obtain⟨s1,s2,s3,s4,s5,vs',s6,s7,s8,s9⟩:=lu (((List.range (ys.length*i.size)).map uy).toArray).toList w (xs.length*i.size) vs hw0 (by rw[iq]; omega)
       have hrun:=A1 hfit _ (by
        show(storeCells ((⟨b,0,none⟩:Addr).add (xs.length*i.size)) _).run P w=_
        rw[ly,aP];exact hst)
       have q:Quiet w (oQ w b (xs.length*i.size) (((List.range (ys.length*i.size)).map uy).toArray).toList):=⟨by omega,s2,s3,s4⟩
       have hkeep:∀p,p<xs.length*i.size->vs'[p]?=vs[p]?:=fun p hp=>s8 p (.inl hp)
       have ext:Ext j M w j (M.set k (.tick i.size (xs.length+ys.length))) (oQ w b (xs.length*i.size) (((List.range (ys.length*i.size)).map uy).toArray).toList) :=
        Ext.Gy hMk hj hr q (fun b' hb' _=>s5 b' hb') hw0 s6 s7 hkeep (by omega)
       refine⟨_,_,j,.inl ((hexec _ hrun).trans rfl),Rel.Gy hMk hj hr q (fun b' hb' _=>s5 b' hb') hw0 s6 s7 hkeep (by omega),ext,?_,fun h=>absurd h hy,fun _ _ _ h => .inl h⟩
       have hsaf:∀p,p<(xs.length+ys.length)*i.size->nR j (M.set k (.tick i.size (xs.length+ys.length))) (oQ w b (xs.length*i.size) (((List.range (ys.length*i.size)).map uy).toArray).toList) b p:=by
        intro p hp;refine⟨lt_of_block s6,fun id hid hj'=>?_,hr.uC k b (aF hMk) hj p⟩
        have:id=k:=hr.inj id k b (by simpa using hid) (aF hMk) hj' hj
        subst this;exact⟨i.size,_,dC (aF hMk),hp⟩
       have hjn:=fF.join hwx hwy hpos (ux:=ux) (uy:=uy) (fun i y k c h1 h2=>(fx2 i y k c h1 h2).mono ext.gX) (fun i y k c h1 h2=>(fy2 i y k c h1 h2).mono ext.gX) s6 (fun p hp=>by
        rw[hkeep p hp];have:=fx3 b ⟨_,_,hv⟩ p hp;simpa[World.cell?,hw0] using this) (fun p hp=>by
        rw[s9 p (by rw[iq]; exact hp)]
        simp[hp]) hsaf (cap:=cap) hfit
       exact .own (sz:=i.size) (n:=xs.length+ys.length) (dC (aF hMk)) (by simp) hjn fun _ => .inr ⟨b,cap,vs',t0,hj,rfl,s6,by omega,hfit⟩
      ·exact moved (by omega)
  ·cases h
 ·cases h
theorem KF(hr:Rel j M w)(he:cu j M w br a){c:Call}{y y':Operand}{z z':gM}{t t' e e':TypeId}{i:TypeInfo}{zv:Value}(hop:o.op = .call c)(hb:c.callee = .builtin .append)(ha:c.args.toList=[y,y'])
  (hat:c.argTypes = #[t,t']) (hs:P.underlying t=some (.slice e)) (hs':P.underlying t'=some (.slice e')) (hi:P.info? e=some i) (hz:i.zero=some zv) (hzs:zv.cells.size=i.size) (hpos:0<i.size) (hb0:0<i.bytes) (hb1:i.bytes<=2 ^ 20)
  (hzy:dZ y=some z) (hzy':dZ y'=some z') (h:dW C br M (.append i.size i.bytes z z')=some x) (hna:∀id ver sz lo hi,z.ev br ≠ .dg id ver sz lo hi):∃v w',qQ P o a w v w'/\iG j M w x v w':=by
 simp[dW] at h;have r1:=cF he hzy;have r2:=cF he hzy';split at h
 ·rename_i tk xs tk' ys ez ez';obtain⟨⟨_,hwx,hwy⟩,_⟩:=db h;rw[ez] at r1;rw[ez'] at r2;have p2:=r2.dD;obtain⟨uy,fy1,fy2,_⟩:=D8 p2 hwy hpos;obtain⟨A,cap',_,_,_,_,hv',_⟩:=p2.dD;obtain⟨v,w',j',q1,q2,q3,q4,_⟩:=G2 hr hop hb ha hat hs hs' (fun k h=>by cases h) hi hz hzs hpos hb0 hb1 r1 (fun w'=>by rw[hv']; rfl) fy1 fy2 h
  exact⟨v,w',q1,j',q2,q3,q4⟩
 ·grind
 grind
end
section
variable {P:Program} {C:eL} {o:Oper} {br:Env} {M:aK} {j:J} {w:World} {a:Act} {x:ag×aK}
def J3 {f:Field} {k:FK} (h:PZ P f=some k):f.name ≠ "_" /\ BA P f.type=some false/\(match k with | .b=>P.underlying f.type=some .bool | .i=>∃q,P.underlying f.type=some (.int q) | .s=>P.underlying f.type=some .string):=by
 unfold PZ at h;split at h
 ·cases h
 ·rename_i hn;refine⟨hn,?_⟩
  split at h<;>first
   |(cases h; rename_i hu; exact⟨by simp[BA,hu],by first|exact hu|exact⟨_,hu⟩⟩)
   |cases h
def JY{d:Nat}{f:Field}{k:FK}(hf:PZ P f=some k){y z:ag}{u v:Value}(hu:fV j M w y u)(hv:fV j M w z v){e:Bool}(h:ig k y z=some e) :
  (Op.equalIn (d+1) f.type u v).run P w = .ok e w:=by
 have hk:=(J3 hf).2.2;unfold ig at h;split at h
 ·rename_i k1 a k2 b;obtain⟨q,hq⟩:=hk;split at h
  ·rename_i he;subst he;cases h;rw[hu.fM,hv.fM];exact run_equalIn_int w d f.type _ _ a b hq
  ·cases h
 ·rename_i a b;cases h;rw[hu.jU,hv.jU,run_equalIn_string w d f.type _ _ hk,uG,uG]
 ·rename_i a b;cases h;rw[hu.iY,hv.iY];exact run_equalIn_bool' w d f.type a b hk
 ·cases h
def zc{d:Nat}{cs ds:List ag}{us vs:Array Value}(hc:RC j M w cs us)(hd:RC j M w ds vs):∀ {l:List Field} {k:Nat} {ks:List FK} {e:Bool},A9 P k l=some ks->kK ks (cs.drop k) (ds.drop k)=some e ->
  (Op.eqFields (d+1) us vs l).run P w = .ok e w
 | [],k,ks,e,h1,h2=>by
  simp[A9] at h1; subst h1;unfold kK at h2;split at h2<;>simp_all [Op.eqFields]
 |f::r,k,ks,e,h1,h2=>by
  simp only[A9] at h1;split at h1
  ·rename_i hoff;obtain⟨q,hq,h1⟩:=a8 h1;obtain⟨qs,hqs,h1⟩:=a8 h1;cases h1
   have hk1:k<cs.length:=by
    rcases bG k cs.length with h|h
    ·exact h
    ·rw[iL h] at h2; simp[kK] at h2
   have hk2:k<ds.length:=by
    rcases bG k ds.length with h|h
    ·exact h
    ·rw[iL h] at h2;rw[cB hk1] at h2;simp[kK] at h2
   rw[cB hk1,cB hk2] at h2;simp only[kK] at h2;obtain⟨e1,he1,h2⟩:=bn h2;obtain⟨e2,he2,h2⟩:=bn h2;cases h2;have hlu:k<us.size:=by have:=hc.1; omega
   have hlv:k<vs.size:=by have:=hd.1; omega
   have hu:=ba hlu;have hv:=ba hlv;have ih:=zc (d:=d) hc hd hqs he2;obtain⟨hn,hag,_⟩:=J3 hq;have p1:(part f.type us f.offset).run P w = .ok us[k] w:=by simp[part,kN hag,hoff,hu]
   have p2:(part f.type vs f.offset).run P w = .ok vs[k] w:=by simp[part,kN hag,hoff,hv]
   have p3:=JY (d:=d) hq (hc.2 k _ _ (aj hk1) hu) (hd.2 k _ _ (aj hk2) hv) he1;simp only[Op.eqFields,az hn,Sem.run_bind,p1,p2,p3,Result.andThen_ok];cases e1
   ·simp
   ·simpa using ih
  ·cases h1
def Lv:∀ {l:List Field} {k:Nat} {ks:List FK},A9 P k l=some ks->∀f,f∈l->∃q,PZ P f=some q
 | [],_,_,_,f,hf=>by simp at hf
 |g::r,k,ks,h,f,hf=>by
  simp only[A9] at h;split at h
  ·obtain⟨q,hq,h⟩:=a8 h;obtain⟨qs,hqs,h⟩:=a8 h;rcases bb.1 hf with rfl|hf
   ·exact⟨q,hq⟩
   ·exact Lv hqs f hf
  ·cases h
def Th(hr:Rel j M w)(he:cu j M w br a){neg:Bool}{y y':Operand}{z z':gM}{t t':TypeId}{fs:Array Field}{ks:List FK}(hop:o.op = .binOp (if neg then .neq else .eql) t y y' t')(ht:P.underlying t=some (.struct fs))
  (hst:P.stoodInHeld t=false) (hks:A9 P 0 fs.toList=some ks) (hz:dZ y=some z) (hz':dZ y'=some z') (h:dW C br M (.XK ks neg z z')=some x):∃v w',qQ P o a w v w'/\iG j M w x v w':=by
 simp only[dW] at h;have h1:=cF he hz;have h2:=cF he hz';split at h
 ·rename_i cs ds ez ez';obtain⟨e,hee,h⟩:=bn h;cases h;rw[ez] at h1;rw[ez'] at h2;obtain⟨us,hus,hul,huc⟩:=h1.lY;obtain⟨vs,hvs,hvl,hvc⟩:=h2.lY;have hfs:P.fieldsOf t=fs:=by simp[Program.fieldsOf,ht]
  have heq:(Op.equal t (.agg us) (.agg vs)).run P w = .ok e w:=by
   unfold Op.equal;rw[show Op.maxDepth=9999+1 from rfl,run_equalIn_struct w 9999 t us vs (by rw[hfs]; exact ht) hst,hfs]
   exact zc (d:=9998) ⟨hul,huc⟩ ⟨hvl,hvc⟩ hks (by simpa using hee)
  have hgt:P.eqGuardType P.depth t=false:=by
   unfold Program.depth;rw[show 2*(P.types.size+Made.depth)+2=(2*(P.types.size+Made.depth)+1)+1 from rfl,Program.eqGuardType,ht]
   simp only;rw[Array.any_eq_false];intro i hi;obtain⟨q,hq⟩:=Lv hks fs[i] (by simp)
   have:=(J3 hq).2.2;simp only[Program.eqGuardType];cases q<;>simp only at this
   ·obtain⟨_,hu⟩:=this; simp[hu]
   ·simp[this]
   ·simp[this]
  have hguard:∀op,(eqGuard op t y y' (.agg us) (.agg vs)).run P w = .ok () w:=by
   intro op;unfold eqGuard;cases op<;>simp[hgt]
  cases neg
  ·exact⟨.bool e,w,.inl (by simp[execOp,hop,hus,hvs,hguard,binOp,heq]),.still hr (.plain (.bool _))⟩
  ·exact⟨.bool (!e),w,.inl (by simp[execOp,hop,hus,hvs,hguard,binOp,heq]),.still hr (.plain (.bool _))⟩
 ·cases h
end
end
end
section
open Go Go.RowKit
variable [kd]
section
variable {j:J} {M:aK} {w w':World}
def AE(hr:Rel j M w):∀n,∃j',Rel j' (M++List.replicate n cA.vm) w/\Ext j M w j' (M++List.replicate n cA.vm) w
 |0=>⟨j,by simpa using hr,by simpa using Ext.refl j M w⟩
 |n+1=>by
  obtain⟨j',h1,h2⟩:=AE hr n;have q:Quiet w w:=⟨ar _,rfl,rfl,rfl⟩;refine⟨gv j' (M++List.replicate n cA.vm).length none,?_⟩;rw[nu,<-cZ];exact⟨h1.push (ob:=none) (bx := .vm) (fun b h=>by cases h) q (fun _ _=>rfl) (fun h=>by cases h) (fun sz n b h h'=>by cases h'),h2.trans (Ext.push (fun b h=>by cases h) q (fun _ _=>rfl))⟩
def Ext.fill{p b:Nat}{cs:List ag}(hM:M[p]?=some .vm)(hob:w.heap.size<=b)(q:Quiet w w')(hb:∀b,b<w.heap.size->w'.heap[b]?=w.heap[b]?) :
  Ext j M w (gv j p (some b)) (M.set p (.cells cs)) w' where
 len:=by simp
 size:=q.size
 os:=q.os
 tape:=q.tape
 output:=q.output
 X:=rfl
 fix:=fun i bx h hf=>by
  have e:p≠i:=by rintro rfl; rw[hM] at h; cases h; cases hf
  exact⟨by simp[gv,dA e],bx,by rw[cC e]; exact h,rfl⟩
 tick:=fun i sz n h=>by
  have e:p≠i:=by rintro rfl; rw[hM] at h; cases h
  exact⟨n,ar _,by rw[cC e]; exact h,fun _=>⟨by simp[gv,dA e],fun b vs t _ hv=>⟨vs,(hb b (lt_of_block hv)).trans hv,rfl⟩⟩⟩
 arr:=fun i sz v xs h=>by
  have e:p≠i:=by rintro rfl; rw[hM] at h; cases h
  exact .inr ⟨v,xs,by rw[cC e]; exact h,ar _,fun _=>⟨by simp[gv,dA e],rfl,fun b vs t _ hv=>⟨vs,(hb b (lt_of_block hv)).trans hv,rfl⟩⟩⟩
 tags:=fun b0 vs0 t0 fr0 h=>⟨vs0,fr0,(hb b0 (lt_of_block h)).trans h,rfl⟩
 gX:=fun b0 off h=>by
  refine⟨⟨bp h.1 q.size,fun id hid hj=>?_,h.3⟩,World.cell?_of_block (w:=w) (hb b0 h.1)⟩
  by_cases he:id=p
  ·have:b=b0:=by simpa[gv,he] using hj
   have:=h.1;omega
  ·rw[cC (dA he)];exact h.2 id (by simpa using hid) (by simpa[gv,he] using hj)
 uk:=fun b0 cr h=>by
  refine⟨hb b0 cr,fun i hi hj=>?_⟩
  by_cases he:i=p
  ·have:b=b0:=by simpa[gv,he] using hj
   omega
  ·exact h i (by simpa using hi) (by simpa[gv,he] using hj)
def Rel.fill(hr:Rel j M w){p b:Nat}{cs:List ag}(hM:M[p]?=some .vm)(hob:w.heap.size<=b)(hbl:b<w'.heap.size)(q:Quiet w w')(hb:∀b,b<w.heap.size->w'.heap[b]?=w.heap[b]?)
  (hbox:∀j' M',Ext j M w j' M' w'->Holds j' M' w' b (.cells cs)):Rel (gv j p (some b)) (M.set p (.cells cs)) w':=by
 have ext:Ext j M w (gv j p (some b)) (M.set p (.cells cs)) w':=Ext.fill hM hob q hb;have up:∀i,i≠p->gv j p (some b) i=j i:=fun i hi=>by simp[gv,hi]
 have hp:=aF hM;refine⟨fun i i' b0 hi hi' h h'=>?_,fun i b0 hi h=>?_,fun i bx' h hf=>?_,fun i sz n b0 h hj=>?_,fun i sz ver xs h=>?_,fun i b0 hi h off hx=>?_,fun b off h=>bp (hr.zG b off h) q.size⟩
 ·simp only[ec] at hi hi'
  by_cases e:i=p<;>by_cases e':i'=p
  ·omega
  ·have h1:b=b0:=by simpa[gv,e] using h
   rw[up i' e'] at h';have:=hr.lt i' b0 hi' h';omega
  ·have h1:b=b0:=by simpa[gv,e'] using h'
   rw[up i e] at h;have:=hr.lt i b0 hi h;omega
  ·rw[up i e] at h;rw[up i' e'] at h';exact hr.inj i i' b0 hi hi' h h'
 ·simp only[ec] at hi
  by_cases e:i=p
  ·have h1:b=b0:=by simpa[gv,e] using h
   omega
  ·rw[up i e] at h;exact bp (hr.lt i b0 hi h) q.size
 ·by_cases e:i=p
  ·subst e;rw[dC hp] at h;cases h;exact⟨b,by simp[gv],hbox _ _ ext⟩
  ·rw[cC (dA e)] at h;obtain⟨b0,h1,h2⟩:=hr.fix i bx' h hf;exact⟨b0,by rw[up i e]; exact h1,h2.mono ext (hb b0 (hr.lt i b0 (aF h) h1))⟩
 ·by_cases e:i=p
  ·subst e; rw[dC hp] at h; cases h
  ·rw[cC (dA e)] at h;rw[up i e] at hj;obtain⟨vs,t,h1⟩:=hr.tick i sz n b0 h hj;exact⟨vs,t,(hb b0 (lt_of_block h1)).trans h1⟩
 ·by_cases e:i=p
  ·subst e; rw[dC hp] at h; cases h
  ·rw[cC (dA e)] at h;exact pR hr ext h (up i e) fun b0 h1=>hb b0 (hr.lt i b0 (aF h) h1)
 ·simp only[ec] at hi
  by_cases e:i=p
  ·have h1:b=b0:=by simpa[gv,e] using h
   have h2:=hr.zG b0 off hx;omega
  ·rw[up i e] at h;exact hr.uC i b0 hi h off hx
def Hp(hr:Rel j M w){p:Nat}(hM:M[p]?=some .vm){cs:List ag}{vs:Array Value}(hc:RC j M w cs vs)(t:TypeId) :
  iG j M w (.ptr p 0,M.set p (.cells cs)) (.pointer (some ⟨w.heap.size,0,none⟩)) { w with heap:=w.heap.push (.cells vs t (0,0)) }:=by
 have q:Quiet w { w with heap:=w.heap.push (.cells vs t (0,0)) }:=⟨by simp,rfl,rfl,rfl⟩
 have hb:∀b,b<w.heap.size->({ w with heap:=w.heap.push (.cells vs t (0,0)) }:World).heap[b]?=w.heap[b]?:=fun b hb=>by
  show(w.heap.push _)[b]?=_
  rw[fI,ak (by omega)]
 have hn:({ w with heap:=w.heap.push (.cells vs t (0,0)) }:World).heap[w.heap.size]?=some (.cells vs t (0,0)):=by simp
 have hp:=aF hM;exact⟨gv j p (some w.heap.size),hr.fill hM (ar _) (by simp) q hb (fun j' M' hx=>⟨vs,t,hn,hc.1,fun i c v h1 h2=>(hc.2 i c v h1 h2).mono hx⟩),Ext.fill hM (ar _) q hb,.ptr (by simpa using hp) ⟨cs,dC hp⟩ (by simp[gv])⟩
end
variable {P:Program} {own:List Nat} {o:Oper}
def MN{l:List ag}{t:TypeId}(hop:o.op = .alloc t)(h:MY P own o=some (.sO l)):∃i zv,P.info? t=some i/\i.zero=some zv/\sM zv.cells.toList=some l:=by
 simp only[MY,hop] at h;obtain⟨i,hi,h⟩:=a8 h;obtain⟨z,hz,h⟩:=a8 h;obtain⟨l',hl,h⟩:=a8 h;split at h
 ·split at h
  ·split at h
   ·obtain⟨n,hn,h⟩:=a8 h;cases h
   ·cases h
  ·injection h with h; cases h; exact⟨i,z,hi,hz,hl⟩
 ·injection h with h; cases h; exact⟨i,z,hi,hz,hl⟩
def MO{l:List ag}{t0:TypeId}(hop:o.op = .alloc t0)(h:MY P own o=some (.sO l))(a:Act)(w:World):∃vs t,(∀j M w',RC j M w' l vs)/\qQ P o a w (.pointer (some ⟨w.heap.size,0,none⟩)) { w with heap:=w.heap.push (.cells vs t (0,0)) }:=by
 obtain⟨i,zv,hi,hz,hl⟩:=MN hop h;refine⟨zv.cells,t0,fun j M w'=>?_,.inl (by simp[execOp,hop,Instr.alloc,zeroValue,py hi,hz,newVar,newRow])⟩
 obtain⟨h1,h2⟩:=pQ (j:=j) (M:=M) (w:=w') hl;exact⟨by simpa using h1,fun i c v hc hv=>h2 i c v hc (by simpa using hv)⟩
end
section
open Go Go.RowKit
variable [kd]
theorem yz{x:Nat}:∀(l a:List Nat),x∈lP a l↔x∈a\/x∈l
 | [],a=>by simp[lP]
 |y::r,a=>by
  rw[lP,yz r]
  grind
theorem rh:∀(l a:List Nat),a.Nodup->(lP a l).Nodup
 | [],a,h=>h
 |y::r,a,h=>by
  refine rh r _ ?_
  grind
def Iv(M:aK)(l:List Nat):(reach M l).Nodup:=rh _ _ (rh _ _ (rh _ _ (rh _ _ kG)))
def N1{M:aK}{l:List Nat}{x:Nat}(h:x∈l):x∈reach M l:=by
 simp_all [reach,lR,yz]
theorem EH{M:aK}{x i:Nat}{b:cA}:∀ {l:List Nat},i∈l->M[i]?=some b->x∈b.ids->x∈sL M l
 | [],h,_,_=>by grind
 |k::r,h,hb,hx=>by
  rw[sL,bS];rcases bb.1 h with rfl|h
  ·grind [eJ]
  ·exact .inr (EH h hb hx)
theorem M9{M:aK}{ids:List Nat}(h:lR M ids=ids){i x:Nat}{b:cA}(hi:i∈ids)(hb:M[i]?=some b)(hx:x∈b.ids):x∈ids:=by
 rw[<-h,lR,yz]
 grind [EH]
theorem tH:∀ {ids:List Nat} {x:Nat},x∈ids->ids[iC ids x]?=some x
 | [],_,h=>by grind
 |a::l,x,h=>by
  rw[iC];split
  ·grind
  ·rcases bb.1 h with rfl|h
   ·omega
   ·simpa using tH h
def uf{ids:List Nat}{x:Nat}(h:x∈ids):iC ids x<ids.length:=aF (tH h)
theorem BN:∀ {ids:List Nat} {i x:Nat},ids.Nodup->ids[i]?=some x->iC ids x=i
 | [],i,x,_,h=>by grind
 |a::l,i,x,hn,h=>by
  rw[iC];have hn':=gW.1 hn;cases i with
  |zero=>grind
  |succ i =>
   have h':l[i]?=some x:=by grind
   rw[ak (by grind),BN hn'.2 h']
def Lg{ids:List Nat}{x:Nat}(h:x∈ids):xg ids (iC ids x)=x:=by rw[xg,eJ,tH h]; rfl
def ZX{ids:List Nat}{i x:Nat}(h:ids[i]?=some x):xg ids i=x:=by rw[xg,eJ,h]; rfl
theorem Dg{M:aK}{ρ:Nat->Nat}:∀ {l:List Nat} {B:aK},ke M ρ l=some B->B.length=l.length/\∀(i id:Nat),l[i]?=some id->∃b,M[id]?=some b/\b.flat=true/\B[i]?=some (b.rn ρ)
 | [],B,h=>by grind [ke]
 |k::r,B,h=>by
  simp[ke,eJ] at h;split at h
  ·split at h
   ·obtain⟨l,hl,h⟩:=bn h;injection h with h; obtain⟨h1,h2⟩:=Dg hl
    grind
   grind
  grind
theorem vJ{ids:List Nat}:∀ {l:List Nat} {B M:aK},l.Nodup->l.length=B.length->(mw ids M l B).length=M.length/\(∀i,i∉l->(mw ids M l B)[i]?=M[i]?) /\
  ∀(i id:Nat)(b:cA),l[i]?=some id->id<M.length->B[i]?=some b->(mw ids M l B)[id]?=some (b.rn (xg ids))
 | [],B,M,_,_=>by simp[mw]
 |k::r,[],M,_,hl=>by simp at hl
 |k::r,b::B,M,hn,hl=>by
  rw[mw,fN];have hn':=gW.1 hn;obtain⟨h1,h2,h3⟩:=vJ (ids:=ids) (B:=B) (M:=M.set k (b.rn (xg ids))) hn'.2 (by grind)
  grind
def Mt(ρ:Nat->Nat)(b:cA):(b.rn ρ).tag=b.tag:=by cases b<;>rfl
def xB{ρ:Nat->Nat}{b:cA}(h:b.loose=true):b.rn ρ=b:=by cases b<;>first|rfl|cases h
structure Sub(j:J)(M:aK)(w:World)(ids:List Nat)(B:aK):Prop where
 nodup:ids.Nodup
 len:B.length=ids.length
 box:∀(i id:Nat),ids[i]?=some id->∃b,M[id]?=some b/\b.flat=true/\B[i]?=some (b.rn (iC ids))
 closed:∀(i:Nat)(b:cA),i∈ids->M[i]?=some b->∀x,x∈b.ids->x∈ids
def down(j:J)(M:aK)(ids:List Nat):J:=⟨fun i=>match ids[i]? with|some id=>j id|none=>none,fun b off=>j.X b off\/∃id,id<M.length/\id∉ids/\j id=some b/\¬ ∃sz n,M[id]?=some (.tick sz n)/\off<n*sz⟩
section
variable {j:J} {M B:aK} {w:World} {ids:List Nat}
theorem Sub.at_(s:Sub j M w ids B){id:Nat}(h:id∈ids){b:cA}(hb:M[id]?=some b):B[iC ids id]?=some (b.rn (iC ids)):=by
 obtain⟨b',h1,_,h2⟩:=s.box _ _ (tH h)
 grind
theorem Sub.inv(s:Sub j M w ids B){i:Nat}{c:cA}(h:B[i]?=some c):∃id b,ids[i]?=some id/\M[id]?=some b/\b.flat=true/\c=b.rn (iC ids):=by
 have hi:i<ids.length:=by rw[<-s.len]; grind
 obtain⟨b,h1,h2,h3⟩:=s.box i _ (aj hi)
 grind
theorem mh{id:Nat}(h:id∈ids):(down j M ids) (iC ids id)=j id:=by grind [down,tH]
theorem qX{i b:Nat}(h:(down j M ids) i=some b):∃id,ids[i]?=some id/\j id=some b:=by
 grind [down]
def Sub.gX(s:Sub j M w ids B){b off:Nat}(h:nR j M w b off):nR (down j M ids) B w b off:=by
 refine⟨h.lt,fun i hi hj=>?_,fun hx=>?_⟩
 ·obtain⟨id,h1,h2⟩:=qX hj;obtain⟨bx,h3,_,h4⟩:=s.box i _ h1;obtain⟨sz,n,h5,h6⟩:=h.ids _ (aF h3) h2;rw[h3] at h5; cases h5;exact⟨sz,n,h4,h6⟩
 ·rcases hx with hx|⟨id,h1,_,h2,h3⟩
  ·exact h.nx hx
  ·exact h3 (h.ids _ h1 h2)
theorem Sub.TX(s:Sub j M w ids B){x:ag}{v:Value}(h:fV j M w x v)(hf:x.D9=true)(hi:∀i,i∈x.hU->i∈ids):fV (down j M ids) B w (x.tV (iC ids)) v:=by
 cases h with
 |plain h =>
  have:x.tV (iC ids)=x:=by cases h<;>rfl
  rw[this];exact .plain (h.mono fun b off hs=>⟨s.gX hs,rfl⟩)
 |c0 A=>exact .c0 A
 | @own k xs v sz n hk hn hp ht =>
  have hki:k∈ids:=hi k (by simp[ag.hU])
  refine .own (sz:=sz) (n:=n) (s.at_ hki hk) hn (hp.mono fun b off hs=>⟨s.gX hs,rfl⟩) fun he=>?_
  rcases ht he with ⟨g1,g2,g3⟩|⟨b,cap,vs,t,g1,g2,g3,g4,g5⟩
  ·exact .inl ⟨by rw[mh hki]; omega,g2,g3⟩
  ·exact .inr ⟨b,cap,vs,t,by rw[mh hki]; exact g1,g2,g3,g4,g5⟩
 |agg=>cases hf
 |tuple=>cases hf
 | @ptr id off b hid hc hj =>
  have hki:id∈ids:=hi id (by simp[ag.hU])
  obtain⟨cs,hc⟩:=hc;exact .ptr (by rw[s.len]; exact uf hki) ⟨_,s.at_ hki hc⟩ (by rw[mh hki]; omega)
 |jd h=>exact .jd fun k c hk=>⟨(h k c hk).1,s.gX (h k c hk).2.1,(h k c hk).2.2.mono fun b off hs=>⟨s.gX hs,rfl⟩⟩
 |func=>cases hf
 | @gD id b hc hj =>
  have hki:id∈ids:=hi id (by simp[ag.hU])
  obtain⟨ks,vs,hc⟩:=hc;exact .gD ⟨_,_,s.at_ hki hc⟩ (by rw[mh hki]; exact hj)
 | @jx id b hc hj =>
  have hki:id∈ids:=hi id (by simp[ag.hU])
  obtain⟨ks,vs,hc⟩:=hc;exact .jx ⟨_,_,s.at_ hki hc⟩ (by rw[mh hki]; omega)
 | @jL t id off b hc hj =>
  have hki:id∈ids:=hi id (by simp[ag.hU])
  obtain⟨cs,hc⟩:=hc;exact .jL ⟨_,s.at_ hki hc⟩ (by rw[mh hki]; exact hj)
 |rZ hl hd=>exact .rZ hl fun i c v h1 h2=>(hd i c v h1 h2).mono fun b off hs=>⟨s.gX hs,rfl⟩
 | @iB ks vs b es cl hb hfr hx hw hk hv hks hvs =>
  refine .iB hb (fun i _ he=>?_) (fun off hx'=>?_) hw hk hv (fun i k e h1 h2=>(hks i k e h1 h2).mono fun b off hs=>⟨s.gX hs,rfl⟩) (fun i k e h1 h2=>(hvs i k e h1 h2).mono fun b off hs=>⟨s.gX hs,rfl⟩)
  ·obtain⟨id,h1,h2⟩:=qX he;obtain⟨bx,h3,_⟩:=s.box _ _ h1
   grind
  ·rcases hx' with hx'|⟨id,h1,_,h2,_⟩
   ·exact hx off hx'
   grind
 | @dg id ver sz0 lo hi v h0 hid hM hv =>
  have hki:id∈ids:=hi id (by simp[ag.hU])
  have hb:=aj hid;have hat:=s.at_ hki hb;rw[xB (hM _ hb)] at hat;refine .dg h0 (by rw[s.len]; exact uf hki) (fun bx hbx=>?_) fun sz v' xs h=>?_
  ·rw[hat] at hbx; exact hM bx (hb.trans hbx)
  ·rw[hat] at h;obtain⟨k1,k2⟩:=hv sz v' xs (hb.trans h)
   exact⟨k1,fun he=>by
    obtain⟨l0,l1,l2,⟨l3,l4,l5⟩|⟨b,cap,vs,t,l3,r⟩⟩:=k2 he
    ·exact⟨l0,l1,l2,.inl ⟨l3,by rw[mh hki]; omega,l5⟩⟩
    exact⟨l0,l1,l2,.inr ⟨b,cap,vs,t,by rw[mh hki]; omega,r⟩⟩⟩
 | @im id ver i off v h0 hid hM hv =>
  have hki:id∈ids:=hi id (by simp[ag.hU])
  have hb:=aj hid;have hat:=s.at_ hki hb;rw[xB (hM _ hb)] at hat;refine .im h0 (by rw[s.len]; exact uf hki) (fun bx hbx=>?_) fun sz v' xs h=>?_
  ·rw[hat] at hbx; exact hM bx (hb.trans hbx)
  grind [mh]
 |any v=>exact .any v
theorem Sub.KS(s:Sub j M w ids B){x:ag}{v:Value}(h:fV j M w x v)(hf:x.vP=true)(hi:∀i,i∈x.mL->i∈ids):fV (down j M ids) B w (x.sY (iC ids)) v:=by
 by_cases hfn:∃f caps,x = .func f caps
 ·obtain⟨f,caps,rfl⟩:=hfn;obtain⟨vs,rfl,hl,hc⟩:=h.si;refine .func (by grind) fun i c u hci hu=>?_
  rw[aY,aN] at hci;obtain⟨c0,hc0,rfl⟩:=hci;have hm:=aQ hc0;exact s.TX (hc i _ u hc0 hu) (bu.1 hf _ hm) fun q hq=>hi q (hZ.2 ⟨c0,hm,hq⟩)
 ·have e1:x.sY (iC ids)=x.tV (iC ids):=by cases x<;>first|rfl|grind
  have e2:x.mL=x.hU:=by cases x<;>first|rfl|grind
  have e3:x.D9=true:=by cases x<;>first|rfl|exact absurd ⟨_,_,rfl⟩ hfn|cases hf
  rw[e1];exact s.TX h e3 (by rw[<-e2]; omega)
theorem Sub.rep(s:Sub j M w ids B){x:ag}{v:Value}(h:fV j M w x v)(hf:x.flat=true)(hi:∀i,i∈x.ids->i∈ids):fV (down j M ids) B w (x.rn (iC ids)) v:=by
 by_cases hag:∃cs,x = .agg cs
 ·obtain⟨cs,rfl⟩:=hag;obtain⟨vs,rfl,hl,hc⟩:=h.lY;refine .agg (by grind) fun i c u hci hu=>?_
  rw[aY,aN] at hci;obtain⟨c0,hc0,rfl⟩:=hci;have hm:=aQ hc0;exact s.KS (hc i _ u hc0 hu) (bu.1 hf _ hm) fun q hq=>hi q (hZ.2 ⟨c0,hm,hq⟩)
 ·have e1:x.rn (iC ids)=x.sY (iC ids):=by cases x<;>first|rfl|grind
  have e2:x.ids=x.mL:=by cases x<;>first|rfl|grind
  have e3:x.vP=true:=by cases x<;>first|exact hf|grind
  rw[e1];exact s.KS h e3 (by rw[<-e2]; omega)
theorem Sub.rel(s:Sub j M w ids B)(hr:Rel j M w):Rel (down j M ids) B w:=by
 have OW:∀ {i id:Nat},ids[i]?=some id->id<M.length:=fun h=>by
  obtain⟨b,h1,_⟩:=s.box _ _ h
  grind
 refine⟨fun i i' b hi hi' h h'=>?_,fun i b hi h=>?_,fun i cb h hf=>?_,fun i sz n b h hj=>?_,fun i sz ver xs h=>?_,fun i b hi h off hx=>?_,fun b off h=>?_⟩
 ·obtain⟨id,h1,h2⟩:=qX h;obtain⟨id',h1',h2'⟩:=qX h';have:=hr.inj id id' b (OW h1) (OW h1') h2 h2';subst this;rw[<-BN s.nodup h1,BN s.nodup h1']
 ·obtain⟨id,h1,h2⟩:=qX h;exact hr.lt id b (OW h1) h2
 ·obtain⟨id,bx,h1,h2,h3,h4⟩:=s.inv h;subst h4;have hfx:bx.fixed=true:=by cases bx<;>first|rfl|cases hf
  obtain⟨b,g1,g2⟩:=hr.fix id bx h2 hfx;refine⟨b,by grind [down],?_⟩
  have hcl:∀p,p∈bx.ids->p∈ids:=s.closed id _ (aQ h1) h2;cases bx with
  |tick sz n=>cases hf
  |cells cs0 =>
   obtain⟨vs,t,k1,k2,k3⟩:=g2;refine⟨vs,t,k1,by simpa using k2,fun q c v hc hv=>?_⟩
   rw[aY,aN] at hc;obtain⟨c0,hc0,rfl⟩:=hc;have hm:=aQ hc0;exact s.KS (k3 q c0 v hc0 hv) (bu.1 h3 c0 hm) fun p hp=>hcl p (hZ.2 ⟨c0,hm,hp⟩)
  |map ks vs =>
   obtain⟨es,cl,k1,k2,k3,k4,k5⟩:=g2;refine⟨es,cl,k1,k2,by simpa using k3,fun q c e hc he=>(k4 q c e hc he).mono fun b off hs=>⟨s.gX hs,rfl⟩,fun q c e hc he=>?_⟩
   rw[aY,aN] at hc;obtain⟨c0,hc0,rfl⟩:=hc;have hm:=aQ hc0;exact s.rep (k5 q c0 e hc0 he) (bu.1 h3 c0 hm) fun p hp=>hcl p (hZ.2 ⟨c0,hm,hp⟩)
  |nB st pos=>exact g2
  |vm=>cases hf
  |arr=>cases hf
 ·obtain⟨id,bx,h1,h2,h3,h4⟩:=s.inv h;obtain⟨id',h1',h2'⟩:=qX hj;rw[h1] at h1'; cases h1';cases bx<;>first|cases h4|skip
  exact hr.tick id _ _ b h2 h2'
 ·obtain⟨id,bx,h1,h2,h3,h4⟩:=s.inv h;cases bx<;>first|cases h4|skip
  obtain⟨g0,g1⟩|⟨b,vs,t,g1,g2,g3,g4,g5⟩:=hr.arr id _ _ _ h2
  ·grind [down]
  exact .inr ⟨b,vs,t,by grind [down],g2,g3,g4,fun q x k c hx hk=>(g5 q x k c hx hk).imp fun u hu=>⟨hu.1,hu.2.mono fun b off hs=>⟨s.gX hs,rfl⟩⟩⟩
 ·obtain⟨id,h1,h2⟩:=qX h;rcases hx with hx|⟨id',g1,g2,g3,_⟩
  ·exact hr.uC id b (OW h1) h2 off hx
  ·have:=hr.inj id id' b (OW h1) g1 h2 g3
   grind
 ·rcases h with h|⟨id,g1,_,g3,_⟩
  ·exact hr.zG b off h
  ·exact hr.lt id b g1 g3
variable {j2:J} {B':aK} {w':World}
open Classical in
noncomputable def OC(j j2:J)(ids:List Nat):J:=⟨fun id=>if id∈ids then j2 (iC ids id) else j id,j.X⟩
theorem kX{id:Nat}(h:id∈ids):(OC j j2 ids) id=j2 (iC ids id):=by grind [OC]
theorem ow{id:Nat}(h:id∉ids):(OC j j2 ids) id=j id:=by grind [OC]
structure wi(j:J)(M B:aK)(w:World)(ids:List Nat)(j2:J)(B':aK)(w':World):Prop where
 sub:Sub j M w ids B
 hr:Rel j M w
 ext:Ext (down j M ids) B w j2 B' w'
 rel:Rel j2 B' w'
 len:B'.length=B.length
 flat:∀b,b∈B'->b.flat=true
variable (bk:wi j M B w ids j2 B' w')
include bk
theorem wi.OW{i id:Nat}(h:ids[i]?=some id):id<M.length:=by
 obtain⟨b,h1,_⟩:=bk.sub.box _ _ h
 grind
def wi.Kb{id:Nat}(h:id∈ids){b:cA}(hb:B'[iC ids id]?=some b):(mw ids M ids B')[id]?=some (b.rn (xg ids)) :=
 (vJ bk.sub.nodup (by rw[bk.len,bk.sub.len])).2.2 _ _ b (tH h) (bk.OW (tH h)) hb
def wi.KI{id:Nat}(h:id∉ids):(mw ids M ids B')[id]?=M[id]?:=(vJ bk.sub.nodup (by rw[bk.len,bk.sub.len])).2.1 _ h
def wi.rX:(mw ids M ids B').length=M.length:=(vJ bk.sub.nodup (by rw[bk.len,bk.sub.len])).1
def wi.some_{id:Nat}(h:id∈ids):∃b,B'[iC ids id]?=some b/\b.flat=true:=by
 have hi:iC ids id<B'.length:=by rw[bk.len,bk.sub.len]; exact uf h
 exact⟨_,aj hi,bk.flat _ (jI _)⟩
theorem wi.uk{id b:Nat}(hid:id<M.length)(h:id∉ids)(hj:j id=some b):w'.heap[b]?=w.heap[b]?/\∀i,i<B'.length->j2 i≠some b:=by
 refine bk.ext.uk b (bk.hr.lt _ b hid hj) fun i hi he=>?_
 obtain⟨id',h1,h2⟩:=qX he;have:=bk.hr.inj _ _ b hid (bk.OW h1) hj h2
 grind
def wi.gX{b off:Nat}(h:nR j2 B' w' b off):nR (OC j j2 ids) (mw ids M ids B') w' b off:=by
 have hX:=bk.ext.X;have hnx:=h.nx;rw[hX] at hnx;refine⟨h.lt,fun id hid hj=>?_,fun hx=>hnx (.inl hx)⟩
 rw[bk.rX] at hid
 by_cases hi:id∈ids
 ·rw[kX hi] at hj;obtain⟨sz,n,h1,h2⟩:=h.ids _ (by rw[bk.len,bk.sub.len]; exact uf hi) hj
  exact⟨sz,n,bk.Kb hi h1,h2⟩
 ·rw[ow hi] at hj;rw[bk.KI hi];exact Classical.byContradiction fun hc=>hnx (.inr ⟨id,hid,hi,hj,hc⟩)
def wi.Vn:Ext j M w (OC j j2 ids) (mw ids M ids B') w' where
 len:=by rw[bk.rX]; exact ar _
 size:=bk.ext.size
 os:=bk.ext.os
 tape:=bk.ext.tape
 output:=bk.ext.output
 X:=rfl
 fix:=fun id bx h hf=>by
  by_cases hi:id∈ids
  ·obtain⟨g1,bx',g2,g3⟩:=bk.ext.fix _ _ (bk.sub.at_ hi h) (by cases bx<;>first|rfl|cases hf)
   rw[kX hi,g1,mh hi];refine⟨rfl,_,bk.Kb hi g2,?_⟩;rw[Mt,g3,Mt]
  ·rw[ow hi,bk.KI hi]; exact⟨rfl,bx,h,rfl⟩
 tick:=fun id sz n h=>by
  by_cases hi:id∈ids
  ·obtain⟨n',g1,g2,g3⟩:=bk.ext.tick _ _ _ (bk.sub.at_ hi h);refine⟨n',g1,bk.Kb hi g2,fun he=>?_⟩
   obtain⟨k1,k2⟩:=g3 he;rw[kX hi,k1,mh hi];exact⟨rfl,fun b vs t hb hv=>k2 b vs t (by rw[mh hi]; exact hb) hv⟩
  ·rw[ow hi,bk.KI hi];exact⟨n,ar _,h,fun _=>⟨rfl,fun b vs t hb hv=>⟨vs,(bk.uk (aF h) hi hb).1.trans hv,rfl⟩⟩⟩
 arr:=fun id sz v xs h=>by
  by_cases hi:id∈ids
  ·rcases bk.ext.arr _ _ _ _ (bk.sub.at_ hi h) with ⟨n',g⟩|⟨v',xs',g2,g3,g4⟩
   ·exact .inl ⟨n',bk.Kb hi g⟩
   ·refine .inr ⟨v',xs',bk.Kb hi g2,g3,fun he=>?_⟩
    obtain⟨k1,k2,k3⟩:=g4 he;rw[kX hi,k1,mh hi];exact⟨rfl,k2,fun b vs t hb hv=>k3 b _ t (by rw[mh hi]; exact hb) hv⟩
  ·rw[ow hi,bk.KI hi];exact .inr ⟨v,xs,h,ar _,fun _=>⟨rfl,rfl,fun b vs t hb hv=>⟨vs,(bk.uk (aF h) hi hb).1.trans hv,rfl⟩⟩⟩
 tags:=bk.ext.tags
 gX:=fun b off h=>by
  obtain⟨h1,h2⟩:=bk.ext.gX b _ (bk.sub.gX h);exact⟨bk.gX h1,h2⟩
 uk:=fun b hb h=>by
  have h1:∀i,i<B.length->(down j M _) i≠some b:=fun i _ he=>by
   obtain⟨id,g1,g2⟩:=qX he;exact h id (bk.OW g1) g2
  obtain⟨h2,h3⟩:=bk.ext.uk b hb h1;refine⟨h2,fun id hid he=>?_⟩
  rw[bk.rX] at hid
  by_cases hi:id∈ids
  ·rw[kX hi] at he;exact h3 _ (by rw[bk.len,bk.sub.len]; exact uf hi) he
  ·rw[ow hi] at he;exact h id hid he
def wi.Cd{i:Nat}(h:i<B'.length):∃id,ids[i]?=some id/\id∈ids/\xg ids i=id/\iC ids id=i:=by
 have hi:i<ids.length:=by rw[<-bk.sub.len,<-bk.len]; omega
 have hg:=aj hi;exact⟨_,hg,aQ hg,ZX hg,BN bk.sub.nodup hg⟩
theorem wi.TX{x:ag}{v:Value}(h:fV j2 B' w' x v)(hf:x.D9=true):fV (OC j j2 ids) (mw ids M ids B') w' (x.tV (xg ids)) v:=by
 cases h with
 |plain h =>
  have:x.tV (xg ids)=x:=by cases h<;>rfl
  rw[this];exact .plain (h.mono fun b off hs=>⟨bk.gX hs,rfl⟩)
 |c0 A=>exact .c0 A
 | @own k xs v sz n hk hn hp ht =>
  obtain⟨id,g1,g2,g3,g4⟩:=bk.Cd (aF hk);simp only[ag.tV,g3];refine .own (sz:=sz) (n:=n) (bk.Kb g2 (b := .tick sz n) (by rw[g4]; exact hk)) hn (hp.mono fun b off hs=>⟨bk.gX hs,rfl⟩) fun he=>?_
  rcases ht he with ⟨e1,e2,e3⟩|⟨b,cap,vs,t,e1,e2,e3,e4,e5⟩
  ·exact .inl ⟨by rw[kX g2,g4]; omega,e2,e3⟩
  ·exact .inr ⟨b,cap,vs,t,by rw[kX g2,g4]; grind,e2,e3,e4,e5⟩
 | @jL t k off b hc hj =>
  obtain⟨cs,hc⟩:=hc;obtain⟨id,g1,g2,g3,g4⟩:=bk.Cd (aF hc);simp only[ag.tV,g3];exact .jL ⟨_,bk.Kb g2 (b := .cells cs) (by rw[g4]; omega)⟩ (by rw[kX g2,g4]; omega)
 |agg=>cases hf
 |tuple=>cases hf
 | @ptr k off b hid hc hj =>
  obtain⟨id,g1,g2,g3,g4⟩:=bk.Cd hid;obtain⟨cs,hc⟩:=hc;simp only[ag.tV,g3];exact .ptr (by rw[bk.rX]; exact bk.OW g1) ⟨_,bk.Kb g2 (b := .cells cs) (by rw[g4]; exact hc)⟩ (by rw[kX g2,g4]; omega)
 |jd h=>exact .jd fun k c hk=>⟨(h k c hk).1,bk.gX (h k c hk).2.1,(h k c hk).2.2.mono fun b off hs=>⟨bk.gX hs,rfl⟩⟩
 |func=>cases hf
 | @gD k b hc hj =>
  obtain⟨ks,vs,hc⟩:=hc;obtain⟨id,g1,g2,g3,g4⟩:=bk.Cd (aF hc);simp only[ag.tV,g3];exact .gD ⟨_,_,bk.Kb g2 (b := .map ks vs) (by rw[g4]; omega)⟩ (by rw[kX g2,g4]; omega)
 | @jx k b hc hj =>
  obtain⟨st,p,hc⟩:=hc;obtain⟨id,g1,g2,g3,g4⟩:=bk.Cd (aF hc);simp only[ag.tV,g3];exact .jx ⟨_,_,bk.Kb g2 (b := .nB st p) (by rw[g4]; exact hc)⟩ (by rw[kX g2,g4]; exact hj)
 |rZ hl hd=>exact .rZ hl fun i c v h1 h2=>(hd i c v h1 h2).mono fun b off hs=>⟨bk.gX hs,rfl⟩
 | @iB ks vs b es cl hb hfr hx hw hk hv hks hvs =>
  rw[bk.ext.X] at hx;refine .iB hb (fun id hid he=>?_) (fun off hx'=>hx off (.inl hx')) hw hk hv (fun i k e h1 h2=>(hks i k e h1 h2).mono fun b off hs=>⟨bk.gX hs,rfl⟩) (fun i k e h1 h2=>(hvs i k e h1 h2).mono fun b off hs=>⟨bk.gX hs,rfl⟩)
  rw[bk.rX] at hid
  by_cases m:id∈ids
  ·rw[kX m] at he;exact hfr _ (by rw[bk.len,bk.sub.len]; exact uf m) he
  ·rw[ow m] at he
   by_cases ht:∃sz n,M[id]?=some (.tick sz n)
   ·obtain⟨sz,n,ht⟩:=ht;refine hx (n*sz) (.inr ⟨id,hid,m,he,?_⟩)
    grind
   ·exact hx 0 (.inr ⟨id,hid,m,he,fun⟨sz,n,h1,_⟩=>ht ⟨sz,n,h1⟩⟩)
 | @dg k ver sz0 lo hi v h0 hid hM hv =>
  obtain⟨id,g1,g2,g3,g4⟩:=bk.Cd hid;have hb:=aj hid;have hin:=bk.Kb g2 (b:=B'[k]) (by rw[g4]; exact hb)
  rw[xB (hM _ hb)] at hin;simp only[ag.tV,g3];refine .dg h0 (by rw[bk.rX]; exact bk.OW g1) (fun bx hbx=>?_) fun sz v' xs h=>?_
  ·rw[hin] at hbx; exact hM bx (hb.trans hbx)
  ·rw[hin] at h;obtain⟨k1,k2⟩:=hv sz v' xs (hb.trans h)
   exact⟨k1,fun he=>by
    obtain⟨l0,l1,l2,⟨l3,l4,l5⟩|⟨b,cap,vs,t,l3,r⟩⟩:=k2 he
    ·exact⟨l0,l1,l2,.inl ⟨l3,by rw[kX g2,g4]; exact l4,l5⟩⟩
    exact⟨l0,l1,l2,.inr ⟨b,cap,vs,t,by rw[kX g2,g4]; exact l3,r⟩⟩⟩
 | @im k ver i off v h0 hid hM hv =>
  obtain⟨id,g1,g2,g3,g4⟩:=bk.Cd hid;have hb:=aj hid;have hin:=bk.Kb g2 (b:=B'[k]) (by rw[g4]; exact hb)
  rw[xB (hM _ hb)] at hin;simp only[ag.tV,g3];refine .im h0 (by rw[bk.rX]; exact bk.OW g1) (fun bx hbx=>?_) fun sz v' xs h=>?_
  ·rw[hin] at hbx; exact hM bx (hb.trans hbx)
  grind [kX]
 |any v=>exact .any v
theorem wi.KS{x:ag}{v:Value}(h:fV j2 B' w' x v)(hf:x.vP=true):fV (OC j j2 ids) (mw ids M ids B') w' (x.sY (xg ids)) v:=by
 by_cases hfn:∃f caps,x = .func f caps
 ·obtain⟨f,caps,rfl⟩:=hfn;obtain⟨vs,rfl,hl,hc⟩:=h.si;refine .func (by grind) fun i c u hci hu=>?_
  rw[aY,aN] at hci;obtain⟨c0,hc0,rfl⟩:=hci;exact bk.TX (hc i _ u hc0 hu) (bu.1 hf _ (aQ hc0))
 ·have e1:x.sY (xg ids)=x.tV (xg ids):=by cases x<;>first|rfl|grind
  have e3:x.D9=true:=by cases x<;>first|rfl|exact absurd ⟨_,_,rfl⟩ hfn|cases hf
  rw[e1];exact bk.TX h e3
theorem wi.rep{x:ag}{v:Value}(h:fV j2 B' w' x v)(hf:x.flat=true):fV (OC j j2 ids) (mw ids M ids B') w' (x.rn (xg ids)) v:=by
 by_cases hag:∃cs,x = .agg cs
 ·obtain⟨cs,rfl⟩:=hag;obtain⟨vs,rfl,hl,hc⟩:=h.lY;refine .agg (by grind) fun i c u hci hu=>?_
  rw[aY,aN] at hci;obtain⟨c0,hc0,rfl⟩:=hci;exact bk.KS (hc i _ u hc0 hu) (bu.1 hf _ (aQ hc0))
 ·have e1:x.rn (xg ids)=x.sY (xg ids):=by cases x<;>first|rfl|grind
  have e3:x.vP=true:=by cases x<;>first|exact hf|grind
  rw[e1];exact bk.KS h e3
theorem wi.amm{x:ag}{v:Value}(h:fV j2 B' w' x v)(hf:x.wF=true):fV (OC j j2 ids) (mw ids M ids B') w' (x.BE (xg ids)) v:=by
 by_cases ht:∃vs,x = .tuple vs
 ·obtain⟨cs,rfl⟩:=ht;obtain⟨vs,rfl,hl,hc⟩:=h.tq;refine .tuple (by grind) fun i c u hci hu=>?_
  rw[aY,aN] at hci;obtain⟨c0,hc0,rfl⟩:=hci;exact bk.rep (hc i _ u hc0 hu) (bu.1 hf _ (aQ hc0))
 ·have e1:x.BE (xg ids)=x.rn (xg ids):=by cases x<;>first|rfl|grind
  have e3:x.flat=true:=by cases x<;>first|exact hf|grind
  rw[e1];exact bk.rep h e3
theorem wi.ah2:Rel (OC j j2 ids) (mw ids M ids B') w':=by
 have ltin:∀ {id:Nat},id∈ids->iC ids id<B'.length:=fun h=>by rw[bk.len,bk.sub.len]; exact uf h
 refine⟨fun id id' b hi hi' h h'=>?_,fun id b hi h=>?_,fun id cb h hf=>?_,fun id sz n b h hj=>?_,fun id sz ver xs h=>?_,fun id b hi h off hx=>?_,fun b off h=>bp (bk.hr.zG b off h) bk.ext.size⟩
 ·rw[bk.rX] at hi hi'
  by_cases m:id∈ids<;>by_cases m':id'∈ids
  ·rw[kX m] at h;rw[kX m'] at h';have:=bk.rel.inj _ _ b (ltin m) (ltin m') h h';rw[<-Lg m,this,Lg m']
  ·rw[kX m] at h;rw[ow m'] at h';exact absurd h ((bk.uk hi' m' h').2 _ (ltin m))
  ·rw[ow m] at h;rw[kX m'] at h';exact absurd h' ((bk.uk hi m h).2 _ (ltin m'))
  ·rw[ow m] at h;rw[ow m'] at h';exact bk.hr.inj id id' b hi hi' h h'
 ·rw[bk.rX] at hi
  by_cases m:id∈ids
  ·rw[kX m] at h; exact bk.rel.lt _ b (ltin m) h
  ·rw[ow m] at h; exact bp (bk.hr.lt id b hi h) bk.ext.size
 ·by_cases m:id∈ids
  ·obtain⟨bx,h1,h2⟩:=bk.some_ m;rw[bk.Kb m h1] at h;injection h with h
   subst h;have hfx:bx.fixed=true:=by cases bx<;>first|rfl|cases hf
   obtain⟨b,g1,g2⟩:=bk.rel.fix _ bx h1 hfx;refine⟨b,by rw[kX m]; omega,?_⟩
   cases bx with
   |tick sz n=>cases hf
   |cells cs0 =>
    obtain⟨vs,t,k1,k2,k3⟩:=g2;refine⟨vs,t,k1,by grind,fun q c v hc hv=>?_⟩
    rw[aY,aN] at hc;obtain⟨c0,hc0,rfl⟩:=hc;exact bk.KS (k3 q c0 v hc0 hv) (bu.1 h2 c0 (aQ hc0))
   |map ks vs =>
    obtain⟨es,cl,k1,k2,k3,k4,k5⟩:=g2;refine⟨es,cl,k1,k2,by grind,fun q c e hc he=>(k4 q c e hc he).mono fun b off hs=>⟨bk.gX hs,rfl⟩,fun q c e hc he=>?_⟩
    rw[aY,aN] at hc;obtain⟨c0,hc0,rfl⟩:=hc;exact bk.rep (k5 q c0 e hc0 he) (bu.1 h2 c0 (aQ hc0))
   |nB st pos=>exact g2
   |vm=>cases hf
   |arr=>cases hf
  ·rw[bk.KI m] at h;obtain⟨b,g1,g2⟩:=bk.hr.fix id cb h hf;exact⟨b,by rw[ow m]; omega,g2.mono bk.Vn (bk.uk (aF h) m g1).1⟩
 ·by_cases m:id∈ids
  ·obtain⟨bx,h1,h2⟩:=bk.some_ m;rw[bk.Kb m h1] at h;injection h with h
   rw[kX m] at hj;cases bx<;>first|cases h|skip
   exact bk.rel.tick _ _ _ b h1 hj
  ·rw[bk.KI m] at h;rw[ow m] at hj;obtain⟨vs,t,g⟩:=bk.hr.tick id sz n b h hj;exact⟨vs,t,(bk.uk (aF h) m hj).1.trans g⟩
 ·by_cases m:id∈ids
  ·obtain⟨bx,h1,h2⟩:=bk.some_ m;rw[bk.Kb m h1] at h;injection h with h
   cases bx<;>first|cases h|skip
   obtain⟨g0,g1⟩|⟨b,vs,t,g1,g2,g3,g4,g5⟩:=bk.rel.arr _ _ _ _ h1
   ·grind [kX]
   exact .inr ⟨b,vs,t,by rw[kX m]; omega,g2,g3,g4,fun q x k c hx hk=>(g5 q x k c hx hk).imp fun u hu=>⟨hu.1,hu.2.mono fun b off hs=>⟨bk.gX hs,rfl⟩⟩⟩
  ·rw[bk.KI m] at h;exact pR bk.hr bk.Vn h (ow m) fun b hb=>(bk.uk (aF h) m hb).1
 ·rw[bk.rX] at hi
  by_cases m:id∈ids
  ·rw[kX m] at h;have:=bk.rel.uC _ b (ltin m) h off;rw[bk.ext.X] at this;exact this (.inl hx)
  ·rw[ow m] at h;exact bk.hr.uC id b hi h off hx
end
theorem EZ{ρ:Nat->Nat}{x:ag}(h:x.hU=[]):x.tV ρ=x:=by
 cases x with
 |slice tk xs=>cases tk<;>first|rfl|grind [ag.hU]
 |ptr=>grind [ag.hU]
 |gD=>grind [ag.hU]
 |jx=>grind [ag.hU]
 |dg=>grind [ag.hU]
 |im=>grind [ag.hU]
 |jL=>grind [ag.hU]
 |_=>rfl
def Ik{ρ:Nat->Nat}:∀ {l:List ag},l.flatMap ag.hU=[]->l.map (ag.tV ρ)=l
 | [],_=>rfl
 |c::r,h=>by
  rw[List.flatMap_cons,List.append_eq_nil_iff] at h;rw[aV,EZ h.1,Ik h.2]
theorem E0{ρ:Nat->Nat}{x:ag}(h:x.mL=[]):x.sY ρ=x:=by
 by_cases hf:∃f caps,x = .func f caps
 ·obtain⟨f,caps,rfl⟩:=hf;exact congrArg _ (Ik h)
 ·have e1:x.sY ρ=x.tV ρ:=by cases x<;>first|rfl|grind
  have e2:x.mL=x.hU:=by cases x<;>first|rfl|grind
  grind [EZ]
def Il{ρ:Nat->Nat}:∀ {l:List ag},l.flatMap ag.mL=[]->l.map (ag.sY ρ)=l
 | [],_=>rfl
 |c::r,h=>by
  rw[List.flatMap_cons,List.append_eq_nil_iff] at h;rw[aV,E0 h.1,Il h.2]
theorem TW{ρ:Nat->Nat}{x:ag}(_:x.flat=true)(h:x.ids=[]):x.rn ρ=x:=by
 by_cases hf:∃cs,x = .agg cs
 ·obtain⟨cs,rfl⟩:=hf;exact congrArg _ (Il h)
 ·have e1:x.rn ρ=x.sY ρ:=by cases x<;>first|rfl|grind
  have e2:x.ids=x.mL:=by cases x<;>first|rfl|grind
  grind [E0]
theorem qT{P:Program}{C:eL}(hC:pd P C){j:J}{M:aK}{w:World}{f:Nat}{vs:List ag}{us:Array Value}{x:ag×aK}(hr:Rel j M w)(hG:su j M w)(h:aL C f vs M=some x)
  (hl:vs.length=us.size) (hv:∀(i:Nat)(c:ag)(u:Value),vs[i]?=some c->us[i]?=some u->fV j M w c u) :
  kJ P f=true/\Calls P f us w fun e w'=>vn j M w x e w':=by
 unfold aL at h;generalize hids:reach M (vs.flatMap ag.ids)=ids at h;split at h
 ·rename_i hf;obtain⟨B,hB,h⟩:=bn h;split at h
  ·rename_i hcl;obtain⟨y,hy,h⟩:=bn h;split at h
   ·rename_i hcond;obtain⟨c1,c2,c3⟩:=hcond;cases h;obtain⟨h1,h2⟩:=hC _ _ _ _ hy;obtain⟨p1,p2⟩:=Dg hB;have s:Sub j M w ids B:=⟨by rw[<-hids]; simp[Iv],p1,p2,fun i b hi hb x hx=>M9 hcl hi hb hx⟩
    refine⟨h1,(h2 (down j M ids) w us (s.rel hr) (hG.gX fun b off h=>s.gX h) (by grind) fun i c u hc hu=>?_).mono ?_⟩
    ·rw[aY,aN] at hc;obtain⟨c0,hc0,rfl⟩:=hc;have hm:=aQ hc0;exact s.rep (hv i c0 u hc0 hu) (bu.1 hf c0 hm) fun q hq=>by rw[<-hids]; exact N1 (hZ.2 ⟨c0,hm,hq⟩)
    ·rintro e w' (⟨v,rfl,j2,g1,g2,g3⟩|⟨u,rfl,hu,j2,g1,g2⟩)
     ·have bk:wi j M B w ids j2 y.2 w':=⟨s,hr,g2,g1,c1,fun b hb=>bu.1 c3 b hb⟩
      exact .inl ⟨v,rfl,OC j j2 ids,bk.ah2,bk.Vn,bk.amm g3 c2⟩
     ·have bk:wi j M B w ids j2 y.2 w':=⟨s,hr,g2,g1,c1,fun b hb=>bu.1 c3 b hb⟩
      exact .inr ⟨u,rfl,by rw[hu]; rfl,OC j j2 ids,bk.ah2,bk.Vn⟩
   grind
  grind
 grind
theorem TZ{j j2:J}{G:aK}{w w':World}{p sz n:Nat}{xs:List ag}{v:Value}(hr:Rel j G w)(hp:G[p]?=some .vm)(h2:Rel j2 [.tick sz n] w')(hx:Ext (down j G []) [] w j2 [.tick sz n] w')
  (hv:fV j2 [.tick sz n] w' (.slice (.own 0) xs) v):iG j G w (.slice (.own p) xs,G.set p (.tick sz n)) v w':=by
 have hpl:=aF hp
 have hold:∀b,b<w.heap.size->w'.heap[b]?=w.heap[b]?/\j2 0≠some b:=fun b hb=>by
  obtain⟨h1,h3⟩:=hx.uk b hb (fun i hi=>by simp at hi)
  exact⟨h1,h3 0 (by simp)⟩
 have up:∀i,i≠p->gv j p (j2 0) i=j i:=fun i hi=>by simp[gv,hi]
 have atp:gv j p (j2 0) p=j2 0:=by simp[gv]
 have nX:∀ {b off},nR j2 [.tick sz n] w' b off->¬j.X b off/\∀id,id<G.length->j id=some b->∃sz n,G[id]?=some (.tick sz n)/\off<n*sz:=fun {b off} hs=>by
  have:=hs.nx;rw[hx.X] at this;refine⟨fun h=>this (.inl h),fun id hid hj=>?_⟩
  by_cases hc:∃sz n,G[id]?=some (.tick sz n)/\off<n*sz
  ·exact hc
  ·exact absurd (Or.inr ⟨id,hid,by simp,hj,hc⟩) this
 have gX:∀b off,nR j2 [.tick sz n] w' b off->nR (gv j p (j2 0)) (G.set p (.tick sz n)) w' b off:=fun b off hs=>by
  obtain⟨n1,n2⟩:=nX hs;refine⟨hs.lt,fun id hid hj=>?_,n1⟩
  by_cases e:id=p
  ·subst e;rw[atp] at hj;obtain⟨s1,m1,h3,h4⟩:=hs.ids 0 (by simp) hj
   grind
  grind
 have q:Quiet w w':=⟨hx.size,hx.os,hx.tape,hx.output⟩
 have ext:Ext j G w (gv j p (j2 0)) (G.set p (.tick sz n)) w':={
  len:=by simp
  size:=q.size
  os:=q.os
  tape:=q.tape
  output:=q.output
  X:=rfl
  fix:=fun i bx h hf=>by
   have e:i≠p:=by rintro rfl; rw[hp] at h; cases h; cases hf
   grind
  tick:=fun i sz n h=>by
   grind
  arr:=fun i sz v xs h=>by
   grind
  tags:=fun b0 vs0 t0 fr0 h=>⟨vs0,fr0,(hold b0 (lt_of_block h)).1.trans h,rfl⟩
  gX:=fun b0 off h=>by
   refine⟨⟨bp h.1 q.size,fun id hid hj=>?_,h.3⟩,World.cell?_of_block (w:=w) (hold b0 h.1).1⟩
   by_cases e:id=p
   ·subst e; rw[atp] at hj; exact absurd hj (hold b0 h.1).2
   ·rw[cC (dA e)];rw[up id e] at hj;exact h.2 id (by simpa using hid) hj
  uk:=fun b0 cr h=>by
   grind }
 refine⟨gv j p (j2 0),⟨fun i i' b0 hi hi' h h'=>?_,fun i b0 hi h=>?_,fun i bx' h hf=>?_,fun i sz0 n0 b0 h hj=>?_,fun i sz0 ver ys h=>?_,fun i b0 hi h off hxx=>?_,fun b off h=>bp (hr.zG b off h) q.size⟩,ext,?_⟩
 ·simp only[ec] at hi hi'
  by_cases e:i=p<;>by_cases e':i'=p
  ·omega
  ·subst e;rw[atp] at h; rw[up i' e'] at h';exact absurd h (hold b0 (hr.lt i' b0 hi' h')).2
  ·subst e';rw[atp] at h'; rw[up i e] at h;exact absurd h' (hold b0 (hr.lt i b0 hi h)).2
  ·rw[up i e] at h; rw[up i' e'] at h';exact hr.inj i i' b0 hi hi' h h'
 ·simp only[ec] at hi
  by_cases e:i=p
  ·subst e; rw[atp] at h; exact h2.lt 0 b0 (by simp) h
  ·rw[up i e] at h;exact bp (hr.lt i b0 hi h) q.size
 ·by_cases e:i=p
  ·subst e;rw[dC hpl] at h;cases h; cases hf
  ·rw[cC (dA e)] at h;obtain⟨b0,h1,h3⟩:=hr.fix i bx' h hf;exact⟨b0,by rw[up i e]; exact h1,h3.mono ext (hold b0 (hr.lt i b0 (aF h) h1)).1⟩
 ·by_cases e:i=p
  ·subst e; rw[atp] at hj;exact h2.tick 0 sz n b0 rfl hj
  ·rw[cC (dA e)] at h;rw[up i e] at hj;obtain⟨vs,t,h1⟩:=hr.tick i sz0 n0 b0 h hj;exact⟨vs,t,(hold b0 (lt_of_block h1)).1.trans h1⟩
 ·by_cases e:i=p
  ·subst e; rw[dC hpl] at h; cases h
  ·rw[cC (dA e)] at h;exact pR hr ext h (up i e) fun b0 h1=>(hold b0 (hr.lt i b0 (aF h) h1)).1
 ·simp only[ec] at hi
  by_cases e:i=p
  ·subst e; rw[atp] at h;exact absurd h (hold b0 (hr.zG b0 off hxx)).2
  ·rw[up i e] at h;exact hr.uC i b0 hi h off hxx
 ·cases hv with
  |plain h=>cases h
  |own hk hn h ht =>
   simp at hk;obtain⟨rfl,rfl⟩:=hk;refine .own (dC hpl) hn (h.mono fun b off hs=>⟨gX b off hs,rfl⟩) fun he=>?_
   rcases ht he with ⟨h1,h3,h4⟩|⟨b,cap,vs,t,h1,h3,h4,h5,h6⟩
   ·exact .inl ⟨by rw[atp]; exact h1,h3,h4⟩
   ·exact .inr ⟨b,cap,vs,t,by rw[atp]; exact h1,h3,h4,h5,h6⟩
theorem Oq{P:Program}{C:eL}(hC:pd P C){j:J}{G:aK}{w:World}{f p:Nat}{vs:List ag}{us:Array Value}{xs:List ag}{sz n:Nat}(hr:Rel j G w)(hG:su j G w)(hp:G[p]?=some .vm)(hf:vs.all ag.flat=true)(hi:vs.flatMap ag.ids=[])
  (h:C f vs []=some (.slice (.own 0) xs,[.tick sz n])) (hl:vs.length=us.size) (hv:∀(i:Nat)(c:ag)(u:Value),vs[i]?=some c->us[i]?=some u->fV j G w c u) :
  kJ P f=true/\Calls P f us w fun e w'=>∃v,e = .returned v/\iG j G w (.slice (.own p) xs,G.set p (.tick sz n)) v w':=by
 obtain⟨h1,h2⟩:=hC _ _ _ _ h;have s:Sub j G w _ []:=⟨kG,rfl,fun i id h=>by simp_all,fun i b hi=>by grind⟩
 refine⟨h1,(h2 _ w _ (s.rel hr) (hG.gX fun b off h=>s.gX h) hl fun i c u hc hu=>?_).mono ?_⟩
 ·have hm:=aQ hc
  have:=s.rep (hv i c u hc hu) (bu.1 hf c hm) fun q hq=>by
   have hci  := jE.1 hi c hm;rw[hci] at hq; omega
  rwa[TW (bu.1 hf c hm) (jE.1 hi c hm)] at this
 ·rintro e w' (⟨v,rfl,j2,g1,g2,g3⟩|⟨u,rfl,hu,_⟩)
  ·exact⟨v,rfl,TZ hr hp g1 g2 g3⟩
  grind
section
variable {P:Program} {C:eL} {o:Oper} {br:Env} {M:aK} {j:J} {w:World} {a:Act} {x:ag×aK}
theorem A4:∀ {xs:List ag} {l:List UInt8},bytesOf xs=some l->l.length=xs.length/\∀(i:Nat)(x:ag),xs[i]?=some x->∃n,x = .int .u8 n/\l[i]?=some (UInt8.ofNat n.toNat)
 | [],l,h=>by grind [bytesOf]
 |y::r,l,h=>by
  unfold bytesOf at h;split at h
  ·grind
  ·rename_i n r' e;injection e with e1 e2; subst e2
   obtain⟨l',h1,h⟩:=bn h;injection h with h; obtain⟨g1,g2⟩:=A4 h1
   grind
  grind
theorem EY(g:Value->ByteArray->Sem (ForInStep ByteArray))(hg:∀n s,g (.int .u8 n) s=pure (ForInStep.yield (s.push (UInt8.ofNat n.toNat)))):∀(vs:List Value)(l:List UInt8)(s:ByteArray),vs.length=l.length->(∀(i:Nat)(v:Value)(b:UInt8),vs[i]?=some v->l[i]?=some b->∃n,v = .int .u8 n/\b=UInt8.ofNat n.toNat) ->
  (forIn vs s g).run P w = .ok ⟨s.data++l.toArray⟩ w
 | [],[],s,_,_=>by rfl
 |v::vs,b::l,s,hl,h=>by
  obtain⟨n,rfl,rfl⟩:=h 0 v b rfl rfl;have:=EY g hg vs l (s.push (UInt8.ofNat n.toNat)) (by grind) fun i v b hv hb=>h (i+1) v b (by grind) (by grind)
  simp_all
 | [],_::_,_,hl,_=>by grind
 |_::_,[],_,hl,_=>by grind
theorem ac1(hr:Rel j M w)(he:cu j M w br a){s d e:TypeId}{y:Operand}{z:gM}(hop:o.op = .convert s d y)(hs:P.underlying s=some (.slice e))(hd:P.underlying d=some .string)(hu:P.underlying e=some (.int .u8))
  (hz:dZ y=some z) (h:dW C br M (.b2s z)=some x):∃v w',qQ P o a w v w'/\iG j M w x v w':=by
 simp only[dW] at h;have h1:=cF he hz;split at h
 ·rename_i tk xs ev;obtain⟨l,hl,h⟩:=bn h;cases h;rw[ev] at h1;obtain⟨g1,g2⟩:=A4 hl;refine⟨.string (bs l),w,.inl ?_,.still hr (.plain (.str _))⟩;obtain⟨A,cap,b,off,sz,vs,hv,hc,ha,hwid,hcell,hrep⟩:=h1.dD.dD
  have hrun:(Conv.bytesToString (a.eval y)).run P w = .ok (.string (bs l)) w:=by
   rw[hv];cases A with
   |none =>
    have:xs=[]:=by
     grind
    subst this;have:l=[]:=cm g1;subst this;rfl
   |some A =>
    have hload:∃us:Array Value,(loadCells A xs.length).run P w = .ok us w/\us.size=l.length/\∀(i:Nat)(v:Value)(b:UInt8),us[i]?=some v->l[i]?=some b->∃n,v = .int .u8 n/\b=UInt8.ofNat n.toNat:=by
     by_cases hx:xs=[]
     ·subst hx;have:l=[]:=cm g1;subst this;exact⟨#[],by rfl,rfl,fun i v b h=>by simp at h⟩
     ·have hA:=ha hx;cases hA
      have hsz:sz=1:=by
       cases xs with
       |nil=>grind
       |cons c r =>
        obtain⟨n,rfl,_⟩:=g2 0 c rfl;exact(hwid (.int .u8 n) (by simp)).symm
      subst hsz
      have cellOf:∀i,i<xs.length->∃n,w.cell? ⟨b,off+i,none⟩=some (vs i)/\vs i = .int .u8 n/\l[i]?=some (UInt8.ofNat n.toNat):=by
       intro i hi;have hxi:xs[i]?=some xs[i]:=aj hi;obtain⟨n,hn,hb⟩:=g2 i _ hxi;have q1:=hcell i _ 0 (.int .u8 n) hxi (by rw[hn]; rfl)
       have q2:=hrep i _ 0 (.int .u8 n) hxi (by rw[hn]; rfl)
       simp only[Nat.mul_one,cS] at q1 q2;exact⟨n,q1.1,(fV.plain (j:=j) (M:=M) q2).fM,hb⟩
      refine⟨_,oE (P:=P) (w:=w) b off xs.length vs (fun k hk=>(cellOf k hk).choose_spec.1),by simp[g1],fun i v c hi hb=>?_⟩
      grind
    obtain⟨us,u1,u2,u3⟩:=hload;simp only[Conv.bytesToString,Sem.run_bind,u1,Result.andThen_ok];rw[<-Array.forIn_toList];refine(congrArg (fun r=>Result.andThen r _) (EY (P:=P) (w:=w) _ ?_ us.toList l ByteArray.empty (by omega) fun i v b hv hb=>u3 i v b (by simpa using hv) hb)).trans ?_
    ·simp
    simp[bs]
  simp only[execOp,hop,convert,Sem.run_bind,dx hs,dx hd,Result.andThen_ok];rw[hv] at hrun ⊢;cases A<;>simp[dx hu,hrun]
 ·cases h
theorem Cx{fk:FK}{k k':ag}{b:Bool}(h:ig fk k k'=some b) :
  (∃t x y,k = .int t x/\k' = .int t y/\fk = .i/\b=(x==y))\/(∃x y,k = .str x/\k' = .str y/\fk = .s/\b=(x==y))\/∃x y,k = .bool x/\k' = .bool y/\fk = .b/\b=(x==y):=by
 unfold ig at h
 grind
def FK.is:FK->TypeDesc->Prop
 | .i,.int _=>True
 | .s,.string=>True
 | .b,.bool=>True
 |_,_=>False
theorem Es{t:TypeId}{fk:FK}(h:CU P t=some fk):∃d,P.underlying t=some d/\fk.is d:=by
 unfold CU at h
 split at h<;>first
  |(rename_i hd; cases h; exact⟨_,hd,trivial⟩)
  |grind
theorem IJ{fk:FK}{d:TypeDesc}(hd:fk.is d){k k':ag}{b:Bool}(h:ig fk k k'=some b){gX:Nat->Nat->Prop}{v v':Value}(hv:fV j M w k v)(hv':fF w gX k' v') :
  Instr.sameNow d v v'=some b/\(b=true->Instr.sameBits 10000 v' v=true)/\fF w (nR j M w) k v:=by
 rcases Cx h with ⟨t,x,y,rfl,rfl,rfl,rfl⟩|⟨x,y,rfl,rfl,rfl,rfl⟩|⟨x,y,rfl,rfl,rfl,rfl⟩
 ·have e1:=hv.fM; subst e1; cases hv';cases d<;>first|exact False.elim hd|skip
  exact⟨by simp[Instr.sameNow],fun h=>by grind [Instr.sameBits],.int _ _⟩
 ·have e1:=hv.jU; subst e1; cases hv';cases d<;>first|exact False.elim hd|skip
  have this:∀x y,(bs x==bs y)=(x==y):=fun x y=>by
   show(x.toArray==y.toArray)=(x==y)
   simp
  exact⟨by simp_all [Instr.sameNow],fun h=>by grind [Instr.sameBits],.str _⟩
 ·have e1:=hv.iY; subst e1; cases hv';cases d<;>first|exact False.elim hd|skip
  exact⟨by simp[Instr.sameNow],fun h=>by grind [Instr.sameBits],.bool _⟩
def NR{fk:FK}{k:ag}{b:Bool}(h:ig fk k k=some b){v:Value}(hv:fV j M w k v):fF w (nR j M w) k v:=by
 rcases Cx h with ⟨t,x,y,rfl,_⟩|⟨x,y,rfl,_⟩|⟨x,y,rfl,_⟩
 ·have:=hv.fM; subst this; exact .int _ _
 ·have:=hv.jU; subst this; exact .str _
 ·have:=hv.iY; subst this; exact .bool _
def DZ{fk:FK}{d:TypeDesc}(hd:fk.is d){t:TypeId}(ht:P.underlying t=some d)(e:Bool)(v:Value):(Instr.checkKey e 10000 t v).run P w = .ok () w:=by
 rw[Instr.checkKey.eq_def];simp only[Sem.run_bind,dx ht];cases fk<;>cases d<;>first|exact False.elim hd|(cases v<;>rfl)
theorem Hr{fk:FK}{d:TypeDesc}(hd:fk.is d){k:ag}{v:Value}(hv:fV j M w k v){gX:Nat->Nat->Prop}:∀ {ks vs:List ag} {es:List MapEntry} {r:Option ag} (n:Nat),uz fk k ks vs=some r ->
  ks.length=es.length->vs.length=es.length->(∀(i:Nat)(k:ag)(e:MapEntry),ks[i]?=some k->es[i]?=some e->fF w gX k e.key) ->
  (r=none/\Instr.findNow d v es n=some none)\/∃i u e,r=some u/\vs[i]?=some u/\es[i]?=some e/\Instr.findNow d v es n=some (some (n+i,e.val))
 | [],[],[],r,n,h,_,_,_=>by simp[uz] at h; exact .inl ⟨h.symm,rfl⟩
 |k'::ks,u::vs,e::es,r,n,h,h1,h2,h3=>by
  obtain⟨b,hb,h⟩:=bn h;obtain⟨s1,_⟩:=IJ hd hb hv (h3 0 k' e rfl rfl);rcases kM h with ⟨rfl,h⟩|⟨rfl,h⟩
  ·injection h with h
   exact .inr ⟨0,u,e,h.symm,rfl,rfl,by grind [Instr.findNow]⟩
  ·have hf:Instr.findNow d v (e::es) n=Instr.findNow d v es (n+1):=by rw[Instr.findNow,s1]
   rcases Hr hd hv (n+1) h (by simpa using h1) (by simpa using h2) (fun i k e hk he=>h3 (i+1) k e (by grind) (by grind)) with ⟨g1,g2⟩|⟨i,u',e',g1,g2,g3,g4⟩
   ·grind
   ·exact .inr ⟨i+1,u',e',g1,by grind,by grind,by grind⟩
 | [],_::_,[],_,_,_,_,h2,_=>by simp at h2
 |_::_,[],_::_,_,_,_,_,h2,_=>by simp at h2
 | [],_,_::_,_,_,_,h1,_,_=>by simp at h1
 |_::_,_,[],_,_,_,h1,_,_=>by simp at h1
theorem Hs{fk:FK}{d:TypeDesc}(hd:fk.is d){k y:ag}{v:Value}(hv:fV j M w k v){gX:Nat->Nat->Prop}:∀ {ks vs:List ag} {es:List MapEntry} {r:List ag×List ag} (n:Nat),sH fk k y ks vs=some r ->
  ks.length=es.length->vs.length=es.length->(∀(i:Nat)(k:ag)(e:MapEntry),ks[i]?=some k->es[i]?=some e->fF w gX k e.key) ->
  fF w (nR j M w) k v/\((r=(ks++[k],vs++[y])/\Instr.findNow d v es n=some none)\/∃i e,r=(ks.set i k,vs.set i y)/\es[i]?=some e/\Instr.sameBits 10000 e.key v=true/\Instr.findNow d v es n=some (some (n+i,e.val)))
 | [],[],[],r,n,h,_,_,_=>by
  obtain⟨b,hb,h⟩:=bn h;injection h with h
  exact⟨NR hb hv,.inl ⟨h.symm,rfl⟩⟩
 |k'::ks,u::vs,e::es,r,n,h,h1,h2,h3=>by
  obtain⟨b,hb,h⟩:=bn h;obtain⟨s1,s2,s3⟩:=IJ hd hb hv (h3 0 k' e rfl rfl);refine⟨s3,?_⟩;rcases kM h with ⟨rfl,h⟩|⟨rfl,h⟩
  ·injection h with h
   exact .inr ⟨0,e,h.symm,rfl,s2 rfl,by grind [Instr.findNow]⟩
  ·obtain⟨r',h',h⟩:=bn h;cases h;have hf:Instr.findNow d v (e::es) n=Instr.findNow d v es (n+1):=by rw[Instr.findNow,s1]
   rcases(Hs hd hv (n+1) h' (by simpa using h1) (by simpa using h2) (fun i k e hk he=>h3 (i+1) k e (by grind) (by grind))).2 with ⟨g1,g2⟩|⟨i,e',g1,g2,g3,g4⟩
   ·grind
   ·exact .inr ⟨i+1,e',by rw[g1]; rfl,by grind,g3,by rw[hf,g4]; grind⟩
 | [],_::_,[],_,_,_,_,h2,_=>by grind
 |_::_,[],_::_,_,_,_,_,h2,_=>by grind
 | [],_,_::_,_,_,_,h1,_,_=>by simp at h1
 |_::_,_,[],_,_,_,h1,_,_=>by grind
def Bx.rep{x:ag}{v:Value}(h:Bx w (nR j M w) x v):fV j M w x v:=by
 by_cases hag:∃cs,x = .agg cs
 ·obtain⟨cs,rfl⟩:=hag;obtain⟨us,rfl,h2,h3⟩:=h;exact .agg h2 fun i c u hc hu => .plain (h3 i c u hc hu)
 ·cases x<;>first|exact absurd ⟨_,rfl⟩ hag|exact .plain h
theorem EC(hr:Rel j M w){m:ag}{v:Value}{e:List ag×List ag}(h:mapOf M m=some e)(hm:fV j M w m v):∃(b:Nat) (es:Array MapEntry) (clock:Nat),v = .map (some b)/\w.heap[b]?=some (.map es clock) /\
  e.1.length=es.size/\e.2.length=es.size/\(∀(i:Nat)(k:ag)(e':MapEntry),e.1[i]?=some k->es[i]?=some e'->fF w (nR j M w) k e'.key)/\∀(i:Nat)(k:ag)(e':MapEntry),e.2[i]?=some k->es[i]?=some e'->fV j M w k e'.val:=by
 unfold mapOf at h;split at h
 ·split at h
  ·rename_i ks vs hM;injection h with h; rw[eJ] at hM
   obtain⟨b,_,hj,rfl⟩:=hm.uY;obtain⟨b',hj',es,clock,g1,g2,g3,g4,g5⟩:=hr.fix _ _ hM rfl
   grind
  grind
 ·cases h;cases hm with
  |plain h=>cases h
  |iB hb hf hx hw hk hv hks hvs=>exact⟨_,_,_,rfl,hw,hk,hv,hks,fun i k e h1 h2=>(hvs i k e h1 h2).rep⟩
 ·cases h
theorem Ie{zero:ag}{ok:Bool}{r:Option ag}{v:Value}(h:fV j M w (r.getD zero) v):fV j M w (mr zero ok r) (if ok then .tuple #[v,.bool r.isSome] else v):=by
 cases ok with
 |false=>exact h
 |true =>
  refine .tuple rfl fun i c u hc hu=>?_
  match i with
  |0=>grind
  |1=>simp at hc hu; subst hc; subst hu; exact .plain (.bool _)
  |n+2=>simp_all
def WT(hr:Rel j M w)(he:cu j M w br a){t kt et:TypeId}{m k:Operand}{m' k':gM}{ok:Bool}{fk:FK}{ie:TypeInfo}{zv:Value}{z:ag}(hop:o.op = .lookup t m k ok)(ht:P.underlying t=some (.map kt et))
  (hk:CU P kt=some fk) (hi:P.info? et=some ie) (hz:ie.zero=some zv) (hzv:Pe zv=some z) (hm':dZ m=some m') (hk':dZ k=some k') (h:dW C br M (.look fk z ok m' k')=some x) :
  ∃v w',qQ P o a w v w'/\iG j M w x v w':=by
 simp only[dW] at h;obtain⟨e,h1,h⟩:=bn h;obtain⟨r,h2,h⟩:=bn h;cases h;obtain⟨d,hd,hfk⟩:=Es hk;obtain⟨b,es,clock,hv,hb,g1,g2,g3,g4⟩:=EC hr h1 (cF he hm');have hc:∀q,(Instr.checkKey q 10000 kt (a.eval k)).run P w = .ok () w:=fun q=>DZ hfk hd q _
 rcases Hr hfk (cF he hk') (es:=es.toList) 0 h2 (by simpa using g1) (by simpa using g2) (fun i k e hk he=>g3 i k e hk (by simpa using he)) with ⟨rfl,f1⟩|⟨i,u,e',rfl,f2,f3,f1⟩
 ·refine⟨if ok then .tuple #[zv,.bool false] else zv,w,.inl ?_,.still hr (Ie (r:=none) (GS hzv))⟩
  simp[execOp,hop,Instr.lookup,dx ht,hv,MapKept.run_getObj_map hb,hc,Instr.findKey,dx hd,f1,zeroValue,py hi,hz]
 ·refine⟨if ok then .tuple #[e'.val,.bool true] else e'.val,w,.inl ?_,.still hr (Ie (r:=some u) (g4 i u e' f2 (by simpa using f3)))⟩
  simp[execOp,hop,Instr.lookup,dx ht,hv,MapKept.run_getObj_map hb,hc,Instr.findKey,dx hd,f1]
def WQ(hr:Rel j M w)(he:cu j M w br a){c:Call}{y:Operand}{z:gM}{t k e:TypeId}(hop:o.op = .call c)(hb:c.callee = .builtin .len)(ha:c.args.toList=[y])
  (ht:c.argTypes[0]?=some t) (hs:P.underlying t=some (.map k e)) (hz:dZ y=some z) (h:dW C br M (.NW z)=some x):∃v w',qQ P o a w v w'/\iG j M w x v w':=by
 simp only[dW] at h;obtain⟨e,h1,h⟩:=bn h;cases h;obtain⟨b,es,clock,hv,hbl,g1,g2,g3,g4⟩:=EC hr h1 (cF he hz);have ha':c.args = #[y]:=by rw[<-ha]
 refine⟨.int .i64 e.1.length,w,.inl ?_,.still hr (.plain (.int _ _))⟩;simp[execOp,hop,resolve,hb,invoke,builtin,Builtin.len_,ha',ht,dx hs,hv,MapKept.run_getObj_map hbl,goInt,g1]
def Mc(hr:Rel j M w){bx:cA}{ob:Obj}(hfx:bx.fixed=true)(hh:∀j' M' (w':World),w'.heap[w.heap.size]?=some ob->Holds j' M' w' w.heap.size bx) :
  ∃j':J,Rel j' (M++[bx]) { w with heap:=w.heap.push ob }/\Ext j M w j' (M++[bx]) { w with heap:=w.heap.push ob }/\j' M.length=some w.heap.size:=by
 have q:Quiet w { w with heap:=w.heap.push ob }:=⟨by simp,rfl,rfl,rfl⟩
 have hb:∀b,b<w.heap.size->({ w with heap:=w.heap.push ob }:World).heap[b]?=w.heap[b]?:=fun b hb=>by
  show(w.heap.push _)[b]?=_
  rw[fI,ak (by omega)]
 have hn:({ w with heap:=w.heap.push ob }:World).heap[w.heap.size]?=some ob:=by simp
 refine⟨gv j M.length (some w.heap.size),hr.push (fun b h=>?_) q hb (fun _=>?_) (fun sz n b h=>by rw[h] at hfx; cases hfx) (fun sz v xs h=>by rw[h] at hfx; cases hfx),Ext.push (fun b h=>?_) q hb,by simp[gv]⟩
 ·cases h; simp
 ·exact⟨_,rfl,fun j' M' hx=>hh j' M' _ hn⟩
 ·injection h with h; omega
def Ts(hr:Rel j M w){t:TypeId}(hop:o.op = .makeMap t none)(h:dW C br M .mkMap=some x):∃v w',qQ P o a w v w'/\iG j M w x v w':=by
 simp only[dW] at h;cases h;obtain⟨j',h1,h2,h3⟩:=Mc (ob := .map #[] 0) (bx := .map [] []) hr rfl fun j' M' w' hw=>⟨#[],0,hw,rfl,rfl,fun i k e h=>by simp at h,fun i k e h=>by simp at h⟩
 exact⟨.map (some w.heap.size),_,.inl (by simp[execOp,hop,Instr.makeMap]),j',h1,h2,.gD ⟨[],[],by simp⟩ h3⟩
def WW(hr:Rel j M w)(he:cu j M w br a){t:TypeId}{y:Operand}{z:gM}(hop:o.op = .range t y)(ht:P.underlying t=some .string)(hz:dZ y=some z)(h:dW C br M (.Ot z)=some x):∃v w',qQ P o a w v w'/\iG j M w x v w':=by
 simp only[dW] at h;have h0:=cF he hz;split at h
 ·rename_i s e;rw[e] at h0;cases h;obtain⟨j',h1,h2,h3⟩:=Mc (ob := .stringIter (bs s) 0) (bx := .nB s 0) hr rfl fun j' M' w' hw=>hw
  exact⟨.pointer (some ⟨w.heap.size,0,none⟩),_,.inl (by simp[execOp,hop,Instr.range,dx ht,h0.jU]),j',h1,h2,.jx ⟨s,0,by simp⟩ h3⟩
 ·cases h
def Gu(hr:Rel j M w){id b:Nat}{bx bx':cA}{ob:Obj}(hM:M[id]?=some bx)(hfx:bx.fixed=true)(htag:bx'.tag=bx.tag)(hj:j id=some b)(hnc:∀vs t fr,w.heap[b]?≠some (.cells vs t fr))
  (hh:∀j' M' (w':World),Ext j M w j' M' w'->w'.heap[b]?=some ob->Holds j' M' w' b bx') :
  Rel j (M.set id bx') { w with heap:=w.heap.setIfInBounds b ob }/\Ext j M w j (M.set id bx') { w with heap:=w.heap.setIfInBounds b ob }:=by
 have q:Quiet w { w with heap:=w.heap.setIfInBounds b ob }:=⟨by simp,rfl,rfl,rfl⟩
 have hb:∀b',b'≠b->b'<w.heap.size->({ w with heap:=w.heap.setIfInBounds b ob }:World).heap[b']?=w.heap[b']?:=fun b' hne _=>by
  show(w.heap.setIfInBounds b ob)[b']?=_
  rw[eR (dA hne)]
 have cr:b<w.heap.size:=hr.lt id b (aF hM) hj
 have hn:({ w with heap:=w.heap.setIfInBounds b ob }:World).heap[b]?=some ob:=by
  show(w.heap.setIfInBounds b ob)[b]?=_
  simp[cr]
 exact⟨Rel.store hM hfx htag hj hr q hb (fun vs t fr h=>absurd h (hnc vs t fr)) fun j' M' hx=>hh j' M' _ hx hn,Ext.store hM hfx htag hj hr q hb (fun vs t fr h=>absurd h (hnc vs t fr))⟩
def Tu(hr:Rel j M w)(he:cu j M w br a){y:Operand}{z:gM}(hop:o.op = .next y true)(hz:dZ y=some z)(h:dW C br M (.EM z)=some x):∃v w',qQ P o a w v w'/\iG j M w x v w':=by
 simp only[dW] at h;have h0:=cF he hz;split at h
 ·rename_i id e;rw[e] at h0;obtain⟨b,_,hj,hv⟩:=h0.CQ;split at h
  ·rename_i s pos hM;rw[eJ] at hM;obtain⟨b',hj',hw⟩:=hr.fix _ _ hM rfl;rw[hj] at hj'; cases hj';have hw:w.heap[b]?=some (.stringIter (bs s) pos):=hw;have hsz:(bs s).size=s.length:=by simp[bs,ByteArray.size]
   have hget:(getObj b).run P w = .ok (.stringIter (bs s) pos) w:=by simp[getObj,Sem.run,hw]
   rcases kM h with ⟨cr,h⟩|⟨cr,h⟩<;>(cases h)
   ·have hlt':pos<s.length:=by simpa using cr
    have hset:∀ob,(setObj b ob).run P w = .ok () { w with heap:=w.heap.setIfInBounds b ob }:=fun ob=>by simp[setObj,Sem.run,hw]
    obtain⟨r1,r2⟩:=Gu (ob := .stringIter (bs s) (pos+(Utf8.decode (bs s) pos).2)) (bx' := .nB s (pos+(Utf8.decode ⟨s.toArray⟩ pos).2)) hr hM rfl rfl hj (fun vs t fr h=>by rw[hw] at h; cases h) fun j' M' w' _ hw=>hw
    refine⟨.tuple #[.bool true,goInt pos,.int .i32 (Utf8.decode (bs s) pos).1],{ w with heap:=w.heap.setIfInBounds b (.stringIter (bs s) (pos+(Utf8.decode (bs s) pos).2)) },.inl ?_,j,?_,?_,?_⟩
    ·simp[execOp,hop,Instr.next,hv,hget,hsz,hlt',hset]
    ·rw[fN]; exact r1
    ·rw[fN]; exact r2
    ·refine .tuple rfl fun i c u hc hu=>?_
     match i with
     |0=>simp at hc hu; subst hc; subst hu; exact .plain (.bool _)
     |1=>simp at hc hu; subst hc; subst hu; exact .plain (.int _ _)
     |2=>simp at hc hu; subst hc; subst hu; exact .plain (.int _ _)
     |n+3=>simp at hc
   ·have hlt':¬pos<s.length:=by simpa using cr
    refine⟨.tuple #[.bool false],w,.inl ?_,.still hr (.tuple rfl fun i c u hc hu=>?_)⟩
    ·simp[execOp,hop,Instr.next,hv,hget,hsz,hlt']
    ·match i with
     |0=>simp at hc hu; subst hc; subst hu; exact .plain (.bool _)
     |n+1=>simp at hc
  ·cases h
 ·cases h
def Tx(hr:Rel j M w)(he:cu j M w br a){t kt et:TypeId}{m k y:Operand}{m' k' y':gM}{fk:FK}(hop:o.op = .mapUpdate t m k y\/o.op = .insert t m k y)(ht:P.underlying t=some (.map kt et))
  (hk:CU P kt=some fk) (hm':dZ m=some m') (hk':dZ k=some k') (hyr:fV j M w (y'.ev br) (a.eval y)) (h:dW C br M (.gv fk m' k' y')=some x):∃v w',qQ P o a w v w'/\iG j M w x v w':=by
 simp only[dW] at h;have h0:=cF he hm';split at h
 ·rename_i id e;rw[e] at h0;split at h
  ·rename_i ks vs hM;obtain⟨r,hr',h⟩:=bn h;cases h;rw[eJ] at hM;obtain⟨b,_,hj,hv⟩:=h0.uY;obtain⟨b',hj',es,clock,hb,g2,g3,g4,g5⟩:=hr.fix _ _ hM rfl;rw[hj] at hj'; cases hj';obtain⟨d,hd,hfk⟩:=Es hk;have hc:∀q,(Instr.checkKey q 10000 kt (a.eval k)).run P w = .ok () w:=fun q=>DZ hfk hd q _
   obtain⟨kp,hf⟩:=Hs hfk (cF he hk') (es:=es.toList) 0 hr' (by simpa using g2) (by simpa using g3) (fun i k e hk he=>g4 i k e hk (by simpa using he))
   have hset:∀ob,(setObj b ob).run P w = .ok () { w with heap:=w.heap.setIfInBounds b ob }:=fun ob=>MapKept.run_setObj_map ob hb
   rcases hf with ⟨rfl,f1⟩|⟨i,e',rfl,f3,f4,f1⟩
   ·obtain⟨r1,r2⟩:=Gu (ob := .map (es.push { key:=a.eval k,val:=a.eval y,born:=clock }) (clock+1)) (bx' := .map (ks++[k'.ev br]) (vs++[y'.ev br])) hr hM rfl rfl hj (fun vs t fr h=>by rw[hb] at h; cases h) fun j' M' w' hx hw=>by
     refine⟨_,_,hw,by simp[g2],by simp[g3],fun i k e hk he=>?_,fun i k e hk he=>?_⟩
     ·rw[fI] at he;rw[nq] at hk
      by_cases hi:i=es.size
      ·subst hi;simp[g2] at hk he;subst hk; subst he;exact kp.mono hx.gX
      ·rw[ak hi] at he;have hi':i<es.size:=(fj.1 he).1;rw[az (by omega)] at hk
       exact(g4 i k e hk he).mono hx.gX
     ·rw[fI] at he;rw[nq] at hk
      by_cases hi:i=es.size
      ·subst hi;simp[g3] at hk he;subst hk; subst he;exact hyr.mono hx
      ·rw[ak hi] at he;have hi':i<es.size:=(fj.1 he).1;rw[az (by omega)] at hk
       exact(g5 i k e hk he).mono hx
    refine⟨undef,{ w with heap:=w.heap.setIfInBounds b (.map (es.push { key:=a.eval k,val:=a.eval y,born:=clock }) (clock+1)) },.inr ⟨?_,rfl⟩,j,?_,?_,.any _⟩
    ·rcases hop with hop|hop<;>simp[execOp,hop,Instr.mapUpdate,dx ht,hv,MapKept.run_getObj_map hb,hc,Instr.findKey,dx hd,f1,hset]
    ·rw[fN]; exact r1
    ·rw[fN]; exact r2
   ·have hi:i<es.size:=by simpa using(aC.1 f3).1
    have he':es[i]?=some e':=by simpa using f3
    obtain⟨r1,r2⟩:=Gu (ob := .map (es.modify i fun e=>{ e with key:=a.eval k,val:=a.eval y }) clock) (bx' := .map (ks.set i (k'.ev br)) (vs.set i (y'.ev br))) hr hM rfl rfl hj (fun vs t fr h=>by rw[hb] at h; cases h) fun j' M' w' hx hw=>by
     refine⟨_,_,hw,by simp[g2],by simp[g3],fun q k e hk he=>?_,fun q k e hk he=>?_⟩
     ·rw[eY] at he
      by_cases hq:i=q
      ·subst hq;simp[he'] at he;rw[er (by omega)] at hk
       cases hk; subst he;exact kp.mono hx.gX
      ·rw[ak hq] at he;rw[fu hq] at hk;exact(g4 q k e hk he).mono hx.gX
     ·rw[eY] at he
      by_cases hq:i=q
      ·subst hq;simp[he'] at he;rw[er (by omega)] at hk
       cases hk; subst he;exact hyr.mono hx
      ·rw[ak hq] at he;rw[fu hq] at hk;exact(g5 q k e hk he).mono hx
    refine⟨undef,{ w with heap:=w.heap.setIfInBounds b (.map (es.modify i fun e=>{ e with key:=a.eval k,val:=a.eval y }) clock) },.inr ⟨?_,rfl⟩,j,?_,?_,.any _⟩
    ·rcases hop with hop|hop<;>simp[execOp,hop,Instr.mapUpdate,dx ht,hv,MapKept.run_getObj_map hb,hc,Instr.findKey,dx hd,f1,hset,he',Instr.keyThatStays,f4]
    ·rw[fN]; exact r1
    ·rw[fN]; exact r2
  ·cases h
 ·cases h
end
def jA(xs:List ag):List ag:=xs.flatMap ag.cells
def oo(x:ag)(xs:List ag):jA (x::xs)=x.cells++jA xs:=rfl
def om(xs ys:List ag):jA (xs++ys)=jA xs++jA ys:=by simp[jA]
def ij{sz:Nat}:∀ {xs:List ag},wid xs sz->(jA xs).length=xs.length*sz
 | [],_=>by simp[jA]
 |x::xs,h=>by
  rw[oo,aJ,h x (aD ..),ij fun y hy=>h y (aO _ hy),av,bO]
  omega
def mQ{sz:Nat}{xs ys:List ag}(h1:wid xs sz)(h2:wid ys sz):wid (xs++ys) sz:=fun x hx=>(bS.1 hx).elim (h1 x) (h2 x)
def vk{sz n:Nat}{xs:List ag}(h:wid xs sz):wid (xs.take n) sz:=fun x hx=>h x (di hx)
def vj{sz n:Nat}{xs:List ag}(h:wid xs sz):wid (xs.drop n) sz:=fun x hx=>h x (dv hx)
def rL{sz:Nat}:∀(n:Nat){xs:List ag},wid xs sz->jA (xs.take n)=(jA xs).take (n*sz)
 |0,_,_=>by simp[jA]
 |n+1,[],_=>by simp[jA]
 |n+1,x::xs,h=>by
  have hx:=h x (aD ..);have e:(n+1)*sz=sz+n*sz:=by rw[bO]; omega
  rw[oe,oo,oo,rL n fun y hy=>h y (aO _ hy),List.take_append,hx,e,iv,cj (l:=x.cells) (by omega)]
def tE{sz:Nat}:∀(n:Nat){xs:List ag},wid xs sz->jA (xs.drop n)=(jA xs).drop (n*sz)
 |0,_,_=>by simp
 |n+1,[],_=>by simp[jA]
 |n+1,x::xs,h=>by
  have hx:=h x (aD ..);have e:(n+1)*sz=sz+n*sz:=by rw[bO]; omega
  rw[n9,oo,tE n fun y hy=>h y (aO _ hy),List.drop_append,hx,e,iv,List.drop_of_length_le (l:=x.cells) (by omega),aX]
theorem z8{sz:Nat}:∀ {xs:List ag},wid xs sz->∀ {q:Nat} {x:ag} {k:Nat} {c:ag},xs[q]?=some x->x.cells[k]?=some c->(jA xs)[q*sz+k]?=some c
 | [],_,q,x,k,c,hx,_=>by grind
 |y::xs,h,0,x,k,c,hx,hk=>by
  simp at hx; subst hx;rw[oo,jb,aP,bj (aC.1 hk).1];omega
 |y::xs,h,q+1,x,k,c,hx,hk=>by
  have hy:=h y (aD ..);rw[oo,bq (by rw[bO]; omega),hy]
  rw[show(q+1)*sz+k-sz=q*sz+k by rw[bO]; omega]
  exact z8 (fun z hz=>h z (aO _ hz)) (by grind) hk
theorem CC{sz:Nat}{xs:List ag}(h:wid xs sz){p:Nat}{c:ag}(hp:(jA xs)[p]?=some c):∃q x k,xs[q]?=some x/\x.cells[k]?=some c/\p=q*sz+k:=by
 have cr:p<xs.length*sz:=by rw[<-ij h]; grind
 have hsz:0<sz:=by
  grind
 have hq:p / sz<xs.length:=by rw[kh hsz]; omega
 have hk:p % sz<(xs[p / sz]).cells.length:=by rw[h _ (jI _)]; simp_all [iE]
 grind [Nat.mul_comm,Nat.div_add_mod,z8]
def RL(w:World)(gX:Nat->Nat->Prop)(cs:List ag)(vs:List Value):Prop:=cs.length=vs.length/\∀(p:Nat)(c:ag)(v:Value),cs[p]?=some c->vs[p]?=some v->fF w gX c v
section
variable {w w':World} {gX saf':Nat->Nat->Prop} {cs ds:List ag} {us vs:List Value}
def RL.append(h:RL w gX cs us)(k:RL w gX ds vs):RL w gX (cs++ds) (us++vs):=by
 refine⟨by simp[h.1,k.1],fun p c v hc hv=>?_⟩
 rcases bG p _ with hp|hp
 ·rw[bj hp] at hc;rw[bj (by rw[<-h.1]; omega)] at hv
  exact h.2 p c v hc hv
 ·rw[bq hp] at hc;rw[bq (by rw[<-h.1]; omega),<-h.1] at hv
  exact k.2 _ c v hc hv
theorem RL.take(n:Nat)(h:RL w gX cs us):RL w gX (cs.take n) (us.take n):=by
 refine⟨by simp[h.1],fun p c v hc hv=>?_⟩
 rw[gF] at hc hv;split at hc
 ·rename_i hp;rw[az hp] at hv;exact h.2 p c v hc hv
 grind
def RL.drop(n:Nat)(h:RL w gX cs us):RL w gX (cs.drop n) (us.drop n):=by
 refine⟨by simp[h.1],fun p c v hc hv=>?_⟩
 rw[cG] at hc hv;exact h.2 _ c v hc hv
def RL.mono(hm:∀b off,gX b off->saf' b off/\w'.cell? ⟨b,off,none⟩=w.cell? ⟨b,off,none⟩)(h:RL w gX cs us):RL w' saf' cs us:=⟨h.1,fun p c v hc hv=>(h.2 p c v hc hv).mono hm⟩
end
section
variable {j:J} {M:aK} {w:World}
theorem xe{b sz:Nat}{xs:List ag}{vs:Array Value}(hl:xs.length*sz<=vs.size)(hwd:wid xs sz)
  (hc:∀(q:Nat)(x:ag)(k:Nat)(c:ag),xs[q]?=some x->x.cells[k]?=some c->∃v,vs[q*sz+k]?=some v/\fF w (nR j M w) c v):RL w (nR j M w) (jA xs) (vs.toList.take (xs.length*sz)):=by
 refine⟨by rw[ij hwd]; grind,fun p c v hp hv=>?_⟩
 obtain⟨q,x,k,h1,h2,rfl⟩:=CC hwd hp
 grind
theorem lC{j':J}{M':aK}{w':World}{b sz:Nat}{t:TypeId}{xs:List ag}{us:List Value}{vs:Array Value}(hw:w'.heap[b]?=some (.cells vs t (0,0)))(hwd:wid xs sz)(hr:RL w' (nR j' M' w') (jA xs) us)
  (hv:∀p,p<us.length->vs[p]?=us[p]?):DM j' M' w' b sz xs:=by
 have eU:us.length=xs.length*sz:=by rw[<-hr.1,ij hwd]
 refine⟨vs,t,hw,?_,hwd,fun q x k c hx hk=>?_⟩
 ·grind
 ·have h1:=z8 hwd hx hk;have hp:q*sz+k<us.length:=by rw[<-hr.1]; grind
  exact⟨us[q*sz+k],by rw[hv _ hp,aj _],hr.2 _ _ _ h1 (aj _)⟩
theorem Ac:∀(ids:List Nat){M:aK}{i:Nat}{bx:cA},M[i]?=some bx->(∀sz v xs,bx ≠ .arr sz v xs)->(Ab M ids)[i]?=some bx
 | [],_,_,_,h,_=>h
 |a::r,M,i,bx,h,hn=>by
  simp[Ab,eJ];split
  ·refine Ac r ?_ hn
   grind [fN]
  ·exact Ac r h hn
theorem F2:∀(ids:List Nat){M:aK},Rel j M w->Ext j M w j (Ab M ids) w/\Rel j (Ab M ids) w/\(Ab M ids).length=M.length/\∀id,id∈ids->∀sz v xs,M[id]?=some (.arr sz v xs)->(Ab M ids)[id]?=some (.tick sz xs.length)
 | [],M,hr=>⟨.refl _ _ _,hr,rfl,fun id h=>by cases h⟩
 |a::r,M,hr=>by
  simp only[Ab,eJ];split
  ·rename_i sz v xs hM;rw[fN];obtain⟨h1,h2,h3,h4⟩:=F2 r (Rel.freeze hM hr);refine⟨(Ext.freeze hM).trans h1,h2,by rw[h3]; simp,fun id hid sz' v' xs' hid'=>?_⟩
   grind [id,Ac,dC,aF]
  ·obtain⟨h1,h2,h3,h4⟩:=F2 r hr
   grind
def fV.pn{M':aK}(hr:Rel j M w)(hx:Ext j M w j M' w)(hr':Rel j M' w)(hl:M'.length=M.length){x:ag}{v:Value}(h:fV j M w x v)(hf:∀id,id∈x.hU->∀sz v xs,M[id]?=some (.arr sz v xs)->M'[id]?=some (.tick sz xs.length)):fV j M' w (x.pn M) v:=by
 cases x<;>try exact h.mono hx
 rename_i id ver sz lo hi;simp[ag.pn,eJ];split
 ·rename_i sz' v' xs hM;split
  ·rename_i hv;subst hv;obtain⟨_,hid,_,g⟩:=h.nw;obtain⟨e1,l1,l2,⟨rfl,_,A,rfl⟩|⟨b,cap,vs,t,l3,l4,l5,l6,l7⟩⟩:=(g sz' v' xs hM).2 rfl
   ·simp;exact .plain (fF.nil _ _ _)
   subst e1;obtain⟨b',vs',t',k1,k2,k3,k4,k5⟩:=hr.yb hM l3;rw[l3] at k1; cases k1;rw[l4];refine .plain (xf k2 k4 k5 (fun b off hs=>(hx.gX b off hs).1) (fun off ho=>⟨hr'.lt id b (by rw[hl]; exact aF hM) l3,fun i hi hji=>?_,hr'.uC id b (by omega) l3 off⟩) l1 l2 l5)
   have  := hr'.inj i id b hi (by rw[hl]; exact aF hM) hji l3
   subst this;exact⟨sz',xs.length,hf i (by simp[ag.hU]) _ _ _ hM,ho⟩
  ·exact .any _
 ·exact .any _
theorem fV.yq{M':aK}(hr:Rel j M w)(hx:Ext j M w j M' w)(hr':Rel j M' w)(hl:M'.length=M.length){x:ag}{v:Value}(h:fV j M w x v)(hf:∀id,id∈x.ids->∀sz v xs,M[id]?=some (.arr sz v xs)->M'[id]?=some (.tick sz xs.length)):fV j M' w (x.yq M) v:=by
 by_cases hag:∃cs,x = .agg cs
 ·obtain⟨cs,rfl⟩:=hag;obtain⟨vs,rfl,hl',hc⟩:=h.lY;refine .agg (by grind) fun i c u hi hu=>?_
  rw[aY,aN] at hi;obtain⟨c0,hc0,rfl⟩:=hi;refine(hc i c0 u hc0 hu).pn hr hx hr' hl fun id hid=>hf _ ?_
  refine hZ.2 ⟨c0,aQ hc0,?_⟩;cases c0<;>first|exact hid|(simp[ag.hU] at hid)
 ·have:x.yq M=x.pn M:=by cases x<;>first|rfl|grind
  rw[this];refine h.pn hr hx hr' hl fun id hid=>hf id ?_
  cases x<;>first|exact hid|exact absurd _ _|grind [ag.hU]
end
section
variable {P:Program} {C:eL} {o:Oper} {br:Env} {M:aK} {j:J} {w:World} {a:Act} {x:ag×aK}
theorem rm(z:Array Value)(n:Nat):(Builtin.zeroCells z n).toList=(List.replicate n z.toList).flatten:=by
 induction n with
 |zero=>simp[Builtin.zeroCells]
 |succ n ih =>
  rw[nu,List.flatten_append,<-ih];apply cN;intro i;simp only[Builtin.zeroCells,Array.toList_map,Array.toList_range,List.flatten_cons,List.flatten_nil,bV];rcases bG i (n*z.size) with h|h
  ·grind
  ·rw[bq (by grind)]
   simp only[aH,ku];rcases bG i ((n+1)*z.size) with h2|h2
   ·have h3:i-n*z.size<z.size:=by rw[bO] at h2; omega
    have h4:i % z.size=i-n*z.size:=by
     have:i=(i-n*z.size)+n*z.size:=by omega
     rw[this,Nat.add_mul_mod_self_right,Nat.mod_eq_of_lt h3]; omega
    rw[aY,fJ h2];simp[h4,h3]
   grind
def Nr(n:Nat)(zero:List ag):jA (List.replicate n (.agg zero))=(List.replicate n zero).flatten:=by
 induction n with
 |zero=>rfl
 |succ n ih=>rw[iJ,oo,ih]; rfl
theorem Pb{gX:Nat->Nat->Prop}(n:Nat){cs:List ag}{us:List Value}(h:RL w gX cs us):RL w gX (List.replicate n cs).flatten (List.replicate n us).flatten:=by
 induction n with
 |zero=>exact⟨rfl,fun p c v hc=>by simp⟩
 |succ n ih=>exact h.append ih
theorem xd{id b sz ver ver':Nat}{xs xs':List ag}{vs vs':Array Value}{t:TypeId}{us:List Value}{w':World}(hr:Rel j M w)(hM:M[id]?=some (.arr sz ver xs))(hj:j id=some b)(q:Quiet w w')
  (hb:∀b',b'≠b->b'<w.heap.size->w'.heap[b']?=w.heap[b']?) (hw:w.heap[b]?=some (.cells vs t (0,0))) (hw':w'.heap[b]?=some (.cells vs' t (0,0))) (hs:vs'.size=vs.size)
  (hv:ver<=ver') (hl:ver'=ver->xs'.length=xs.length) (hwd:wid xs' sz) (hrl:RL w (nR j M w) (jA xs') us) (hus:∀p,p<us.length->vs'[p]?=us[p]?) :
  Rel j (M.set id (.arr sz ver' xs')) w'/\Ext j M w j (M.set id (.arr sz ver' xs')) w':=by
 have hwr:∀vs0 t1,w.heap[b]?=some (.cells vs0 t1 (0,0))->∃vs1,w'.heap[b]?=some (.cells vs1 t1 (0,0))/\vs1.size=vs0.size:=fun vs0 t1 h=>by
  grind
 exact⟨Rel.DR hM hj hr q hb hwr hv hl fun j' M' hx=>lC hw' hwd (hrl.mono hx.gX) hus,Ext.DR hM hj hr q hb hwr hv hl⟩
theorem B5{l:List ag}{vs:List Value}(hl:sM vs=some l)(hp:(l.map ag.shut).all ag.plainCell=true):RL w (nR j M w) (l.map ag.shut) vs/\∀v,v∈vs->v.oneCell'=true:=by
 obtain⟨h1,h2⟩:=pQ (j:=j) (M:=M) (w:=w) hl;rw[List.all_map,bu] at hp;refine⟨⟨by grind,fun p c v hc hv=>?_⟩,fun v hv=>?_⟩
 ·grind [zw,List.mem_of_getElem?]
 ·obtain⟨p,hp',rfl⟩:=jG hv;have hpl:p<l.length:=by omega
  exact Cl (h2 p _ _ (aj hpl) (aj hp')) (Br (hp _ (jI hpl)))
theorem N7(hr:Rel j M w)(he:cu j M w br a){c:Call}{y:Operand}{z:gM}{t e:TypeId}{i:TypeInfo}{zv:Value}{l:List ag}(hop:o.op = .call c)(hb:c.callee = .builtin .clear)(ha:c.args.toList=[y])
  (ht:c.argTypes.toList=[t]) (hs:P.underlying t=some (.slice e)) (hi:P.info? e=some i) (hzv:i.zero=some zv) (hl:sM zv.cells.toList=some l) (hsz:l.length=i.size) (hz:dZ y=some z)
  (h:dW C br M (.zW i.size (l.map ag.shut) z)=some x):∃v w',qQ P o a w v w'/\iG j M w x v w':=by
 simp only[dW] at h;have h1:=cF he hz;have ha':c.args = #[y]:=by rw[<-ha]
 have ht':c.argTypes = #[t]:=by rw[<-ht]
 split at h
 ·rename_i tk xs ez;rw[ez] at h1;split at h
  ·cases h;obtain⟨A,cap,b,off,sz,vs,hv,_⟩:=h1.dD.dD;refine⟨.tuple #[],w,.inl ?_,.still hr (.any _)⟩;cases A<;>simp[execOp,hop,resolve,hb,invoke,builtin,Builtin.clear_,ha',ht',dx hs,hv]
  ·cases h
 ·rename_i id ver sz' lo hi' ez;rw[ez] at h1;rw[eJ] at h;split at h
  ·rename_i sz0 v0 xs hM;split at h
   ·rename_i hc;obtain⟨c1,c2,c3,c4⟩:=hc;cases h;subst c1; subst c2;obtain⟨_,hid,_,g⟩:=h1.nw;obtain⟨e1,l1,l2,⟨rfl,_,A,hA⟩|⟨b,cap,vs,t0,l3,l4,l5,l6,l7⟩⟩:=(g sz0 v0 xs hM).2 rfl
    ·have hlo:lo=0:=Nat.le_zero.1 (bh l1 l2);have hhi:hi'=0:=Nat.le_zero.1 l2;subst hlo; subst hhi;refine⟨.tuple #[],w,.inl ?_,?_⟩
     ·cases A<;>simp[execOp,hop,resolve,hb,invoke,builtin,Builtin.clear_,ha',ht',dx hs,hA]
     ·rw[fN]
      have he:M.set id (.arr sz0 v0 (List.take 0 ([]:List ag)++(List.replicate (0-0) (ag.agg (l.map ag.shut))++List.drop 0 [])))=M:=by
       apply cN
       grind
      rw[he];exact .still hr (.any _)
    subst e1;obtain⟨b',vs',t',k1,k2,k3,k4,k5⟩:=hr.yb hM l3;rw[l3] at k1; cases k1;rw[l6] at k2; injection k2 with k2; injection k2 with k2 k2'
    subst k2; subst k2';obtain⟨p1,p2⟩:=B5 (j:=j) (M:=M) (w:=w) hl c4;have hzl:zv.cells.toList.length=i.size:=by rw[<-p1.1]; simpa using hsz
    have eU:(List.replicate (hi'-lo) zv.cells.toList).flatten.length=(hi'-lo)*i.size:=by simp[List.length_flatten,List.map_replicate,List.sum_replicate_nat,hzl]
    have hbd:lo*i.size+(hi'-lo)*i.size<=xs.length*i.size:=by rw[<-bO]; exact bd _ (by omega)
    have hfit:lo*i.size+(List.replicate (hi'-lo) zv.cells.toList).flatten.length<=vs.size:=by rw[eU]; omega
    have hone:∀v,v∈(List.replicate (hi'-lo) zv.cells.toList).flatten->v.oneCell'=true:=fun v hv=>by
     obtain⟨r,hr1,hr2⟩:=List.mem_flatten.1 hv;rw[k8 hr1] at hr2;exact p2 v hr2
    have hrun:=mP (P:=P) (List.replicate (hi'-lo) zv.cells.toList).flatten w (lo*i.size) 0 vs l6 (by omega) hone
    obtain⟨s1,s2,s3,s4,s5,vs',s6,s7,s8,s9⟩:=lu (List.replicate (hi'-lo) zv.cells.toList).flatten w (lo*i.size) vs l6 hfit;have hrow:=xe (b:=b) k3 k4 k5;have hwz:wid (List.replicate (hi'-lo) (ag.agg (l.map ag.shut))) i.size:=fun x hx=>by rw[k8 hx]; simpa[ag.cells] using hsz
    have iq:RL w (nR j M w) (jA (xs.take lo++(List.replicate (hi'-lo) (ag.agg (l.map ag.shut))++xs.drop hi'))) ((vs.toList.take (xs.length*i.size)).take (lo*i.size)++((List.replicate (hi'-lo) zv.cells.toList).flatten++(vs.toList.take (xs.length*i.size)).drop (hi'*i.size))):=by
     rw[om,om,rL lo k4,tE hi' k4,Nr];exact(hrow.take _).append ((Pb _ p1).append (hrow.drop _))
    have hhi:lo*i.size+(hi'-lo)*i.size=hi'*i.size:=by rw[<-bO,cR l1]
    have hput:=xd (ver':=v0) (xs':=xs.take lo++(List.replicate (hi'-lo) (ag.agg (l.map ag.shut))++xs.drop hi')) hr hM l3 (w':=oQ w b (lo*i.size) (List.replicate (hi'-lo) zv.cells.toList).flatten) ⟨by omega,s2,s3,s4⟩ (fun b' hb' _=>s5 b' hb') l6 s6 s7 (ar _)
     (fun _=>by simp; omega) (mQ (vk k4) (mQ hwz (vj k4))) iq (fun p hp=>by
      have hp':p<xs.length*i.size:=by
       rw[<-iq.1,ij (mQ (vk k4) (mQ hwz (vj k4)))] at hp;have:(xs.take lo++(List.replicate (hi'-lo) (ag.agg (l.map ag.shut))++xs.drop hi')).length=xs.length:=by simp; omega
       rwa[this] at hp
      have htk:(List.take (lo*i.size) (vs.toList.take (xs.length*i.size))).length=lo*i.size:=by simp; omega
      rcases bG p (lo*i.size) with q1|q1
      ·rw[s8 p (.inl q1),bj (by rw[htk]; omega),bE q1,bE hp']; simp
      ·rw[bq (by rw[htk]; exact q1),htk]
       rcases bG p (hi'*i.size) with q2|q2
       ·rw[bj (by rw[eU]; omega)]
        have:=s9 (p-lo*i.size) (by rw[eU]; omega)
        rw[cR q1] at this;exact this
       ·rw[bq (by rw[eU]; omega),s8 p (.inr (by rw[eU]; omega)),cG,eU,show hi'*i.size+(p-lo*i.size-(hi'-lo)*i.size)=p by omega,bE hp']; simp)
    rw[fN];rcases fA (hi'-lo) with h0|h0
    ·refine⟨.tuple #[],oQ w b (lo*i.size) (List.replicate (hi'-lo) zv.cells.toList).flatten,.inl ?_,j,hput.1,hput.2,.any _⟩;rw[h0] at l4;simp[execOp,hop,resolve,hb,invoke,builtin,Builtin.clear_,ha',ht',dx hs,l4,h0,oQ]
    ·refine⟨.tuple #[],oQ w b (lo*i.size) (List.replicate (hi'-lo) zv.cells.toList).flatten,.inl ?_,j,hput.1,hput.2,.any _⟩;obtain⟨m,hm⟩:∃m,hi'-lo=m+1:=⟨hi'-lo-1,by omega⟩
     simp only[cS] at hrun;rw[<-rm,hm] at hrun;rw[hm] at l4;rw[<-rm,hm];simp[execOp,hop,resolve,hb,invoke,builtin,Builtin.clear_,ha',ht',dx hs,l4,zeroValue,py hi,hzv,hrun]
   ·cases h
  ·cases h
 ·cases h
end
def fF.wS{j:J}{M:aK}{w:World}{x:ag}{v:Value}(h:fV j M w x v)(hp:x.plainCell=true):fF w (nR j M w) x v:=by
 cases x with
 |slice tk xs=>cases tk with
  |sh=>exact h.dD
  |c0=>cases hp
  |own k=>cases hp
 |bool b=>cases h with|plain h=>exact h
 |int k n=>cases h with|plain h=>exact h
 |str s=>cases h with|plain h=>exact h
 |raw v=>cases h with|plain h=>exact h
 |agg _=>cases hp
 |tuple _=>cases hp
 |ptr _ _=>cases hp
 |jd _=>cases hp
 |func _ _=>cases hp
 |gD _=>cases hp
 |jx _=>cases hp
 |iB _ _=>cases hp
 |dg _ _ _ _ _=>cases hp
 |im _ _ _ _=>cases hp
 |rZ _ _=>cases hp
 |oy _=>cases hp
 |jL _ _ _=>cases hp
 |any=>cases hp
def Bx.wS{j:J}{M:aK}{w:World}{x:ag}{v:Value}(h:fV j M w x v)(hp:x.plain=true):Bx w (nR j M w) x v:=by
 by_cases hag:∃cs,x = .agg cs
 ·obtain⟨cs,rfl⟩:=hag;obtain⟨us,h1,h2,h3⟩:=h.lY;refine⟨us,h1,h2,fun i c u hc hu => .wS (h3 i c u hc hu) ?_⟩
  simp only[ag.plain,bu] at hp;exact hp c (aQ hc)
 ·have e1:x.plain=x.plainCell:=by cases x<;>first|rfl|exact absurd ⟨_,rfl⟩ hag
  have:=fF.wS h (e1▸hp);cases x<;>first|exact absurd ⟨_,rfl⟩ hag|exact this
def Ou{j:J}{M:aK}{w:World}{x:ag}{v:Value}(h:fV j M w x v):fV j M w x.fZ v:=by
 have hs:∀ {x:ag} {v:Value},fV j M w x v->fV j M w x.shut v:=fun {x v} h=>by
  cases x<;>first|exact h|exact .plain h.dD
 by_cases hag:∃cs,x = .agg cs
 ·obtain⟨cs,rfl⟩:=hag;obtain⟨us,rfl,h2,h3⟩:=h.lY;refine .agg (by simpa using h2) fun i c u hc hu=>?_
  rw[aY,aN] at hc;obtain⟨c0,hc0,rfl⟩:=hc;exact hs (h3 i c0 u hc0 hu)
 ·cases x<;>first|exact absurd ⟨_,rfl⟩ hag|exact h|exact .plain h.dD
section
variable {P:Program} {C:eL} {o:Oper} {br:Env} {M:aK} {j:J} {w:World} {a:Act} {x:ag×aK}
def Te(hr:Rel j M w)(he:cu j M w br a){f:Nat}{first caps:Array Operand}{zs:List gM}(hop:o.op = .makeFunc (.func f) first caps)(hf:caps.isEmpty=true)(hz:uH first.toList=some zs)
  (h:dW C br M (.DV f zs)=some x):∃v w',qQ P o a w v w'/\iG j M w x v w':=by
 simp only[dW] at h;split at h
 ·rename_i hp;cases h;obtain⟨h1,h2⟩:=tU he hz;have hf':caps = #[]:=by simpa using hf
  refine⟨.func (.func f) (first.map a.eval) #[],w,.inl ?_,.still hr (.rZ (by simpa using h1) fun i c v hc hv=>?_)⟩
  ·simp[execOp,hop,Instr.makeFunc,hf']
  ·have hpc:=bu.1 hp c (aQ hc);rw[aY,aN] at hc;obtain⟨y,hy,rfl⟩:=hc;rw[ic,aN] at hv;obtain⟨z,hz',rfl⟩:=hv;exact .wS (Ou (h2 i y z hy (by simpa using hz'))) hpc
 ·cases h
def Oa(hr:Rel j M w)(he:cu j M w br a){y i:Operand}{z z':gM}{t e:TypeId}{len n:Nat}(hop:o.op = .indexAddr t y i)(ht:P.underlying t=some (.array len e))(hn:qo P e=some n)
  (hz:dZ y=some z) (hz':dZ i=some z') (h:dW C br M (.Af len n z z')=some x):∃v w',qQ P o a w v w'/\iG j M w x v w':=by
 simp only[dW] at h;have h1:=cF he hz;have h2:=cF he hz';split at h
 ·rename_i cs k m ez ez';obtain⟨⟨h0,hm,hle⟩,h⟩:=db h;cases h;rw[ez] at h1;rw[ez'] at h2;obtain⟨b,off,vs,hv,hc⟩:=h1.tW;refine⟨.pointer (some ⟨b,off+m.toNat*n,none⟩),w,.inl ?_,.still hr (.jd (vs:=fun q=>vs (m.toNat*n+q)) fun q c hq=>?_)⟩
  ·simp[execOp,hop,Instr.indexAt,dx ht,hv,h2.fM,asIntOf,h0,hm,ja hn,ly,Instr.sureAddr]
  ·rw[cG] at hq;have h3:=hc _ c hq;rw[Nat.add_assoc];exact h3
 ·rename_i id off k m ez ez';obtain⟨⟨h0,hm⟩,h⟩:=db h;cases h;rw[ez] at h1;rw[ez'] at h2;obtain⟨b,h3,h4,h5,hv⟩:=h1.pG;refine⟨.pointer (some ⟨b,off+m.toNat*n,none⟩),w,.inl ?_,.still hr (.ptr h3 h4 h5)⟩;simp[execOp,hop,Instr.indexAt,dx ht,hv,h2.fM,asIntOf,h0,hm,ja hn,ly,Instr.sureAddr]
 ·cases h
def Oi(hr:Rel j M w){id q sz:Nat}{cs:List ag}(hM:M[id]?=some (.cells cs))(hc:cs[q]?=some (.slice .c0 [])) :
  ∃j',Rel j' (M.set id (.cells (cs.set q (.slice (.own M.length) [])))++[.tick sz 0]) w/\Ext j M w j' (M.set id (.cells (cs.set q (.slice (.own M.length) [])))++[.tick sz 0]) w:=by
 have q0:Quiet w w:=⟨ar _,rfl,rfl,rfl⟩;have hr1:Rel (gv j M.length none) (M++[.tick sz 0]) w:=hr.push (ob:=none) (fun b h=>by cases h) q0 (fun _ _=>rfl) (fun h=>by cases h) (fun sz n b h h'=>by cases h')
 have hx1:Ext j M w (gv j M.length none) (M++[.tick sz 0]) w:=Ext.push (fun b h=>by cases h) q0 (fun _ _=>rfl)
 have hid:=aF hM;have hM1:(M++[cA.tick sz 0])[id]?=some (.cells cs):=by rw[xb hid]; exact hM
 obtain⟨b,vs,t,hj,hw,hl,hcs⟩:=hr.box id cs hM;have hj1:gv j M.length none id=some b:=by simp[gv,gm hid,hj]
 have hset:M.set id (cA.cells (cs.set q (.slice (.own M.length) [])))++[cA.tick sz 0]=(M++[cA.tick sz 0]).set id (cA.cells (cs.set q (.slice (.own M.length) []))):=by rw[List.set_append_left _ _ hid]
 rw[hset];have hh:∀j' M',Ext (gv j M.length none) (M++[.tick sz 0]) w j' M' w->Holds j' M' w b (.cells (cs.set q (.slice (.own M.length) []))):=fun j' M' hx=>⟨vs,t,hw,by simpa using hl,fun p c v hc' hv=>fV.mono hx ?_⟩
 ·exact⟨_,Rel.store hM1 rfl rfl hj1 hr1 q0 (fun _ _ _=>rfl) (fun vs t fr h=>⟨vs,fr,h,rfl⟩) hh,hx1.trans (Ext.store hM1 rfl rfl hj1 hr1 q0 (fun _ _ _=>rfl) (fun vs t fr h=>⟨vs,fr,h,rfl⟩))⟩
 ·by_cases hp:q=p
  ·subst hp;rw[er (aF hc)] at hc';cases hc';have h1:=hcs q _ v hc hv
   obtain⟨A,hA⟩:∃A,v = .slice A 0 0:=by
    cases h1 with
    |plain h=>cases h
    |c0 A=>exact⟨A,rfl⟩
   rw[hA];exact .own (sz:=sz) (n:=0) (by simp) (by simp) (fF.nil _ _ _) fun _ => .inl ⟨by simp[gv],rfl,A,rfl⟩
  ·rw[fu hp] at hc';exact fV.mono hx1 (hcs p c v hc' hv)
def KL(hr:Rel j M w){id q sz:Nat}{cs:List ag}(hM:M[id]?=some (.cells cs))(hc:cs[q]?=some (.slice .c0 [])) :
  ∃j',Rel j' (M.set id (.cells (cs.set q (.dg M.length 0 sz 0 0)))++[.arr sz 0 []]) w/\Ext j M w j' (M.set id (.cells (cs.set q (.dg M.length 0 sz 0 0)))++[.arr sz 0 []]) w:=by
 have q0:Quiet w w:=⟨ar _,rfl,rfl,rfl⟩;have hr1:Rel (gv j M.length none) (M++[.arr sz 0 []]) w:=hr.push (ob:=none) (bx := .arr sz 0 []) (fun b h=>by cases h) q0 (fun _ _=>rfl) (fun h=>by cases h) (fun sz n b h h'=>by cases h') (fun sz ver xs h=>by injection h with e1 e2 e3; exact .inl ⟨e3.symm,rfl⟩)
 have hx1:Ext j M w (gv j M.length none) (M++[.arr sz 0 []]) w:=Ext.push (fun b h=>by cases h) q0 (fun _ _=>rfl)
 have hid:=aF hM;have hM1:(M++[cA.arr sz 0 []])[id]?=some (.cells cs):=by rw[xb hid]; exact hM
 obtain⟨b,vs,t,hj,hw,hl,hcs⟩:=hr.box id cs hM;have hj1:gv j M.length none id=some b:=by simp[gv,gm hid,hj]
 have hset:M.set id (cA.cells (cs.set q (.dg M.length 0 sz 0 0)))++[cA.arr sz 0 []]=(M++[cA.arr sz 0 []]).set id (cA.cells (cs.set q (.dg M.length 0 sz 0 0))):=by rw[List.set_append_left _ _ hid]
 rw[hset];have hh:∀j' M',Ext (gv j M.length none) (M++[.arr sz 0 []]) w j' M' w->Holds j' M' w b (.cells (cs.set q (.dg M.length 0 sz 0 0))):=fun j' M' hx=>⟨vs,t,hw,by simpa using hl,fun p c v hc' hv=>fV.mono hx ?_⟩
 ·exact⟨_,Rel.store hM1 rfl rfl hj1 hr1 q0 (fun _ _ _=>rfl) (fun vs t fr h=>⟨vs,fr,h,rfl⟩) hh,hx1.trans (Ext.store hM1 rfl rfl hj1 hr1 q0 (fun _ _ _=>rfl) (fun vs t fr h=>⟨vs,fr,h,rfl⟩))⟩
 ·by_cases hp:q=p
  ·subst hp;rw[er (aF hc)] at hc';cases hc';have h1:=hcs q _ v hc hv
   obtain⟨A,hA⟩:∃A,v = .slice A 0 0:=by
    cases h1 with
    |plain h=>cases h
    |c0 A=>exact⟨A,rfl⟩
   rw[hA];refine .dg (.inr ⟨rfl,A,rfl⟩) (by simp) (fun bx hbx=>by rw[lK] at hbx; cases hbx; rfl) fun sz' v' zs hx=>?_
   rw[lK] at hx; injection hx with hx; injection hx with e1 e2 e3
   subst e1; subst e2; subst e3;exact⟨ar _,fun _=>⟨rfl,ar _,ar _,.inl ⟨rfl,by simp[gv],A,rfl⟩⟩⟩
  ·rw[fu hp] at hc';exact fV.mono hx1 (hcs p c v hc' hv)
def I7{cs new:List ag}{off p:Nat}{x:ag}(h:off+new.length<=cs.length)(hp:p<new.length):mC cs off (new.set p x)=(mC cs off new).set (off+p) x:=by
 apply cN;intro i;rw[qL (by simpa using h)]
 by_cases hi:off+p=i
 ·subst hi;rw[er (by rw[uo h]; omega),az (by simp; omega),show off+p-off=p by omega,er hp]
 ·rw[fu hi,qL h];simp only[ec];split
  ·rename_i hc;rw[fu (by omega)]
  ·rfl
def Oe(hr:Rel j M w)(he:cu j M w br a){y y':Operand}{z z':gM}{t:TypeId}{n sz p:Nat}(hop:o.op = .store t y y')(hn:qo P t=some n)(hz:dZ y=some z)(hz':dZ y'=some z')
  (h:dW C br M (.AO sz p n z z')=some x):∃v w',qQ P o a w v w'/\iG j M w x v w':=by
 simp only[dW] at h;split at h
 ·rename_i id off e;split at h
  ·rename_i cs hM;obtain⟨new,iq,h⟩:=bn h;split at h
   ·rename_i hp;split at h
    ·rename_i hcond;cases h
     have hs:dW C br M (.store n z z')=some (.any,jZ M id (.cells (mC cs off new))):=by
      simp only[dW,e,hM,iq,bZ];rw[az hcond]
     obtain⟨v,w',h1,j',h2,h3,h4⟩:=Dc hr he hop hn hz hz' hs;rw[eJ] at hM hp;have cr:=aF hM;have hpl:=aF hp;have hle:off+new.length<=cs.length:=by omega
     rw[fN] at h2 h3 h4;have hM2:(M.set id (.cells (mC cs off new)))[id]?=some (.cells (mC cs off new)):=dC cr
     have hc2:(mC cs off new)[off+p]?=some (.slice .c0 []):=by
      rw[qL hle,az (by omega),show off+p-off=p by omega]
      exact hp
     rw[fN,fN,I7 hle hpl];unfold zn Ay;split
     ·obtain⟨j'',k1,k2⟩:=KL (sz:=sz-500) h2 hM2 hc2;rw[List.set_set,ec] at k1 k2;exact⟨v,w',h1,j'',k1,h3.trans k2,.any _⟩
     ·obtain⟨j'',k1,k2⟩:=Oi (sz:=sz) h2 hM2 hc2;rw[List.set_set,ec] at k1 k2;exact⟨v,w',h1,j'',k1,h3.trans k2,.any _⟩
    ·cases h
   ·cases h
  ·cases h
 ·cases h
end
section
variable {P:Program} {C:eL} {o:Oper} {br:Env} {M:aK} {j:J} {w:World} {a:Act} {x:ag×aK}
def OH{x:ag}{u v:Value}(h:valOf x=some u)(hr:fV j M w x v):v=u:=by
 unfold valOf at h;split at h
 ·cases h; exact hr.fM
 ·rename_i k n;cases h;obtain⟨vs,rfl,hl,hc⟩:=hr.lY;have hs:vs.size=1:=by simpa using hl.symm
  have h0:vs[0]?=some (vs[0]'(by omega)):=ba (by omega)
  have h1:=(hc 0 _ _ rfl h0).fM;congr 1;apply Array.ext
  ·simpa using hs
  ·intro i h2 h3;have:i=0:=by omega
   subst this;simpa using h1
 ·cases h
def fV.Ms{u v:Value}(h:fV j M w (.raw u) v):v=u:=by cases h with|plain h=>cases h; rfl
def Tn(hr:Rel j M w)(he:cu j M w br a){t:TypeId}{y:Operand}{z:gM}{d:TypeDesc}(hop:o.op = .makeInterface t y)(hu:P.underlying t=some d)(hd:∀m,d ≠ .interface m)(hz:dZ y=some z)
  (h:dW C br M (.iface t z)=some x):∃v w',qQ P o a w v w'/\iG j M w x v w':=by
 simp only[dW] at h;have h1:=cF he hz;split at h
 ·rename_i id off e;cases h;rw[e] at h1;obtain⟨b,_,hc,hj,hy⟩:=h1.pG;refine⟨_,w,.inl ?_,.still hr (.jL hc hj)⟩;simp only[execOp,hop,Instr.makeInterface,hy];cases d<;>first|exact absurd rfl (hd _)|simp[dx hu]
 obtain⟨v,hv,h⟩:=bn h;cases h;have hy:=OH hv h1;refine⟨.iface t v,w,.inl ?_,.still hr (.plain (.raw _ rfl))⟩;simp only[execOp,hop,Instr.makeInterface,hy];cases d<;>first|exact absurd rfl (hd _)|simp[dx hu]
def Tv(hr:Rel j M w)(he:cu j M w br a){y:Operand}{z:gM}(hop:o.op = .panic y)(hz:dZ y=some z)(h:dW C br M (.raise z)=some x) :
  ∃u,(execOp a.eval o).run P w = .halt (.panic u) w/\GN j M w x u w:=by
 simp only[dW] at h;have h1:=cF he hz;split at h
 ·rename_i v e;split at h
  ·rename_i t u;cases h;rw[e] at h1;refine⟨.iface t u,?_,rfl,j,hr,Ext.refl j M w⟩;have:a.eval y = .iface t u:=h1.Ms;simp[execOp,hop,Instr.panic,this]
  ·cases h
 ·cases h
end
section
variable {P:Program} {C:eL} {o:Oper} {br:Env} {M:aK} {j:J} {w:World} {a:Act} {x:ag×aK}
def Tz(he:cu j M w br a){y:Operand}{z:gM}(hz:Pq y=some z):fV j M w (z.ev br) (a.eval y):=by
 unfold Pq at hz;split at hz
 ·cases hz;exact .plain (.raw _ rfl)
 ·exact cF he hz
def PV{n:Nat}(he:cu j M w br a):∀ {parts:List (Nat×Operand)} {ps:List (Nat×Nat×gM)} {cs cs':List ag} {cells:Array Value},
  xi n parts=some ps->lk br cs ps=some cs'->RC j M w cs cells ->
  ∃cells',Instr.fill (fun i=>some (i*n,n)) cells (parts.map fun p=>(p.1,a.eval p.2))=some cells'/\RC j M w cs' cells':=by
 intro parts;induction parts with
 |nil =>
  intro ps cs cs' cells h1 h2 h3;simp[xi] at h1; subst h1;simp[lk] at h2; subst h2;exact⟨cells,rfl,h3⟩
 |cons p r ih =>
  intro ps cs cs' cells h1 h2 h3;obtain⟨i,y⟩:=p;simp only[xi] at h1;obtain⟨z,hz,h1⟩:=a8 h1;obtain⟨l,hl,h1⟩:=a8 h1;cases h1;simp only[lk] at h2;obtain⟨new,iq,h2⟩:=bn h2;split at h2
  ·rename_i hc;obtain⟨c1,c2⟩:=hc;have hrc:=th (cF he hz) iq;obtain⟨cells',e1,e2⟩:=ih hl h2 (h3.write (off:=i*n) hrc (by omega))
   refine⟨cells',?_,e2⟩;have hs1:=hrc.1;have hs2:=h3.1;simp only[aV,Instr.fill];rw[ak (by simp; omega)]
   exact e1
  ·cases h2
def N6(hr:Rel j M w)(he:cu j M w br a){t e:TypeId}{len n:Nat}{parts:Array (Nat×Operand)}{i:TypeInfo}{zv:Value}{l:List ag}{ps:List (Nat×Nat×gM)}(hop:o.op = .build t parts)
  (ht:P.underlying t=some (.array len e)) (hi:P.info? t=some i) (hzv:i.zero=some zv) (hl:sM zv.cells.toList=some l) (hn:qo P e=some n) (hps:xi n parts.toList=some ps)
  (h:dW C br M (.build l ps)=some x):∃v w',qQ P o a w v w'/\iG j M w x v w':=by
 simp only[dW] at h;obtain⟨cs,hcs,h⟩:=bn h;cases h;obtain⟨h1,h2⟩:=pQ (j:=j) (M:=M) (w:=w) hl;obtain⟨cells',e1,e2⟩:=PV (n:=n) he hps hcs (cells:=zv.cells) ⟨by simpa using h1,fun i c v hc hv=>h2 i c v hc (by simpa using hv)⟩
 refine⟨.agg cells',w,.inl ?_,.still hr (.agg e2.1 e2.2)⟩;have e1':Instr.fill (fun i=>some (i*n,n)) zv.cells (parts.map fun p=>(p.1,a.eval p.2)).toList=some cells':=by simpa using e1
 simp only[execOp,hop,Instr.build,zeroValue,Sem.run_bind,py hi,Result.andThen_ok,hzv,Sem.run_pure,dx ht,ja hn];simp only[e1',Sem.run_pure,Result.andThen_ok]
def JX{a b:ag}{r:Bool}(h:ig .i a b=some r):∃k x y,a = .int k x/\b = .int k y/\r=(x==y):=by
 cases a<;>cases b<;>first
  |(simp only[ig] at h
    split at h
    ·rename_i hk; subst hk; injection h with h; exact⟨_,_,_,rfl,rfl,h.symm⟩
    ·cases h)
  |cases h
def A8{d:Nat}{e:TypeId}{k0:IntKind}(hk:P.underlying e=some (.int k0))(hc1:P.cellsOf e=1){cs ds:List ag}{us vs:Array Value}(hc:RC j M w cs us)(hd:RC j M w ds vs):∀(n k:Nat){r:Bool},kK (List.replicate n .i) (cs.drop k) (ds.drop k)=some r ->
  (Op.eqItems (d+1) e (P.cellsOf e) us vs (List.range' k n)).run P w = .ok r w
 |0,k,r,h2=>by
  unfold kK at h2;split at h2<;>simp_all [Op.eqItems]
 |n+1,k,r,h2=>by
  have hk1:k<cs.length:=by
   rcases bG k cs.length with h|h
   ·exact h
   ·rw[iL h,iJ] at h2; simp[kK] at h2
  have hk2:k<ds.length:=by
   rcases bG k ds.length with h|h
   ·exact h
   ·rw[iL h,cB hk1,iJ] at h2;simp[kK] at h2
  rw[cB hk1,cB hk2,iJ] at h2;simp only[kK] at h2;obtain⟨e1,he1,h2⟩:=bn h2;obtain⟨e2,he2,h2⟩:=bn h2;cases h2;have hlu:k<us.size:=by have:=hc.1; omega
  have hlv:k<vs.size:=by have:=hd.1; omega
  have hu:=ba hlu;have hv:=ba hlv;have ih:=A8 (d:=d) hk hc1 hc hd n (k+1) he2;have hr1:=hc.2 k _ _ (aj hk1) hu;have hr2:=hd.2 k _ _ (aj hk2) hv;have hag:BA P e=some false:=by simp[BA,hk]
  have p1:(part e us (k*P.cellsOf e)).run P w = .ok us[k] w:=by simp[part,kN hag,hc1,hu]
  have p2:(part e vs (k*P.cellsOf e)).run P w = .ok vs[k] w:=by simp[part,kN hag,hc1,hv]
  have p3:(Op.equalIn (d+1) e us[k] vs[k]).run P w = .ok e1 w:=by
   obtain⟨kk,x,y,e3,e4,rfl⟩:=JX he1;rw[e3] at hr1; rw[e4] at hr2;rw[hr1.fM,hr2.fM];exact run_equalIn_int w d e _ _ x y hk
  rw[List.range'_succ];simp only[Op.eqItems,Sem.run_bind,p1,p2,p3,Result.andThen_ok];cases e1
  ·simp
  ·simpa using ih
def Ti(hr:Rel j M w)(he:cu j M w br a){y y':Operand}{z z':gM}{t t' e:TypeId}{len:Nat}{k0:IntKind}(hop:o.op = .binOp .eql t y y' t')(ht:P.underlying t=some (.array len e))(hk:P.underlying e=some (.int k0))(hs:qo P e=some 1)
  (hz:dZ y=some z) (hz':dZ y'=some z') (h:dW C br M (.XK (List.replicate len .i) false z z')=some x):∃v w',qQ P o a w v w'/\iG j M w x v w':=by
 simp only[dW] at h;have h1:=cF he hz;have h2:=cF he hz';split at h
 ·rename_i cs ds ez ez';obtain⟨r,hee,h⟩:=bn h;cases h;rw[ez] at h1;rw[ez'] at h2;obtain⟨us,hus,hul,huc⟩:=h1.lY;obtain⟨vs,hvs,hvl,hvc⟩:=h2.lY;obtain⟨inf,hinf,hsz⟩:=Dv hs;have hc1:P.cellsOf e=1:=by simp[Program.cellsOf,hinf,hsz]
  have heq:(Op.equal t (.agg us) (.agg vs)).run P w = .ok r w:=by
   unfold Op.equal;rw[show Op.maxDepth=9998+1+1 from rfl,run_equalIn_array w (9998+1) us vs ht hinf,nr]
   exact A8 (d:=9998) hk hc1 ⟨hul,huc⟩ ⟨hvl,hvc⟩ len 0 (by simpa using hee)
  have hgt:P.eqGuardType P.depth t=false:=by
   unfold Program.depth;rw[show 2*(P.types.size+Made.depth)+2=(2*(P.types.size+Made.depth))+1+1 from rfl,Program.eqGuardType,ht]
   simp only[Program.eqGuardType,hk]
  have hguard:∀op,(eqGuard op t y y' (.agg us) (.agg vs)).run P w = .ok () w:=by
   intro op;unfold eqGuard;cases op<;>simp[hgt]
  exact⟨.bool r,w,.inl (by simp[execOp,hop,hus,hvs,hguard,binOp,heq]),.still hr (.plain (.bool _))⟩
 ·cases h
def tT{l:List ag}(hp:0<l.length)(h1:l.all ag.plainCell=true):(ag.agg l).norm.cells=l:=by
 match l with
 | []=>simp at hp
 | [c] =>
  simp only[j6,List.all_nil,eS] at h1
  show c.cells=[c]
  cases c<;>first|rfl|cases h1
 |_::_::_=>rfl
def SV(z:Array Value)(n k:Nat)(h:k<n)(hz:0<z.size):(madeCells z n)[k]?=z[k % z.size]?:=by
 have hm:k % z.size<z.size:=iE _ hz;rw[ba hm];simp[madeCells,h,hm]
def MM(w:World)(gX:Nat->Nat->Prop){v:Value}{c:ag}(h:Jr v=some c):fF w gX c.shut v:=by
 unfold Jr at h
 split at h<;>first
  |(cases h; first|exact .bool _|exact .int _ _|exact .str _|exact .raw _ rfl|exact fF.nil _ _ _)
  |cases h
def GQ:∀ {vs:List Value} {l:List ag},sM vs=some l->∀(i:Nat)(c:ag)(v:Value),l[i]?=some c->vs[i]?=some v->Jr v=some c
 | [],l,h,i,c,v,h1,h2=>by simp at h2
 |u::r,l,h,i,c,v,h1,h2=>by
  simp only[sM] at h;obtain⟨x,hx,h⟩:=a8 h;obtain⟨l',hl,h⟩:=a8 h;cases h;cases i with
  |zero=>simp at h1 h2; subst h1; subst h2; exact hx
  |succ i=>exact GQ hl i c v (by simpa using h1) (by simpa using h2)
def L9{t e:TypeId}{i:TypeInfo}{zv:Value}{l:List ag}{y:Operand}{k:Int}{kk:IntKind}(hop:o.op = .makeSlice t y y)(ht:P.underlying t=some (.slice e))(hi:P.info? e=some i)(hzv:i.zero=some zv)
  (hl:sM zv.cells.toList=some l) (c1:l.length=i.size) (c2:0<i.size) (c3:i.bytes<=8*i.size) (hev:a.eval y = .int kk k) (h0:0<=k) (hroom:dL k.toNat (8*(l.map ag.shut).length)) (hpl:(l.map ag.shut).all ag.plainCell=true) :
  ∃row:Array Value,(execOp a.eval o).run P w = .ok (.value (.slice (some ⟨w.heap.size,0,none⟩) k.toNat k.toNat)) (w.alloc (.cells row e))/\row.size=k.toNat*i.size /\
   ∀gX (w':World) (q:Nat) (x:ag) (p:Nat) (c:ag),(List.replicate k.toNat (ag.agg (l.map ag.shut)).norm)[q]?=some x->x.cells[p]?=some c->∃v,row[q*i.size+p]?=some v/\fF w' gX c v:=by
 have hls:(l.map ag.shut).length=i.size:=by simpa using c1
 have hzs:zv.cells.size=i.size:=by
  have:=(pQ (j:=⟨fun _=>none,fun _ _=>False⟩) (M:=[]) (w:=w) hl).1
  simp at this; omega
 unfold dL at hroom;rw[hls] at hroom
 have hb:i.bytes*k.toNat<=2 ^ 44:=by
  refine bh ?_ hroom;rw[Nat.mul_comm];exact Nat.mul_le_mul_left _ c3
 have hk44:k.toNat<=2 ^ 44:=bh (fq _ (by omega)) hroom
 have hrun:=run_make (P:=P) w t e i zv ht hi hzv kk kk k k h0 (fG _) (by
  have:((i.bytes*k.toNat:Nat):Int)<=2 ^ 44:=by exact_mod_cast hb
  rw[Int.natCast_mul,nY h0] at this;omega) (by omega)
 refine⟨madeCells zv.cells (k.toNat*i.size),by simp[execOp,hop,hev,hrun],size_madeCells _ _,fun gX w' q x p c hx hc=>?_⟩
 rw[jF] at hx;split at hx
 ·rename_i hq;cases hx;rw[tT (by omega) hpl] at hc
  have hp:p<i.size:=by rw[<-hls]; exact aF hc
  have cr:q*i.size+p<k.toNat*i.size:=by
   have:(q+1)*i.size<=k.toNat*i.size:=bd _ hq;rw[bO,fH] at this;omega
  rw[SV _ _ _ cr (by omega),hzs,Nat.add_comm,Nat.add_mul_mod_self_right,Nat.mod_eq_of_lt hp]
  rw[aY,aN] at hc;obtain⟨c0,hc0,rfl⟩:=hc;have hpz:p<zv.cells.size:=by omega
  have hv:=ba hpz;refine⟨_,hv,?_⟩;exact MM w' gX (GQ hl p c0 _ hc0 (by simp))
 ·cases hx
def Tt(hr:Rel j M w)(he:cu j M w br a){t e:TypeId}{i:TypeInfo}{zv:Value}{l:List ag}{y:Operand}{z:gM}(hop:o.op = .makeSlice t y y)(ht:P.underlying t=some (.slice e))(hi:P.info? e=some i)(hzv:i.zero=some zv)
  (hl:sM zv.cells.toList=some l) (hz:dZ y=some z) (c1:l.length=i.size) (c2:0<i.size) (c3:i.bytes<=8*i.size) (h:dW C br M (.mkS (l.map ag.shut) z)=some x):∃v w',qQ P o a w v w'/\iG j M w x v w':=by
 simp only[dW] at h;have h1:=cF he hz;split at h
 ·rename_i kk k ek;obtain⟨⟨h0,hroom,hpl⟩,h⟩:=db h;cases h;rw[ek] at h1;obtain⟨row,hrun,hsz,hel⟩:=L9 (w:=w) hop ht hi hzv hl c1 c2 c3 h1.fM h0 hroom hpl;have hls:(l.map ag.shut).length=i.size:=by simpa using c1
  obtain⟨q,hb,iq⟩:=pH (w:=w) (.cells row e (0,0));refine⟨_,{ w with heap:=w.heap.push (.cells row e (0,0)) },.inl hrun,?_⟩
  have ext:Ext j M w j M { w with heap:=w.heap.push (.cells row e (0,0)) }:=Ext.grow q.size rfl rfl rfl hb
  have rel:Rel j M { w with heap:=w.heap.push (.cells row e (0,0)) }:=hr.grow q.size rfl rfl rfl hb
  refine⟨j,rel,ext,.plain (.slice _ _ _ _ w.heap.size 0 i.size (fun p=>(row[p]?).getD undef) (by simp) (ar _) (fun _=>rfl) (fun x hx=>?_) (fun n y k c hn hk=>?_) (fun n y k c hn hk=>?_))⟩
  ·obtain⟨_,rfl⟩:=List.mem_replicate.1 hx;rw[tT (by omega) hpl,hls]
  ·obtain⟨u,hu,_⟩:=hel (nR j M { w with heap:=w.heap.push (.cells row e (0,0)) }) { w with heap:=w.heap.push (.cells row e (0,0)) } n y k c hn hk
   refine⟨?_,by simp,fun id hid hj=>?_,fun hx=>absurd (hr.zG _ _ hx) (iK _)⟩
   ·simp only[World.cell?,iq,aP,hu];rfl
   ·have:=hr.lt id _ hid hj;omega
  ·obtain⟨u,hu,hru⟩:=hel (nR j M { w with heap:=w.heap.push (.cells row e (0,0)) }) { w with heap:=w.heap.push (.cells row e (0,0)) } n y k c hn hk
   rw[hu];exact hru
 ·cases h
def WU(hr:Rel j M w)(he:cu j M w br a){t e:TypeId}{i:TypeInfo}{zv:Value}{l:List ag}{y:Operand}{z:gM}(hop:o.op = .makeSlice t y y)(ht:P.underlying t=some (.slice e))(hi:P.info? e=some i)(hzv:i.zero=some zv)
  (hl:sM zv.cells.toList=some l) (hz:dZ y=some z) (c1:l.length=i.size) (c2:0<i.size) (c3:i.bytes<=8*i.size) (h:dW C br M (.N2 (l.map ag.shut) z)=some x):∃v w',qQ P o a w v w'/\iG j M w x v w':=by
 simp only[dW] at h;have h1:=cF he hz;split at h
 ·rename_i kk k ek;obtain⟨⟨h0,hroom,hpl⟩,h⟩:=db h;cases h;rw[ek] at h1;obtain⟨row,hrun,hsz,hel⟩:=L9 (w:=w) hop ht hi hzv hl c1 c2 c3 h1.fM h0 hroom hpl;have hls:(l.map ag.shut).length=i.size:=by simpa using c1
  rw[hls];obtain⟨q,hb,iq⟩:=pH (w:=w) (.cells row e (0,0));have hob:∀b,some w.heap.size=some b->w.heap.size<=b/\b<({ w with heap:=w.heap.push (.cells row e (0,0)) }:World).heap.size:=fun b h=>by cases h; simp
  have ext:Ext j M w (gv j M.length (some w.heap.size)) (M++[.arr i.size 0 (List.replicate k.toNat (ag.agg (l.map ag.shut)).norm)]) { w with heap:=w.heap.push (.cells row e (0,0)) }:=Ext.push (fun b hb=>(hob b hb).1) q hb
  refine⟨_,{ w with heap:=w.heap.push (.cells row e (0,0)) },.inl hrun,gv j M.length (some w.heap.size),hr.push hob q hb (fun h=>by cases h) (fun sz n b h _=>by cases h) (fun sz0 v0 xs0 he=>?_),ext,?_⟩
  ·injection he with e1 e2 e3
   subst e1; subst e2; subst e3;refine .inr ⟨w.heap.size,row,e,rfl,iq,by simp[hsz],fun x hx=>?_,fun j' M' hx q0 x p c hq hp=>hel (nR j' M' { w with heap:=w.heap.push (.cells row e (0,0)) }) { w with heap:=w.heap.push (.cells row e (0,0)) } q0 x p c hq hp⟩
   obtain⟨_,rfl⟩:=List.mem_replicate.1 hx;rw[tT (by omega) hpl,hls]
  ·refine .dg (.inl ⟨_,_,_,by rw[bU],by omega⟩) (by simp) (fun bx hbx=>by rw[lK] at hbx; cases hbx; rfl) fun sz' v' ys hx=>?_
   rw[lK] at hx; injection hx with hx; injection hx with e1 e2 e3
   subst e1; subst e2; subst e3;exact⟨ar _,fun _=>⟨rfl,cy _,by simp,.inr ⟨w.heap.size,k.toNat,row,e,by simp[gv],by simp,by omega,iq,by rw[aP]; omega⟩⟩⟩
 ·cases h
end
section
variable {j:J} {M:aK} {w w':World}
def Ext.uq{k b' sz ver ver':Nat}{xs xs':List ag}(hM:M[k]?=some (.arr sz ver xs))(q:Quiet w w')(hb:∀b,b<w.heap.size->w'.heap[b]?=w.heap[b]?)(hf:w.heap.size<=b')(hn:ver<ver') :
  Ext j M w (gv j k (some b')) (M.set k (.arr sz ver' xs')) w' where
 len:=by simp
 size:=q.size
 os:=q.os
 tape:=q.tape
 output:=q.output
 X:=rfl
 fix:=fun i b0 h hf=>by
  have e:k≠i:=by rintro rfl; rw[hM] at h; cases h; cases hf
  exact⟨by simp[gv,dA e],b0,by rw[cC e]; exact h,rfl⟩
 tick:=fun i sz0 n0 h=>by
  have e:k≠i:=by rintro rfl; rw[hM] at h; cases h
  exact⟨n0,ar _,by rw[cC e]; exact h,fun _=>⟨by simp[gv,dA e],fun b vs0 t0 _ hv=>⟨vs0,(hb b (lt_of_block hv)).trans hv,rfl⟩⟩⟩
 arr:=fun i sz0 v0 xs0 h=>by
  by_cases e:k=i
  ·subst e;rw[hM] at h;injection h with h; injection h with h1 h2 h3
   subst h1; subst h2; subst h3;exact .inr ⟨ver',xs',dC (aF hM),by omega,fun he=>by omega⟩
  ·exact .inr ⟨v0,xs0,by rw[cC e]; exact h,ar _,fun _=>⟨by simp[gv,dA e],rfl,fun b vs0 t0 _ hv=>⟨vs0,(hb b (lt_of_block hv)).trans hv,rfl⟩⟩⟩
 tags:=fun b0 vs0 t0 fr0 h=>⟨vs0,fr0,(hb b0 (lt_of_block h)).trans h,rfl⟩
 gX:=fun b0 off h=>by
  refine⟨⟨bp h.1 q.size,fun i hi hji=>?_,h.3⟩,World.cell?_of_block (w:=w) (hb b0 h.1)⟩
  have e:k≠i:=by
   rintro rfl;have:b'=b0:=by simpa[gv] using hji
   have:=h.1;omega
  rw[cC e];exact h.2 i (by simpa using hi) (by simpa[gv,dA e] using hji)
 uk:=fun b0 cr h=>by
  refine⟨hb b0 cr,fun i hi hji=>?_⟩
  by_cases e:i=k
  ·have:b'=b0:=by simpa[gv,e] using hji
   omega
  ·exact h i (by simpa using hi) (by simpa[gv,e] using hji)
def Rel.uq{k b' sz ver ver':Nat}{xs xs':List ag}(hM:M[k]?=some (.arr sz ver xs))(hr:Rel j M w)(q:Quiet w w')(hb:∀b,b<w.heap.size->w'.heap[b]?=w.heap[b]?)
  (hf:w.heap.size<=b') (cr:b'<w'.heap.size) (hn:ver<ver') (hh:∀j' M',Ext j M w j' M' w'->DM j' M' w' b' sz xs'):Rel (gv j k (some b')) (M.set k (.arr sz ver' xs')) w':=by
 have ext:Ext j M w (gv j k (some b')) (M.set k (.arr sz ver' xs')) w':=Ext.uq hM q hb hf hn;refine⟨fun i i' b0 hi hi' h h'=>?_,fun i b0 hi h=>?_,fun i bx0 h hf=>?_,fun i sz0 n0 b0 h hji=>?_,fun i sz0 v0 xs0 h=>?_,fun i b0 hi h off hx=>?_,fun b0 off h=>bp (hr.zG b0 off h) q.size⟩
 ·simp only[ec] at hi hi'
  by_cases e:i=k<;>by_cases e':i'=k
  ·omega
  ·have h1:b'=b0:=by simpa[gv,e] using h
   have:=hr.lt i' b0 hi' (by simpa[gv,e'] using h')
   omega
  ·have h1:b'=b0:=by simpa[gv,e'] using h'
   have:=hr.lt i b0 hi (by simpa[gv,e] using h)
   omega
  ·exact hr.inj i i' b0 hi hi' (by simpa[gv,e] using h) (by simpa[gv,e'] using h')
 ·simp only[ec] at hi
  by_cases e:i=k
  ·have h1:b'=b0:=by simpa[gv,e] using h
   subst h1;exact cr
  ·exact bp (hr.lt i b0 hi (by simpa[gv,e] using h)) q.size
 ·have e:k≠i:=by rintro rfl; rw[dC (aF hM)] at h; cases h; cases hf
  rw[cC e] at h;obtain⟨b0,h1,h2⟩:=hr.fix i bx0 h hf;exact⟨b0,by simpa[gv,dA e] using h1,h2.mono ext (hb b0 (hr.lt i b0 (aF h) h1))⟩
 ·have e:k≠i:=by rintro rfl; rw[dC (aF hM)] at h; cases h
  rw[cC e] at h;obtain⟨vs0,t0,h1⟩:=hr.tick i sz0 n0 b0 h (by simpa[gv,dA e] using hji)
  exact⟨vs0,t0,(hb b0 (lt_of_block h1)).trans h1⟩
 ·by_cases e:k=i
  ·subst e;rw[dC (aF hM)] at h;injection h with h; injection h with e1 e2 e3
   subst e1; subst e2; subst e3;obtain⟨vs,t,g⟩:=hh _ _ ext;exact .inr ⟨b',vs,t,by simp[gv],g⟩
  ·rw[cC e] at h;exact pR hr ext h (by simp[gv,dA e]) fun b0 h1=>hb b0 (hr.lt i b0 (aF h) h1)
 ·by_cases e:i=k
  ·have h1:b'=b0:=by simpa[gv,e] using h
   have h2:=hr.zG b0 off hx;omega
  ·exact hr.uC i b0 (by simpa using hi) (by simpa[gv,e] using h) off hx
def nC{gX:Nat->Nat->Prop}{xs:List ag}{v:Value}{size:Nat}(hx:fF w gX (.slice .sh xs) v)(hw:wid xs size):∃A cap,v = .slice A xs.length cap/\xs.length<=cap /\
  (xs=[]\/∃b off,A=some ⟨b,off,none⟩/\∃us:List Value,RL w gX (jA xs) us/\us.length=xs.length*size/\(∀u,u∈us->u.oneCell'=true)/\∀p u,us[p]?=some u->w.cell? ⟨b,off+p,none⟩=some u/\gX b (off+p)):=by
 cases hx with
 |slice _ A len cap b off sz vs hl hc ha hz hs hr =>
  subst hl;refine⟨A,cap,rfl,hc,?_⟩;rcases eF xs with h0|⟨_,_,h0⟩
  ·exact .inl h0
  ·have hne:xs≠[]:=by rw[h0]; simp
   have hsz:sz=size:=by
    obtain⟨x,r,hxr⟩:=fm hne;have hm:x∈xs:=by rw[hxr]; exact aD ..
    rw[<-hz x hm,hw x hm]
   subst hsz;have eU:((List.range (xs.length*sz)).map vs).length=xs.length*sz:=by simp
   have hrl:RL w gX (jA xs) ((List.range (xs.length*sz)).map vs):=by
    refine⟨by rw[ij hw,eU],fun p c v hc hv=>?_⟩
    obtain⟨q,x,k,h1,h2,rfl⟩:=CC hw hc;have cr:q*sz+k<xs.length*sz:=by rw[<-ij hw]; exact aF hc
    rw[aY,fJ cr] at hv;simp only[cz] at hv;cases hv;exact hr q x k c h1 h2
   refine .inr ⟨b,off,ha hne,_,hrl,eU,fun u hu=>?_,fun p u hu=>?_⟩
   ·obtain⟨p,hp⟩:=bN hu;have hp':p<(jA xs).length:=by rw[hrl.1]; exact aF hp
    exact fF.one (hrl.2 p _ u (aj hp') hp)
   ·have hp':p<(jA xs).length:=by rw[hrl.1]; exact aF hu
    obtain⟨q,x,k,h1,h2,rfl⟩:=CC hw (aj hp');have cr:q*sz+k<xs.length*sz:=by rw[<-ij hw]; exact hp'
    rw[aY,fJ cr] at hu;simp only[cz] at hu;cases hu;exact hs q x k _ h1 h2
end
end
end Go.Abs
