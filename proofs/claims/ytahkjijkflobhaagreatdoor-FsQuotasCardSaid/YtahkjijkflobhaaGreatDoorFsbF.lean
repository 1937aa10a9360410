import Derived.KernelRfl
import Derived.Test.YtahkjijkflobhaaGreatDoorFsbE
set_option linter.unusedSimpArgs false
set_option linter.unusedVariables false
set_option linter.unusedSectionVars false
set_option linter.defProp false
namespace Go.Proofs.YtahkjijkflobhaaGreatDoor
section
open Go Go.Abs Go.ChangeShapes Go.WideShapes Go.ChangeAt Go.RowKit Go.Deep
def laidOut:laidOutB Tryz.prog=true:=by kernel_rfl
section
variable {H:Type} {enc:TypeId×Value->H}
def pG {W W':World} (hb:Below W.heap.size W W'):∀ {ts:List TypeId} {vs:List Value} {ds:List (DataW H)} {p:List MemPlace},DataW.TrodAll enc Tryz.prog W 0 (fun _=>true) true ts vs ds p ->
  (∀t,t∈ts->Tryz.prog.readableRec t=true/\t<Tryz.prog.types.size)->(∀x∈p,x.block<W.heap.size)->DataW.TrodAll enc Tryz.prog W' 0 (fun b=>decide (b<W.heap.size)) true ts vs ds p
 | [],vs,ds,p,h,_,_=>by
  obtain ⟨rfl,rfl,rfl⟩:=trodAll_nil h
  exact trodAll_mk0
 |t::ts,vs,ds,p,h,ht,hp=>by
  obtain ⟨v,vs',d,ds',p1,q,rfl,rfl,rfl,h1,h2⟩:=trodAll_cons h
  exact trodAll_cons_mk (Below.trod laidOut (ht t List.mem_cons_self).1 (ht t List.mem_cons_self).2 h1 hb (fun x hx=>hp x (List.mem_append_left _ hx)))
   (pG hb h2 (fun t ht'=>ht t (List.mem_cons_of_mem _ ht')) (fun x hx=>hp x (List.mem_append_right _ hx)))
abbrev wh (w:World):Nat->Nat->Prop:=fJ Rv [] w
def LO {w:World} {b off:Nat} (h:b<w.heap.size):wh w b off:=⟨h,fun id hid=>absurd hid (Nat.not_lt_zero _),fun hx=>hx⟩
def eV (b off i:Nat):(⟨b,off,none⟩:Addr).add i=⟨b,off+i,none⟩:=by
 unfold Addr.add
 split
 ·rename_i h; rw [h]; rfl
 ·rfl
def rl {w:World} {fuel t:Nat} {v:Value} {x:DataW H×List MemPlace} (ht:Tryz.prog.underlying t=some (.int .i64)) (h:DataW.trod enc Tryz.prog w 0 (fun _=>true) true fuel t [v]=some x):∃n:Int,bF w (wh w) (.int .i64 n) v:=by
 obtain ⟨n,q,_,_⟩:=DataW.trod_int ht h
 cases q
 exact ⟨n,.int _ _⟩
def TV {w:World} {fuel t:Nat} {v:Value} {x:DataW H×List MemPlace} (ht:Tryz.prog.underlying t=some (.int .u8)) (h:DataW.trod enc Tryz.prog w 0 (fun _=>true) true fuel t [v]=some x):∃b:UInt8,bF w (wh w) (jk b) v:=by
 obtain ⟨n,q,_,wf⟩:=DataW.trod_int ht h
 cases q
 have h3:IntKind.u8.min<=n/\n<=IntKind.u8.max:=by simpa [Lit.wf] using wf
 have e1:IntKind.u8.min=0:=by decide
 have e2:IntKind.u8.max=255:=by decide
 have e:n=((UInt8.ofNat n.toNat).toNat:Int):=by rw [UInt8.toNat_ofNat']; omega
 refine ⟨UInt8.ofNat n.toNat,?_⟩
 unfold jk
 rw [<-e]
 exact .int _ _
def D8 {w:World} {fuel t:Nat} {v:Value} {x:DataW H×List MemPlace} (ht:Tryz.prog.underlying t=some .string) (h:DataW.trod enc Tryz.prog w 0 (fun _=>true) true fuel t [v]=some x):∃s:Bytes,bF w (wh w) (.str s) v:=by
 obtain ⟨s,q,_,_⟩:=DataW.trod_string ht h
 cases q
 refine ⟨s.data.toList,?_⟩
 have:Go.Abs.bs s.data.toList=s:=by apply ByteArray.ext; simp [Go.Abs.bs]
 have h:=bF.str (w:=w) (cu:=wh w) s.data.toList
 rw [this] at h
 exact h
def tp {α:Type} (P:Nat->α->Prop):∀(n:Nat),(∀i,i<n->∃a,P i a)->∃l:List α,l.length=n/\∀i a,l[i]?=some a->P i a
 |0,_=>⟨[],rfl,fun i a h=>by cases i<;>cases h⟩
 |n+1,h=>by
  obtain ⟨l,hl,hp⟩:=tp P n (fun i hi=>h i (by omega))
  obtain ⟨a,ha⟩:=h n (by omega)
  refine ⟨l++[a],by simp [hl],fun i b hb=>?_⟩
  rcases Nat.lt_or_ge i n with hi|hi
  ·rw [List.getElem?_append_left (by omega)] at hb
   exact hp i b hb
  ·rw [List.getElem?_append_right (by omega)] at hb
   have:i=n:=by
    have:=(List.getElem?_eq_some_iff.1 hb).1
    simp at this; omega
   subst this
   simp [hl] at hb
   subst hb; exact ha
def gI (w:World) (l:List ae) (cs:List Value):Prop:=l.length=cs.length/\∀(k:Nat) (c:ae) (v:Value),l[k]?=some c->cs[k]?=some v->bF w (wh w) c v
def gI.one {w:World} {c:ae} {v:Value} (h:bF w (wh w) c v):gI w [c] [v]:=⟨rfl,fun k c' v' h1 h2=>by
 match k with
 |0=>cases h1; cases h2; exact h
 |k+1=>cases h1⟩
def gI.app {w:World} {a b:List ae} {cs ds:List Value} (h:gI w a cs) (g:gI w b ds):gI w (a++b) (cs++ds):=⟨by simp [h.1,g.1],fun k c v h1 h2=>by
 rcases Nat.lt_or_ge k a.length with hk|hk
 ·rw [List.getElem?_append_left hk] at h1
  rw [List.getElem?_append_left (by rw [<-h.1]; exact hk)] at h2
  exact h.2 k c v h1 h2
 ·rw [List.getElem?_append_right hk] at h1
  rw [List.getElem?_append_right (by rw [<-h.1]; exact hk),<-h.1] at h2
  exact g.2 _ c v h1 h2⟩
def gI.nil {w:World}:gI w [] []:=⟨rfl,fun k c v h1 _=>by cases h1⟩
def Xw:DataW H->Nat
 | .slice es _=>es.length
 |_=>0
def A9 {α:Type} {w:World} {fuel t e m:Nat} {v:Value} {x:DataW H×List MemPlace} {eC:α->List ae} {mk:α->ae} (ht:Tryz.prog.underlying t=some (.slice e)) (hm:Tryz.prog.cellsOf e=m) (hm0:0<m)
  (hmk:∀a,(mk a).cells=eC a) (hlen:∀a,(eC a).length=m)
  (he:∀(n:Nat) (cs:List Value) (y:DataW H×List MemPlace),cs.length=m->DataW.trod enc Tryz.prog w 0 (fun _=>true) true n e cs=some y->∃a,gI w (eC a) cs)
  (h:DataW.trod enc Tryz.prog w 0 (fun _=>true) true fuel t [v]=some x) :
  ∃l:List α,bF w (wh w) (.slice .sh (l.map mk)) v/\l.length=Xw x.1:=by
 rcases open_slice ht h with ⟨hcs,hxx⟩|⟨a,len,cap,mm,n,D,Pl,hcs,_,hl,_,hmm,hxx,hi⟩
 ·cases hcs
  exact ⟨[],bF.nil _ _ _,by rw [hxx]; rfl⟩
 ·cases hcs
  simp only [if_true] at hmm
  obtain ⟨b,off,spot⟩:=a
  rw [hm] at hi
  have each:∀i,i<len->∃s:α,∃cs',w.cells? 0 ((⟨b,off,spot⟩:Addr).add (i*m)) m=some cs'/\cs'.length=m/\gI w (eC s) cs':=by
   intro i hi'
   obtain ⟨cs',hcl,ht⟩:=hi i (by omega)
   have hln:cs'.length=m:=(World.cells?_some hcl).2.1
   obtain ⟨s,hr⟩:=he _ _ _ hln ht
   exact ⟨s,cs',hcl,hln,hr⟩
  obtain ⟨l,hll,hlp⟩:=tp _ len each
  refine ⟨l,?_,by rw [hxx]; simp [Xw,hll]⟩
  have hsp:len≠0->spot=none:=fun h0=>by
   obtain ⟨s,cs',hcl,h6,_⟩:=each 0 (by omega)
   obtain ⟨_,_,hat⟩:=World.cells?_some hcl
   have:=hat 0 hm0
   have h3:cs'[0]?=some (cs'[0]'(by omega)):=List.getElem?_eq_getElem (by omega)
   rw [h3] at this
   simpa [Addr.add] using World.cell?_spot this
  have cell:∀(i:Nat) (s:α) (k:Nat) (c:ae),l[i]?=some s->(eC s)[k]?=some c->∃u,w.cell? ⟨b,off+(i*m+k),none⟩=some u/\bF w (wh w) c u:=fun i s k c hs hk=>by
   obtain ⟨cs',hcl,h6,hr⟩:=hlp i s hs
   have hil:i<len:=by have:=(List.getElem?_eq_some_iff.1 hs).1; omega
   obtain rfl:=hsp (by omega)
   obtain ⟨_,_,hat⟩:=World.cells?_some hcl
   have hk6:k<m:=by have:=(List.getElem?_eq_some_iff.1 hk).1; rw [hlen] at this; exact this
   have h1:=hat k hk6
   have h3:cs'[k]?=some (cs'[k]'(by omega)):=List.getElem?_eq_getElem (by omega)
   rw [eV,eV,h3] at h1
   exact ⟨_,by rw [<-Nat.add_assoc]; exact h1,hr.2 k c _ hk h3⟩
  refine .slice _ _ _ _ b off m (fun q=>(w.cell? ⟨b,off+q,none⟩).getD undef) (by simp [hll]) hl (fun hne=>?_) ?_ ?_ ?_
  ·obtain rfl:=hsp (fun h0=>hne (by rw [h0] at hll; rw [List.length_eq_zero_iff.1 hll]; rfl))
   rfl
  ·intro x hx
   obtain ⟨s,_,rfl⟩:=List.mem_map.1 hx
   rw [hmk,hlen]
  ·intro i x k c hx hk
   rw [List.getElem?_map] at hx
   obtain ⟨s,hs,rfl⟩:=Option.map_eq_some_iff.1 hx
   rw [hmk] at hk
   obtain ⟨u,h1,_⟩:=cell i s k c hs hk
   refine ⟨by rw [h1]; rfl,LO (Di h1)⟩
  ·intro i x k c hx hk
   rw [List.getElem?_map] at hx
   obtain ⟨s,hs,rfl⟩:=Option.map_eq_some_iff.1 hx
   rw [hmk] at hk
   obtain ⟨u,h1,h2⟩:=cell i s k c hs hk
   show bF w _ c ((w.cell? _).getD undef)
   rw [h1]
   exact h2
def EA {w:World} {fuel t e:Nat} {v:Value} {x:DataW H×List MemPlace} (ht:Tryz.prog.underlying t=some (.slice e)) (he:Tryz.prog.underlying e=some (.int .u8)) (hc:Tryz.prog.cellsOf e=1) (h:DataW.trod enc Tryz.prog w 0 (fun _=>true) true fuel t [v]=some x) :
  ∃d:Bytes,bF w (wh w) (.slice .sh (d.map jk)) v:=by
 obtain ⟨l,h,_⟩:=A9 (eC:=fun b=>[jk b]) (mk:=jk) ht hc (by omega) (fun _=>rfl) (fun _=>rfl) (fun n cs y hl hy=>by
  match cs,hl with
  | [c],_ =>
   obtain ⟨b,hb⟩:=TV he hy
   exact ⟨b,.one hb⟩) h
 exact ⟨l,h⟩
def C1 {T:qm} (hT:hU Tryz.prog (ai T)) {f:Nat} {args:List ae} (h:ai T f args []=some (.bool true,[])) (w:World) (hG:j4 Rv [] w) (vs:Array Value) (hl:args.length=vs.size) (hv:∀(i:Nat) (c:ae) (v:Value),args[i]?=some c->vs[i]?=some v->bQ Rv [] w c v) :
  Calls Tryz.prog f vs w fun e w'=>e = .returned (.bool true)/\Below w.heap.size w w':=by
 refine ((hT f args [] _ h).2 Rv w vs (aeF w) hG hl hv).mono ?_
 intro e w' hce
 obtain ⟨v,rfl,j',_,hx,hr⟩:=hce.ret rfl
 obtain rfl:=hr.df
 exact ⟨rfl,hx.os,hx.tape,hx.output,hx.size,fun k hk=>(hx.mP k hk fun i hi=>absurd hi (Nat.not_lt_zero _)).1⟩
def Pg {w:World} {n t k:Nat} {cs:List Value} {v:Value} {y:DataW H×List MemPlace} (hc:Tryz.prog.cellsOf t=1) (hk:cs[k]?=some v) (h:DataW.trod enc Tryz.prog w 0 (fun _=>true) true n t ((cs.drop k).take (Tryz.prog.cellsOf t))=some y):DataW.trod enc Tryz.prog w 0 (fun _=>true) true n t [v]=some y:=by
 rw [hc] at h
 have:(cs.drop k).take 1=[v]:=by
  have:=(List.getElem?_eq_some_iff.1 hk)
  obtain ⟨h1,h2⟩:=this
  rw [List.drop_eq_getElem_cons h1,h2]; rfl
 rw [this] at h
 exact h
def Bm:Tryz.prog.underlying 3=some (.int .i64):=by kernel_rfl
def P8:Tryz.prog.underlying 9=some .string:=by kernel_rfl
def aeH:Tryz.prog.underlying 5=some (.int .u8):=by kernel_rfl
def O2:Tryz.prog.underlying 23=some (.slice 5):=by kernel_rfl
def zC:Tryz.prog.cellsOf 3=1:=by kernel_rfl
def Ph:Tryz.prog.cellsOf 9=1:=by kernel_rfl
def ab9:Tryz.prog.cellsOf 5=1:=by kernel_rfl
def MF:Tryz.prog.cellsOf 23=1:=by kernel_rfl
def adv:Tryz.prog.cellsOf 25=8:=by kernel_rfl
def P7:Tryz.prog.underlying 22=some (.slice 25):=by kernel_rfl
set_option maxRecDepth 100000 in
def S4 {w:World} {fuel:Nat} {cs:List Value} {x:DataW H×List MemPlace} (h:DataW.trod enc Tryz.prog w 0 (fun _=>true) true fuel 25 cs=some x):∃o:er,gI w (gM o) cs:=by
 obtain ⟨xs,n,_,_,hl,hxl,hf⟩:=DataW.trod_struct Tryz.underlying25 h
 have h0:cs.length=8:=by rw [hl]; kernel_rfl
 match cs,h0 with
 | [v0,v1,v2,v3,v4,v5,v6,v7],_ =>
  match xs,hxl with
  | [y0,y1,y2,y3,y4,y5,y6,y7],_ =>
   obtain ⟨a0,r0⟩:=rl Bm (Pg (k:=0) zC rfl (hf 0 _ rfl))
   obtain ⟨a1,r1⟩:=rl Bm (Pg (k:=1) zC rfl (hf 1 _ rfl))
   obtain ⟨a2,r2⟩:=D8 P8 (Pg (k:=2) Ph rfl (hf 2 _ rfl))
   obtain ⟨a3,r3⟩:=D8 P8 (Pg (k:=3) Ph rfl (hf 3 _ rfl))
   obtain ⟨a4,r4⟩:=rl Bm (Pg (k:=4) zC rfl (hf 4 _ rfl))
   obtain ⟨a5,r5⟩:=rl Bm (Pg (k:=5) zC rfl (hf 5 _ rfl))
   obtain ⟨a6,r6⟩:=rl Bm (Pg (k:=6) zC rfl (hf 6 _ rfl))
   obtain ⟨a7,r7⟩:=EA O2 aeH ab9 (Pg (k:=7) MF rfl (hf 7 _ rfl))
   exact ⟨⟨a0,a1,a2,a3,a4,a5,a6,a7⟩,.app (.one r0) (.app (.one r1) (.app (.one r2) (.app (.one r3) (.app (.one r4) (.app (.one r5) (.app (.one r6) (.one r7)))))))⟩
set_option maxRecDepth 100000 in
def OJ {w:World} {r:Reach} {b:Nat} {v:Value} {d:DataW H} {ps:List MemPlace} (h:DataW.Trod enc Tryz.prog w 0 (fun _=>true) true 22 v d ps) (hv:Value.okWide Tryz.prog w r b 22 v):∃l:List er,bQ Rv [] w (wj l) v:=by
 obtain ⟨a,len,cap,rfl⟩:=okWide_slice P7 hv
 obtain ⟨fuel,hf⟩:=h
 obtain ⟨l,h2,_⟩:=A9 (eC:=gM) (mk:=QX) P7 adv (by omega) (fun _=>rfl) (fun _=>rfl) (fun n cs y _ hy=>S4 hy) hf
 exact ⟨l,.plain h2⟩
end
def TU {α:Type} {a:Array α} {l:List α} (h:a.toList=l):a=l.toArray:=by rw [<-h]
end
end Go.Proofs.YtahkjijkflobhaaGreatDoor
namespace Go.Proofs.YtahkjijkflobhaaGreatDoor
open Go Go.Abs
section
attribute [local irreducible] cJ cE gD gK bG kr ai ak aV aF
def kl (ino:Int):List Node->Nat->Int
 | [],_ => -1
 |n::r,i=>if n.ino=ino then i else kl ino r (i+1)
def SI {t:Tree} {ino:Int} (ht:t.nodes.length<=100000) {k:List K} {R:Int->Option (ae×ag)}
  (hx:∀e,kr (ai aQ) [.tmp 4] 0 k ⟨.exit 0,e,[.cells (ar t)]⟩=R (-1)) (hr:∀(i:Nat),kr (ai aQ) [.tmp 4] 0 k ⟨.ret,[(4,.int .i64 i)],[.cells (ar t)]⟩=R i) :
  ∀(l pre:List Node),t.nodes=pre++l->cJ (ai aQ) [.tmp 4] 0 k (.loop [1,2,5] SA) [(1,.int .i64 ino),(2,.ptr 0 0),(5,.int .i64 pre.length)] [.cells (ar t)]=R (kl ino l pre.length):=by
 intro l
 induction l with
 |nil =>
  intro pre h
  rw [aB]
  simp only [Qm,ar,az,c9 h,EN,simprocAttr]
  exact hx _
 |cons n r ih =>
  intro pre h
  rw [aB]
  have hlen:pre.length+1<=100000:=by rw [h] at ht; simp at ht; omega
  have hw:IntKind.i64.wrap ((pre.length:Int)+1)=((pre++[n]).length:Int):=by rw [bD (by omega) (by omega)]; exact bK
  simp only [Qm,ar,az,cC h,cn h,aw,EN,simprocAttr]
  refine aC (fun hb=>?_) (fun hb=>?_)
  ·have hb:n.ino=ino:=by simpa using hb
   simp only [Qm,EN,simprocAttr]
   rw [kl,if_pos hb]
   exact hr _
  ·have hb:¬n.ino=ino:=by simpa using hb
   simp only [Qm,hw,EN,simprocAttr]
   rw [kl,if_neg hb]
   have:=ih (pre++[n]) (by rw [h]; simp)
   simp only [List.length_append,List.length_cons,List.length_nil] at this ⊢
   exact this
def c34 (t:Tree) (ino:Int) (ht:t.nodes.length<=100000):ai aQ 34 [bj t,.int .i64 ino] []=some (.int .i64 (kl ino t.nodes 0),[]):=by
 refine aq ?_
 simp only [Q9,Qm,bj,EN,simprocAttr]
 exact SI (R:=fun z=>some (.int .i64 z,[])) ht (fun e=>by simp only [Qm,EN,simprocAttr]) (fun i=>by simp only [Qm,EN,simprocAttr]) t.nodes [] rfl
def k34 (nodes:List Node) (next af ino:Int) (h:nodes.length<=100000) (M:ag):ak (ai aQ) 34 [.agg [az nodes,.int .i64 next,.int .i64 af],.int .i64 ino] M=some (.int .i64 (kl ino nodes 0),M) :=
 cO (c34 ⟨nodes,next,af⟩ ino h) M
def rF (ino:Int):∀(l:List Node) (i:Nat),(find l ino=none/\kl ino l i = -1)\/∃m n,l[m]?=some n/\find l ino=some n/\kl ino l i=((i+m:Nat):Int)
 | [],_ => .inl ⟨rfl,rfl⟩
 |n::r,i=>by
  unfold find kl
  by_cases h:n.ino=ino
  ·exact .inr ⟨0,n,rfl,by simp [h],by simp [h]⟩
  ·rcases rF ino r (i+1) with ⟨h1,h2⟩|⟨m,n',h1,h2,h3⟩
   ·exact .inl ⟨by simp [h]; simpa [find] using h1,by simp [h,h2]⟩
   ·exact .inr ⟨m+1,n',by simpa using h1,by simp [h]; simpa [find] using h2,by simp [h,h3]; omega⟩
def c18 (t:Tree) (ino:Int) (ht:t.nodes.length<=100000):ai aQ 18 [bj t,.int .i64 ino] []=some (.tuple [aX ((find t.nodes ino).getD Node.zero),.bool (find t.nodes ino).isSome],[]):=by
 refine aq ?_
 simp only [Q3,Z9,bj,ar,k34,ht,EN,simprocAttr]
 rcases rF ino t.nodes 0 with ⟨h1,h2⟩|⟨m,n,h1,h2,h3⟩
 ·rw [h2]
  simp only [Z9,h1,EN,simprocAttr]
  rfl
 ·rw [h3]
  simp only [Z9,h1,h2,az,aw,EN,simprocAttr]
  rfl
def k18 (nodes:List Node) (next af ino:Int) (h:nodes.length<=100000) (M:ag):ak (ai aQ) 18 [.agg [az nodes,.int .i64 next,.int .i64 af],.int .i64 ino] M=some (.tuple [aX ((find nodes ino).getD Node.zero),.bool (find nodes ino).isSome],M) :=
 cO (c18 ⟨nodes,next,af⟩ ino h) M
end
section
attribute [local irreducible] cJ cE gD gK bG kr ai ak aV aF
def SJ {t:Tree} {of:Int} (ht:t.nodes.length<=100000) {k:List K} {R:Bool->Option (ae×ag)}
  (hx:∀e,kr (ai aQ) [.tmp 6] 0 k ⟨.exit 0,e,[.cells (ar t)]⟩=R false) (hr:∀b,kr (ai aQ) [.tmp 6] 0 k ⟨.ret,[(6,.bool b)],[.cells (ar t)]⟩=R b) :
  ∀(m:Nat) (ino:Int) (d:Nat),d+m=t.nodes.length+1->cJ (ai aQ) [.tmp 6] 0 k (.loop [1,2,3,7] SB) [(1,.int .i64 ino),(2,.int .i64 of),(3,.ptr 0 0),(7,.int .i64 d)] [.cells (ar t)]=R (fy t.nodes of m ino):=by
 intro m
 induction m with
 |zero =>
  intro ino d hd
  rw [aB]
  have hd':((d:Int)<=(t.nodes.length:Int))=False:=by simp; omega
  simp only [Mo,ar,az,hd',EN,simprocAttr]
  exact hx _
 |succ m ih =>
  intro ino d hd
  rw [aB]
  have hd':((d:Int)<=(t.nodes.length:Int))=True:=by simp; omega
  have hw:IntKind.i64.wrap ((d:Int)+1)=((d+1:Nat):Int):=by rw [bD (by omega) (by omega)]; rfl
  have hi:=fun ino=>ih ino (d+1) (by omega)
  rw [fy]
  simp only [Mo,ar,az,hd',EN,simprocAttr]
  refine aC (fun hb=>?_) (fun hb=>?_)
  ·have h1:ino=of:=by simpa using hb
   simp only [Mo,EN,simprocAttr]
   rw [if_pos h1]
   exact hr _
  ·have h1:¬ino=of:=by simpa using hb
   simp only [Mo,EN,simprocAttr]
   rw [if_neg h1]
   refine aC (fun hb=>?_) (fun hb=>?_)
   ·have h1:ino=1:=by simpa using hb
    simp only [Mo,EN,simprocAttr]
    rw [if_pos h1]
    exact hr _
   ·have h1:¬ino=1:=by simpa using hb
    simp only [Mo,hw,k18,ht,aX,aw,EN,simprocAttr]
    rw [if_neg h1]
    exact hi _
def c39 (t:Tree) (ino of:Int) (ht:t.nodes.length<=100000):ai aQ 39 [bj t,.int .i64 ino,.int .i64 of] []=some (.bool (cH t.nodes ino of),[]):=by
 refine aq ?_
 simp only [Rc,Mo,bj,EN,simprocAttr]
 exact SJ (R:=fun b=>some (.bool b,[])) ht (fun e=>by simp only [Mo,EN,simprocAttr]) (fun b=>by simp only [Mo,EN,simprocAttr]) (t.nodes.length+1) ino 0 (by omega)
def k39 (nodes:List Node) (next af ino of:Int) (h:nodes.length<=100000) (M:ag):ak (ai aQ) 39 [.agg [az nodes,.int .i64 next,.int .i64 af],.int .i64 ino,.int .i64 of] M=some (.bool (cH nodes ino of),M) :=
 cO (c39 ⟨nodes,next,af⟩ ino of h) M
end
def F1 (ds:List Bool) (b:Nat) (d:Bool):cS (ds.map ae.bool) b (putCells (.bool d) 0 [.bool true])=(ds.set b true).map ae.bool:=by
 have:putCells (.bool d) 0 [.bool true] = .bool true:=rfl
 rw [this,cd,List.map_set]
def PJ (e:Int) (post:List Node) (m:List Bool):List Bool:=m.take (m.length-post.length)++nw e post (m.drop (m.length-post.length))
def Nc (e:Int) (m:List Bool):PJ e [] m=m:=by simp [PJ,nw]
def Iz (e:Int) (x:Node) (post:List Node) (m:List Bool) (k:Nat) (b:Bool) (hm:m.length=k+(post.length+1)) (hb:m[k]?=some b):PJ e (x::post) m=PJ e post (m.set k (b||x.ino==e)):=by
 obtain ⟨A,B,rfl,hA⟩:∃A B,m=A++b::B/\A.length=k:=by
  have hk:=(List.getElem?_eq_some_iff.1 hb).1
  refine ⟨m.take k,m.drop (k+1),?_,by simp; omega⟩
  rw [<-(List.getElem?_eq_some_iff.1 hb).2,<-List.drop_eq_getElem_cons hk,List.take_append_drop]
 subst hA
 simp only [List.length_append,List.length_cons] at hm
 have hB:B.length=post.length:=by omega
 have e1:(A++b::B).length-(x::post).length=A.length:=by simp; omega
 have e2:((A++b::B).set A.length (b||x.ino==e))=(A++[b||x.ino==e])++B:=by simp
 have e3:((A++[b||x.ino==e])++B).length-post.length=(A++[b||x.ino==e]).length:=by simp; omega
 unfold PJ
 rw [e2,e3,e1,List.take_left,List.drop_left,List.take_left,List.drop_left]
 simp [nw]
def Nb (e:Int) (nodes:List Node) (m:List Bool) (h:m.length=nodes.length):PJ e nodes m=nw e nodes m:=by
 unfold PJ
 rw [h,Nat.sub_self]
 simp
def zI:∀(m:List Bool) (k:Nat),m[k]?=some false->jO (m.set k true)=jO m+1
 | [],k,h=>by simp at h
 |b::m,0,h=>by simp at h; subst h; simp [jO]
 |b::m,k+1,h=>by
  have:=zI m k (by simpa using h)
  simp only [jO,List.set_cons_succ,List.countP_cons] at this ⊢
  omega
def Ea:∀(nodes:List Node) (m:List Bool) (k:Nat) (n:Node),m[k]?=some false->nodes[k]?=some n->rK nodes (m.set k true)=rK nodes m+n.data.length
 | [],m,k,n,_,h=>by simp at h
 |x::nodes,[],k,n,h,_=>by simp at h
 |x::nodes,b::m,0,n,h,h'=>by simp at h h'; subst h; subst h'; simp [rK]; omega
 |x::nodes,b::m,k+1,n,h,h'=>by
  have:=Ea nodes m k n (by simpa using h) (by simpa using h')
  simp only [rK,List.set_cons_succ,List.zip_cons_cons,List.map_cons,List.sum_cons] at this ⊢
  omega
def L1:∀(nodes:List Node) (m:List Bool),(∀n,n∈nodes->n.data.length<=4096)->rK nodes m<=4096*nodes.length
 | [],m,_=>by simp [rK]
 |x::nodes,[],_=>by simp [rK]
 |x::nodes,b::m,h=>by
  have h1:=L1 nodes m fun n hn=>h n (List.mem_cons_of_mem _ hn)
  have h2:=h x List.mem_cons_self
  simp only [rK,List.zip_cons_cons,List.map_cons,List.sum_cons,List.length_cons] at h1 ⊢
  split<;>omega
def MI (m:List Bool):jO m<=m.length:=List.countP_le_length
def Be {m:List Bool} {k:Nat} {b:Bool} (h:m[k]?=some b):m.set k b=m:=by
 obtain ⟨hk,rfl⟩:=List.getElem?_eq_some_iff.1 h
 exact List.set_getElem_self hk
abbrev ya (n:Nat):={ m:List Bool // m.length=n }
section
attribute [local irreducible] cJ cE gD gK bG kr ai ak aV aF
variable {t:Tree} {d:Node} {ino:Int} {i:Nat}
def qW (t:Tree) (m:List Bool) (d:Node):ag:=[.cells (ar t),.arr 1 0 (m.map ae.bool),.cells (aw d)]
def N9 (ht:t.nodes.length<=200) (hdt:∀n,n∈t.nodes->n.data.length<=4096) (hd:d.av.length<=64) {kk:Nat} {e:b9} (he:d.av[kk]?=some e) {k:List K} {R:List Bool->Option (ae×ag)}
  (hx:∀(m:ya t.nodes.length) z,kr (ai aQ) [.tmp 4,.tmp 5] 0 k ⟨.exit 4,(1,.int .i64 ino)::(2,.ptr 0 0)::(6,.aZ 1 0 1 0 t.nodes.length)::(7,.int .i64 (jO m.1))::(8,.int .i64 (rK t.nodes m.1))::(9,.int .i64 i)::(10,.ptr 2 0)::(11,.int .i64 kk)::(12,.int .i64 t.nodes.length)::z,qW t m.1 d⟩=R m.1) (m:ya t.nodes.length) :
  cJ (ai aQ) [.tmp 4,.tmp 5] 0 k (.loop [1,2,6,7,8,9,10,11,12] Sv) [(1,.int .i64 ino),(2,.ptr 0 0),(6,.aZ 1 0 1 0 t.nodes.length),(7,.int .i64 (jO m.1)),(8,.int .i64 (rK t.nodes m.1)),(9,.int .i64 i),(10,.ptr 2 0),(11,.int .i64 kk),(12,.int .i64 0)] (qW t m.1 d)=R (nw e.ino t.nodes m.1):=by
 have hkl:=(List.getElem?_eq_some_iff.1 he).1
 have hkL:((kk:Int)<(d.av.length:Int))=True:=by simp only [eq_iff_iff,iff_true]; omega
 have hk0:((kk:Int)<0)=False:=by simp
 rw [<-Nb _ _ _ m.2]
 refine uZ (xs:=t.nodes) (by omega) (fun l (m:ya t.nodes.length)=>PJ e.ino l m.1) (fun m j=>[(1,.int .i64 ino),(2,.ptr 0 0),(6,.aZ 1 0 1 0 t.nodes.length),(7,.int .i64 (jO m.1)),(8,.int .i64 (rK t.nodes m.1)),(9,.int .i64 i),(10,.ptr 2 0),(11,.int .i64 kk),(12,.int .i64 j)]) (fun m=>qW t m.1 d) R (fun m=>?_) (fun pre x post m h hx' hlt hw h0 hm hi=>?_) m
 ·rw [Nc]
  simp only [qW,ar] at hx ⊢
  simp only [C8,Int.lt_irrefl,EW,simprocAttr]
  exact hx m _
 ·have hpl:=(List.getElem?_eq_some_iff.1 hx').1
  have hml:=m.2
  have hmk:m.1[pre.length]?=some (m.1[pre.length]'(by omega)):=List.getElem?_eq_getElem (by omega)
  generalize m.1[pre.length]'(by omega)=b at hmk
  have hplt:(pre.length<m.1.length)=True:=by simp only [eq_iff_iff,iff_true]; omega
  have c1:=MI m.1
  have c2:=L1 t.nodes m.1 hdt
  have c3:=hdt x hm
  have w1:IntKind.i64.wrap ((jO m.1:Int)+1)=(jO m.1:Int)+1:=bD (by omega) (by omega)
  have w2:IntKind.i64.wrap ((rK t.nodes m.1:Int)+x.data.length)=(rK t.nodes m.1:Int)+x.data.length:=bD (by omega) (by omega)
  have hpost:m.1.length=pre.length+(post.length+1):=by rw [hml,h]; simp
  rw [Iz e.ino x post m.1 pre.length b hpost hmk]
  cases hq:x.ino==e.ino
  ·have hs:m.1.set pre.length (b||false)=m.1:=by
    rw [Bool.or_false]
    exact Be hmk
   rw [hs]
   have i1:=hi m
   simp only [qW,ar,aw] at i1 ⊢
   simp only [C8,hlt,hx',h0,hkL,hk0,he,hq,hw,aw,cI,hml,EW,simprocAttr]
   exact i1
  ·cases b
   ·have i1:=hi ⟨m.1.set pre.length true,by simp [hml]⟩
    have s1:=zI m.1 pre.length hmk
    have s2:=Ea t.nodes m.1 pre.length x hmk hx'
    have t1:((jO (m.1.set pre.length true):Nat):Int)=(jO m.1:Int)+1:=by omega
    have t2:((rK t.nodes (m.1.set pre.length true):Nat):Int)=(rK t.nodes m.1:Int)+x.data.length:=by omega
    simp only [t1,t2,qW,ar,aw] at i1 ⊢
    simp only [C8,hlt,hx',h0,hkL,hk0,he,hq,hw,w1,w2,hmk,hplt,Nat.sub_zero,F1,aw,cI,hml,EW,simprocAttr]
    exact i1
   ·have hs:m.1.set pre.length (true||true)=m.1:=Be hmk
    rw [hs]
    have i1:=hi m
    simp only [qW,ar,aw] at i1 ⊢
    simp only [C8,hlt,hx',h0,hkL,hk0,he,hq,hw,hmk,hplt,Nat.sub_zero,aw,cI,hml,EW,simprocAttr]
    exact i1
def Oa (ht:t.nodes.length<=200) (hdt:∀n,n∈t.nodes->n.data.length<=4096) (hd:d.av.length<=64) {k:List K} {R:List Bool->Option (ae×ag)}
  (hx:∀(m:ya t.nodes.length) z,kr (ai aQ) [.tmp 4,.tmp 5] 0 k ⟨.exit 2,(1,.int .i64 ino)::(2,.ptr 0 0)::(6,.aZ 1 0 1 0 t.nodes.length)::(7,.int .i64 (jO m.1))::(8,.int .i64 (rK t.nodes m.1))::(9,.int .i64 i)::(10,.ptr 2 0)::(11,.int .i64 d.av.length)::z,qW t m.1 d⟩=R m.1) (m:ya t.nodes.length) :
  cJ (ai aQ) [.tmp 4,.tmp 5] 0 k (.loop [1,2,6,7,8,9,10,11] Sw) [(1,.int .i64 ino),(2,.ptr 0 0),(6,.aZ 1 0 1 0 t.nodes.length),(7,.int .i64 (jO m.1)),(8,.int .i64 (rK t.nodes m.1)),(9,.int .i64 i),(10,.ptr 2 0),(11,.int .i64 0)] (qW t m.1 d)=R (d.av.foldl (fun m e=>nw e.ino t.nodes m) m.1):=by
 refine uZ (xs:=d.av) (by omega) (fun l (m:ya t.nodes.length)=>l.foldl (fun m e=>nw e.ino t.nodes m) m.1) (fun m j=>[(1,.int .i64 ino),(2,.ptr 0 0),(6,.aZ 1 0 1 0 t.nodes.length),(7,.int .i64 (jO m.1)),(8,.int .i64 (rK t.nodes m.1)),(9,.int .i64 i),(10,.ptr 2 0),(11,.int .i64 j)]) (fun m=>qW t m.1 d) R (fun m=>?_) (fun pre e post m h hx' hlt hw h0 hm hi=>?_) m
 ·rw [List.foldl_nil]
  simp only [qW,ar,aw] at hx ⊢
  simp only [C8,Int.lt_irrefl,EW,simprocAttr]
  exact hx m _
 ·rw [List.foldl_cons]
  have hj:=fun {k} hx2=>N9 (ino:=ino) (i:=i) ht hdt hd hx' (k:=k) (R:=fun m'=>R (post.foldl (fun m e=>nw e.ino t.nodes m) m')) hx2 m
  simp only [qW,ar,aw] at hj ⊢
  simp only [C8,hlt,EW,simprocAttr]
  refine hj (fun m' z=>?_)
  have i1:=hi m'
  simp only [qW,ar,aw] at i1
  simp only [C8,hw,EW,simprocAttr]
  exact i1
def N8 (ht:t.nodes.length<=200) (hn:∀n,n∈t.nodes->n.data.length<=4096/\n.av.length<=64) {k:List K} {R:List Bool->Option (ae×ag)}
  (hx:∀(m:ya t.nodes.length) z,kr (ai aQ) [.tmp 4,.tmp 5] 0 k ⟨.exit 0,(1,.int .i64 ino)::(2,.ptr 0 0)::(6,.aZ 1 0 1 0 t.nodes.length)::(7,.int .i64 (jO m.1))::(8,.int .i64 (rK t.nodes m.1))::(9,.int .i64 t.nodes.length)::z,[.cells (ar t),.arr 1 0 (m.1.map ae.bool)]⟩=R m.1) (m:ya t.nodes.length) :
  cJ (ai aQ) [.tmp 4,.tmp 5] 0 k (.loop [1,2,6,7,8,9] Sx) [(1,.int .i64 ino),(2,.ptr 0 0),(6,.aZ 1 0 1 0 t.nodes.length),(7,.int .i64 (jO m.1)),(8,.int .i64 (rK t.nodes m.1)),(9,.int .i64 0)] [.cells (ar t),.arr 1 0 (m.1.map ae.bool)]=R (t.nodes.foldl (vw t.nodes ino) m.1):=by
 refine uZ (xs:=t.nodes) (by omega) (fun l (m:ya t.nodes.length)=>l.foldl (vw t.nodes ino) m.1) (fun m j=>[(1,.int .i64 ino),(2,.ptr 0 0),(6,.aZ 1 0 1 0 t.nodes.length),(7,.int .i64 (jO m.1)),(8,.int .i64 (rK t.nodes m.1)),(9,.int .i64 j)]) (fun m=>[.cells (ar t),.arr 1 0 (m.1.map ae.bool)]) R (fun m=>?_) (fun pre d post m h hx' hlt hw h0 hm hi=>?_) m
 ·rw [List.foldl_nil]
  simp only [ar] at hx ⊢
  simp only [C8,Int.lt_irrefl,EW,simprocAttr]
  exact hx m _
 ·rw [List.foldl_cons]
  have qb:=fun M=>k39 t.nodes t.next t.af d.ino ino (by omega) M
  have hk:=fun {k} hx2=>Oa (ino:=ino) (i:=pre.length) (d:=d) ht (fun n hn'=>(hn n hn').1) (hn d hm).2 (k:=k) (R:=fun m'=>R (post.foldl (vw t.nodes ino) m')) hx2 m
  have i0:=hi m
  unfold vw
  simp only [qW,ar,aw] at hk i0 ⊢
  cases h1:d.kind==2
  ·have h1':(d.kind != 2)=true:=by simp [bne,h1]
   simp only [C8,hlt,hx',hw,h1',aw,EW,simprocAttr]
   exact i0
  ·have h1':(d.kind != 2)=false:=by simp [bne,h1]
   cases h2:cH t.nodes d.ino ino
   ·rw [h2] at qb
    simp only [C8,hlt,hx',hw,h1',qb,aw,EW,simprocAttr]
    exact i0
   ·rw [h2] at qb
    simp only [C8,hlt,hx',hw,h1',qb,aw,EW,simprocAttr]
    refine hk (fun m' z=>?_)
    have i1:=hi m'
    simp only [ar] at i1
    simp only [C8,hw,EW,simprocAttr]
    exact i1
def c21 (t:Tree) (ino:Int) (ht:t.nodes.length<=200) (hn:∀n,n∈t.nodes->n.data.length<=4096/\n.av.length<=64):ai aQ 21 [bj t,.int .i64 ino] []=some (.tuple [.int .i64 (jO (iT t.nodes ino)),.int .i64 (rK t.nodes (iT t.nodes ino))],[]):=by
 refine aq ?_
 have hl:=fun {k R} hx=>N8 (ino:=ino) ht hn (k:=k) (R:=R) hx ⟨t.nodes.map fun _=>false,by simp⟩
 have hf:t.nodes.filter (fun _=>false)=[]:=List.filter_eq_nil_iff.2 (by simp)
 have z1:((jO (t.nodes.map fun _=>false):Nat):Int)=0:=by rw [qT,hf]; rfl
 have z2:((rK t.nodes (t.nodes.map fun _=>false):Nat):Int)=0:=by rw [uA,hf]; rfl
 have z3:(t.nodes.map fun _=>false).map ae.bool=List.replicate t.nodes.length (ae.bool false):=by simp [List.map_const']
 have r1:bB t.nodes.length 8=True:=dj (by omega) (by omega)
 have h0':(0<=(t.nodes.length:Int))=True:=by simp
 simp only [z1,z2,z3,ar] at hl
 simp only [Q5,C8,bj,ar,r1,h0',Int.toNat_natCast,ae.norm,EW,simprocAttr]
 refine hl (R:=fun m=>some (.tuple [.int .i64 (jO m),.int .i64 (rK t.nodes m)],[])) (fun m z=>?_)
 simp only [C8,EW,simprocAttr]
end
end Go.Proofs.YtahkjijkflobhaaGreatDoor
namespace Go.Abs
section
open Go
def ow {α:Type} (p:Prop) [Decidable p] (x:Option α):Option α:=if p then x else none
def Lj {α:Type} (p:Prop) [Decidable p] (x:Option α):ow p x=aV p x:=by
 unfold ow
 split
 ·rename_i h; exact (aM h).symm
 ·rename_i h; rw [eq_false h]; exact (tL x).symm
def C3 (xs:List ae) (sz:Nat):Bool:=xs.all fun x=>x.cells.length==sz
def O4 (xs:List ae) (sz:Nat):(C3 xs sz=true)=wid xs sz:=by
 simp [C3,wid]
instance (n b:Nat):Decidable (bB n b):=inferInstanceAs (Decidable (n*b<=2 ^ 44))
def jn (f:ae->ae->Bool):List ae->List ae->Bool
 | [],[]=>true
 |a::r,b::s=>f a b&&jn f r s
 |_,_=>false
def rG {f:ae->ae->Bool} (hf:∀a b,f a b=true->a=b):∀ {a b:List ae},jn f a b=true->a=b
 | [],[],_=>rfl
 |a::r,b::s,h=>by
  simp only [jn,Bool.and_eq_true] at h
  rw [hf a b h.1,rG hf h.2]
 | [],_::_,h=>by cases h
 |_::_,[],h=>by cases h
def jX:Nat->ae->ae->Bool
 |n+1,x,y=>match x,y with
  | .bool a,.bool b=>a==b
  | .int k a,.int l b=>decide (k=l)&&decide (a=b)
  | .str a,.str b=>decide (a=b)
  | .slice t a,.slice u b=>decide (t=u)&&jn (jX n) a b
  | .agg a,.agg b=>jn (jX n) a b
  | .tuple a,.tuple b=>jn (jX n) a b
  | .ptr a b,.ptr c d=>decide (a=c)&&decide (b=d)
  | .cW a,.cW b=>jn (jX n) a b
  | .func f a,.func g b=>decide (f=g)&&jn (jX n) a b
  | .cz a,.cz b=>decide (a=b)
  | .dp a,.dp b=>decide (a=b)
  | .du a b,.du c d=>jn (jX n) a c&&jn (jX n) b d
  | .aZ a b c d e,.aZ a' b' c' d' e'=>decide (a=a')&&decide (b=b')&&decide (c=c')&&decide (d=d')&&decide (e=e')
  | .cV a b c d,.cV a' b' c' d'=>decide (a=a')&&decide (b=b')&&decide (c=c')&&decide (d=d')
  | .iA f a,.iA g b=>decide (f=g)&&jn (jX n) a b
  | .bI a b,.bI c d=>decide (a=c)&&decide (b=d)
  | .dI a b e,.dI c d f=>decide (a=c)&&decide (b=d)&&decide (e=f)
  | .cA a b x l,.cA c d y m=>decide (a=c)&&decide (b=d)&&(decide (x=y)&&decide (l=m))
  | .any,.any=>true
  |_,_=>false
 |0,_,_=>false
def vT:∀(n:Nat) (a b:ae),jX n a b=true->a=b
 |0,_,_,h=>by cases h
 |n+1,x,y,h=>by
  have hl:∀ {a b:List ae},jn (jX n) a b=true->a=b:=fun h=>rG (vT n) h
  simp only [jX] at h
  split at h<;>(try simp only [Bool.and_eq_true,decide_eq_true_eq,beq_iff_eq] at h)<;>first
   |(cases h; done)
   |(rw [h])
   |(rw [hl h])
   |(rw [h.1,hl h.2])
   |(rw [h.1,h.2])
   |(rw [hl h.1,hl h.2])
   |(obtain ⟨⟨⟨⟨h1,h2⟩,h3⟩,h4⟩,h5⟩:=h; rw [h1,h2,h3,h4,h5])
   |(obtain ⟨⟨⟨h1,h2⟩,h3⟩,h4⟩:=h; rw [h1,h2,h3,h4])
   |(obtain ⟨⟨h1,h2⟩,h3⟩:=h; rw [h1,h2,h3])
   |(obtain ⟨⟨h1,h2⟩,h3,h4⟩:=h; rw [h1,h2,h3,h4])
   |rfl
noncomputable def P6 (call:bt) (env:Env) (M:ag):dS->Option (ae×ag)
 | .oB x lo hi =>
  match x.ev env with
  | .str s=>aF (bO env s.length hi) fun h=>aF (bO env 0 lo) fun l =>
   ow (0<=h/\h<=s.length/\0<=l/\l<=h) (some (.str ((s.take h.toNat).drop l.toNat),M))
  |_=>none
 | .qh sz x lo hi mx =>
  match x.ev env with
  | .slice _ xs=>ow (C3 xs sz=true) <| aF (bO env xs.length hi) fun h=>aF (bO env 0 lo) fun l =>
   match mx with
   |none=>ow (0<=h/\h<=xs.length/\0<=l/\l<=h) (some (.slice .sh ((xs.take h.toNat).drop l.toNat),M))
   |some m=>match m.ev env with
    | .int _ m=>ow (0<=m/\m<=xs.length/\0<=h/\h<=m/\0<=l/\l<=h)
      (pE (m==0) (some (.slice .c0 [],M)) (some (.slice .sh ((xs.take h.toNat).drop l.toNat),M)))
    |_=>none
  | .aZ id v sz' al ah=>ow (sz'=sz) <| aF (bO env (ah-al) hi) fun h=>aF (bO env 0 lo) fun l =>
   match mx with
   |none=>ow (0<=h/\h<=(ah-al:Nat)/\0<=l/\l<=h) (pE (l==h) (some (.slice .sh [],M)) (some (.aZ id v sz (al+l.toNat) (al+h.toNat),M)))
   |some m=>match m.ev env with
    | .int _ m=>ow (0<=m/\m<=(ah-al:Nat)/\0<=h/\h<=m/\0<=l/\l<=h)
      (pE (m==0) (some (.slice .c0 [],M)) (pE (l==h) (some (.slice .sh [],M)) (some (.aZ id v sz (al+l.toNat) (al+h.toNat),M))))
    |_=>none
  |_=>none
 | .mq sz x i =>
  match x.ev env,i.ev env with
  | .slice _ xs,.int _ n=>ow (0<=n) (aF (xs[n.toNat]?) fun e=>if e.cells.length=sz then some (.cW e.cells,M) else none)
  | .aZ id v sz' lo hi,.int _ n=>ow (0<=n/\n<(hi-lo:Nat)/\sz'=sz) (some (.cV id v (lo+n.toNat) 0,M))
  |_,_=>none
 | .nZ x i =>
  match x.ev env,i.ev env with
  | .str s,.int _ n=>ow (0<=n) (aF (s[n.toNat]?) fun b=>some (.int .u8 b.toNat,M))
  |_,_=>none
 | .append sz bytes x y =>
  match x.ev env,y.ev env with
  | .slice tk xs,.slice _ ys =>
   ow (bB (xs.length+ys.length) bytes/\C3 xs sz=true/\C3 ys sz=true) (
    match tk with
    | .c0=>match xs with|[]=>some (.slice (.own M.length) ys,M++[.tick sz ys.length])|_=>none
    | .own k=>match nth M k with
     |some (.tick sz' n)=>ow (sz'=sz/\n=xs.length) (some (.slice (.own k) (xs++ys),cS M k (.tick sz (xs.length+ys.length))))
     |_=>none
    | .sh=>none)
  | .aZ id ver sz' lo hi,.slice _ ys=>match nth M id with
   |some (.arr sz0 v xs)=>ow (v=ver/\sz'=sz/\lo=0/\hi=xs.length/\bB (xs.length+ys.length) bytes/\C3 xs sz=true/\C3 ys sz=true/\0<ys.length)
     (some (.aZ id (ver+1) sz 0 (xs.length+ys.length),cS M id (.arr sz0 (ver+1) (xs++ys))))
   |_=>none
  |_,_=>none
 | .nW n sz x i =>
  match x.ev env,i.ev env with
  | .cW cs,.int _ m=>ow (0<=m/\m<n/\n*sz<=cs.length) (some (.cW (cs.drop (m.toNat*sz)),M))
  | .ptr id off,.int _ m=>ow (0<=m/\m<n) (some (.ptr id (off+m.toNat*sz),M))
  |_,_=>none
 | .nY n x i =>
  match x.ev env,i.ev env with
  | .agg cs,.int _ m=>ow (0<=m/\m<n) (aF (cs[m.toNat]?) fun c=>some (c,M))
  |_,_=>none
 | .lr e y z =>
  match y.ev env,z.ev env with
  | .cA k t x l,.str s=>match nth M k with
   |some (.tick sz n)=>ow (sz=1/\t=e/\n=l.length/\bB (l.length+s.length) 1) (some (.cA k t x (l++s),cS M k (.tick 1 (l.length+s.length))))
   |_=>none
  |_,_=>none
 | .kc e y z =>
  match y.ev env,z.ev env with
  | .cA k t x l,.slice _ ys=>aF (bytesOf ys) fun s=>pE (jn (jX 9) ys (s.map jk)) (match nth M k with
   |some (.tick sz n)=>ow (sz=1/\t=e/\n=l.length/\bB (l.length+s.length) 1) (some (.cA k t x (l++s),cS M k (.tick 1 (l.length+s.length))))
   |_=>none) none
  |_,_=>none
 |o=>bd call env M o
def yP {call:bt} {env:Env} {M:ag} {o:dS} {x:ae×ag} (h:P6 call env M o=some x):bd call env M o=some x:=by
 by_cases hb:∃e x y,o = .kc e x y
 ·obtain ⟨e,y,z,rfl⟩:=hb
  simp only [P6,bd] at h ⊢
  split at h
  ·rename_i k t l tk ys e1 e2
   obtain ⟨s,hs,h⟩:=au h
   simp only [e1,e2,hs,aE]
   rcases dw h with ⟨h1,h2⟩|⟨_,h2⟩
   ·rw [aM (rG (vT 9) h1)]
    simp only [Lj] at h2
    exact h2
   ·cases h2
  ·cases h
 ·have:P6 call env M o=bd call env M o:=by
   cases o<;>first|rfl|(exact absurd ⟨_,_,_,rfl⟩ hb)|(simp only [P6,bd,Lj,O4]; rfl)
  rw [<-this]; exact h
def IC (env:Env):dS->Bool
 | .mv _ | .own .. | .pick .. | .ib _ | .box _ | .build .. | .lits .. | .vt .. | .eG .. | .cB _ | .MH _ | .bin .. | .MS .. | .QY .. | .not _ | .neg _ | .conv .. | .same _ | .fn .. | .cX .. | .se .. | .sd ..
 | .T7 _ | .BK .. | .BL .. | .uN .. | .nW .. | .nY .. | .look .. | .nZ .. | .extract .. | .Fm _ | .vr _ | .qe .. | .T1 _ | .mq .. | .oB .. => true
 |_=>false
def yp {call:bt} {env:Env} {M:ag} {o:dS} {x:ae×ag} (h:IC env o=true) (hx:bd call env M o=some x):M <+: x.2:=by
 have hm:∀ {v:ae} {x:ae×ag},some (v,M)=some x->M <+: x.2:=fun h=>by cases h; exact List.prefix_refl _
 have ha:∀ {v:ae} {l:ag} {x:ae×ag},some (v,M++l)=some x->M <+: x.2:=fun h=>by cases h; exact List.prefix_append _ _
 have ho:∀ {p:Prop} {y:Option (ae×ag)} {x:ae×ag},aV p y=some x->y=some x:=fun {p} {y} {x} h=>by
  by_cases hp:p
  ·rwa [aM hp] at h
  ·rw [eq_false hp,tL] at h; cases h
 cases o<;>first|(cases h; done)|skip
 all_goals (simp only [bd] at hx)
 all_goals (repeat' (first|exact hm hx|exact ha hx|(replace hx:=ho hx)|(have hx':=au hx; clear hx; obtain ⟨_,_,hx⟩:=hx')|(have hx':=dw hx; clear hx; rcases hx' with ⟨_,hx⟩|⟨_,hx⟩)|(split at hx)|(cases hx; done)))
def LR (env:Env) (o:dS) (sep:List Nat):Bool:=match o with
 | .store _ a _=>match a.ev env with
  | .ptr id _ => !sep.isEmpty&&sep.all fun z=>match cL env z with | .ptr i _=>i != id|_=>false
  |_=>false
 |_=>false
def AP {M:ag} {i j:Nat} {b:aK} (h:j≠i):nth (cS M i b) j=nth M j:=by
 induction M generalizing i j with
 |nil=>rfl
 |cons a r ih =>
  cases i with
  |zero=>cases j with
   |zero=>exact absurd rfl h
   |succ j=>rfl
  |succ i=>cases j with
   |zero=>rfl
   |succ j=>simp only [cS,nth]; exact ih (fun e=>h (by rw [e]))
def Bc {call:bt} {env:Env} {M:ag} {o:dS} {sep:List Nat} {x:ae×ag} (h:LR env o sep=true) (hx:bd call env M o=some x):sep≠[]/\oA env M x.2 sep:=by
 unfold LR at h
 split at h
 ·rename_i n a y
  split at h
  ·rename_i id off ha
   simp only [Bool.and_eq_true,List.all_eq_true] at h
   refine ⟨fun e=>by rw [e] at h; simp at h,?_⟩
   simp only [bd,ha] at hx
   split at hx
   ·rename_i cs hcs
    obtain ⟨new,_,hx⟩:=au hx
    split at hx
    ·cases hx
     have h2:=h.2
     clear h
     induction sep with
     |nil=>trivial
     |cons z r ih =>
      refine ⟨?_,ih fun w hw=>h2 w (List.mem_cons_of_mem _ hw)⟩
      have hz:=h2 z List.mem_cons_self
      split
      ·rename_i i o hi
       rw [hi] at hz
       exact AP (by simpa using hz)
      ·rename_i hi
       split at hz
       ·rename_i i o hi'; exact absurd hi' (hi i o)
       ·cases hz
    ·cases hx
   ·cases hx
  ·cases h
 ·cases h
def LP:aK->aK->Bool
 | .cells a,.cells b=>jn (jX 9) a b
 | .tick a b,.tick c d=>decide (a=c)&&decide (b=d)
 | .map a b,.map c d=>jn (jX 9) a c&&jn (jX 9) b d
 | .fB a b,.fB c d=>decide (a=c)&&decide (b=d)
 | .arr a b c,.arr d e f=>decide (a=d)&&decide (b=e)&&jn (jX 9) c f
 |_,_=>false
def LQ {a b:aK} (h:LP a b=true):a=b:=by
 have hl:∀ {a b:List ae},jn (jX 9) a b=true->a=b:=fun h=>rG (vT 9) h
 unfold LP at h
 split at h<;>(try simp only [Bool.and_eq_true,decide_eq_true_eq] at h)<;>first
  |(cases h; done)
  |(rw [hl h])
  |(rw [h.1,h.2])
  |(rw [hl h.1,hl h.2])
  |(obtain ⟨⟨h1,h2⟩,h3⟩:=h; rw [h1,h2,hl h3])
def DW:ag->ag->Bool
 | [],_=>true
 |a::r,b::s=>LP a b&&DW r s
 |_::_,[]=>false
def AV:∀ {a b:ag},DW a b=true->a <+: b
 | [],_,_=>List.nil_prefix
 |a::r,b::s,h=>by
  simp only [DW,Bool.and_eq_true] at h
  rw [LQ h.1]
  exact (List.prefix_cons_inj _).2 (AV h.2)
 |_::_,[],h=>by cases h
noncomputable def D4 (call:bt) (o:aR) (env:Env) (M:ag):Option (ae×ag) :=
 match o.nz with
 |true=>ow (o.op.bh env=[]) (P6 call env M o.op)
 |false=>match o.grow with
  |false=>P6 call env M o.op
  |true=>match IC env o.op||LR env o.op o.sep with
   |true=>P6 call env M o.op
   |false=>aF (P6 call env M o.op) fun x=>pE (DW M x.2) (some x) none
def Ba {call:bt} {o:aR} {env:Env} {M:ag} {x:ae×ag} (h:D4 call o env M=some x):fV call o env M=some x:=by
 unfold D4 at h
 unfold fV
 split at h
 ·rename_i hn
  simp only [hn]
  rw [Lj] at h
  obtain ⟨h1,h2⟩:=aP h
  rw [aM h1]
  exact yP h2
 ·rename_i hn
  simp only [hn]
  split at h
  ·rename_i hg
   simp only [hg]
   exact yP h
  ·rename_i hg
   simp only [hg]
   split at h
   ·rename_i hb
    replace h:=yP h
    rw [h,aE]
    refine aM ?_
    rcases Bool.or_eq_true .. ▸ hb with hb|hb
    ·exact .inl (yp hb h)
    ·exact .inr (Bc hb h)
   ·obtain ⟨y,hy,h⟩:=au h
    replace hy:=yP hy
    rcases dw h with ⟨hp,h⟩|⟨_,h⟩
    ·injection h with h; subst h
     rw [hy,aE]
     exact aM (.inl (AV hp))
    ·cases h
noncomputable def ni (call:bt):List aR->Env->ag->Option Out
 | [],env,M=>some ⟨.normal,env,M⟩
 |o::r,env,M =>
  match o.guard with
  |none=>aF (D4 call o env M) fun x=>tP o.lets x (ni call r (hV env o.dst x.1) x.2)
  |some (t,want)=>match cL env t with
   | .bool b=>pE (b==want) (aF (D4 call o env M) fun x=>tP o.lets x (ni call r (hV env o.dst x.1) x.2))
    (ni call r (hV env o.dst (.tuple [])) M)
   | .tuple []=>ni call r (hV env o.dst (.tuple [])) M
   |_=>none
def Lo {c:Bool} {x:ae×ag} {k k':Option Out} {o:Out} (hk:∀o,k=some o->k'=some o) (h:tP c x k=some o):tP c x k'=some o:=by
 rcases yJ h with ⟨h1,h2⟩|⟨v,h0,h1,rfl⟩
 ·rw [yK h1]; exact hk o h2
 ·exact yL h0 h1
def kZ {call:bt}:∀ {ops:List aR} {env:Env} {M:ag} {x:Out},ni call ops env M=some x->bN call ops env M=some x
 | [],_,_,_,h=>h
 |o::r,env,M,x,h=>by
  rw [ni] at h
  rw [bN]
  split at h
  ·rename_i hg
   simp only [hg]
   obtain ⟨a,ha,h⟩:=au h
   rw [Ba ha,aE]
   exact Lo (fun x=>kZ) h
  ·rename_i t want hg
   simp only [hg]
   split at h
   ·rename_i b hb
    simp only [hb]
    rcases dw h with ⟨hw,h⟩|⟨hw,h⟩
    ·obtain ⟨a,ha,h⟩:=au h
     rw [hw,jc,Ba ha,aE]
     exact Lo (fun x=>kZ) h
    ·rw [hw,gV]
     exact kZ h
   ·rename_i hb
    simp only [hb]
    exact kZ h
   ·cases h
noncomputable def mG (call:bt) (fuel:Nat):aO->Env->ag->Option Out
 | .skip,env,M=>some ⟨.normal,env,M⟩
 | .region ops _ live,env,M=>aF (ni call ops env M) fun o=>some (o.iM live)
 | .seq a b,env,M=>aF (mG call fuel a env M) fun o=>lQ o (mG call fuel b)
 | .cond c x y,env,M=>match c.ev env with
  | .bool t=>pE t (mG call fuel x env M) (mG call fuel y env M)
  |_=>none
 | .block id c,env,M=>aF (mG call fuel c env M) fun o=>some (nB id o)
 | .loop live c,env,M=>iter (mG call fuel c) live fuel env M
 | .exit id,env,M=>some ⟨.exit id,env,M⟩
 | .ret,env,M=>some ⟨.ret,env,M⟩
def kX {call:bt} {fuel:Nat}:∀(c:aO) {env:Env} {M:ag} {x:Out},mG call fuel c env M=some x->br call c env M=some x
 | .skip,_,_,_,h=>h
 | .exit _,_,_,_,h=>h
 | .ret,_,_,_,h=>h
 | .region ops d live,env,M,x,h=>by
  simp only [br,mG] at *
  obtain ⟨a,ha,h⟩:=au h
  rw [kZ ha]; exact h
 | .seq a b,env,M,x,h=>by
  simp only [br,mG] at *
  obtain ⟨o,ho,h⟩:=au h
  rw [kX a ho]
  exact ml (fun env M x=>kX b) h
 | .cond c a b,env,M,x,h=>by
  simp only [br,mG] at *
  split
  ·rename_i t ht
   simp only [ht] at h
   rcases dw h with ⟨rfl,h⟩|⟨rfl,h⟩
   ·exact kX a h
   ·exact kX b h
  ·rename_i ht
   split at h
   ·rename_i t ht'; exact absurd ht' (ht t)
   ·cases h
 | .block id c,env,M,x,h=>by
  simp only [br,mG] at *
  obtain ⟨o,ho,h⟩:=au h
  rw [kX c ho]; exact h
 | .loop live c,env,M,x,h=>by
  simp only [br,mG] at *
  exact gN (fun n x=>mZ live n) (o5 (fun env M x=>kX c) live fuel h)
noncomputable def AX (T:qm) (loops:Nat):Nat->bt
 |0,_,_,_=>none
 |n+1,f,args,M=>match T.fT f with
  |some g=>g args M
  |none=>match T.code f with
   |none=>none
   |some fn=>if args.length=fn.nparams then aF (mG (AX T loops n) loops fn.body (fh 0 args) M) (finish fn.results M.length) else none
def Pd (S T:qm):Prop:=S.code=T.code/\(∀f,(S.fT f).isSome=(T.fT f).isSome)/\∀f g,S.fT f=some g->∃g',T.fT f=some g'/\∀a M x,g a M=some x->g' a M=some x
def AY {S T:qm} (h:Pd S T) (loops:Nat):∀n,mR (AX S loops n) (dz T n)
 |0,_,_,_,_,h=>by cases h
 |n+1,f,a,M,x,hx=>by
  rw [AX] at hx
  rw [dz]
  split at hx
  ·rename_i g hg
   obtain ⟨g',h1,h2⟩:=h.2.2 f g hg
   simp only [h1]
   exact h2 a M x hx
  ·rename_i hg
   have:T.fT f=none:=by
    have:=h.2.1 f
    rw [hg] at this
    cases hT:T.fT f with
    |none=>rfl
    |some g=>rw [hT] at this; cases this
   simp only [this,<-h.1]
   split at hx
   ·cases hx
   ·rename_i fn hf
    simp only [hf]
    split at hx
    ·rename_i hl
     rw [if_pos hl]
     obtain ⟨o,ho,hx⟩:=au hx
     rw [dJ (AY h loops n) _ (kX _ ho),aE]
     exact hx
    ·cases hx
def AZ {S T:qm} (h:Pd S T) {loops n f:Nat} {a:List ae} {M:ag} {x:ae×ag} (hx:AX S loops n f a M=some x):ai T f a M=some x :=
 gN (fun n x h=>jo T n f a M x h) (AY h loops n f a M x hx)
end
end Go.Abs
namespace Go.Abs
open Go
noncomputable def LC (sz p g:Nat):List ae->ag->Option (ae×ag)
 | [.slice _ xs,.func g' cs],M=>match xs,cs with
  | [],[]=>if g'=g then some (.tuple [],M) else none
  |_,_=>none
 | [.aZ id ver sz' lo hi,.func g' cs],M=>match nth M id,cs with
  |some (.arr sz0 v xs),[]=>if (decide (v=ver/\sz'=sz/\lo=0/\hi<=xs.length/\g'=g/\hi<=1099511627776)&&((xs.take hi).all (fun x=>(IY p x).isSome)&&decide ((xs.take hi).map (kj p)).Nodup))=true then
    some (.tuple [],cS M id (.arr sz0 v (je p (xs.take hi)++xs.drop hi))) else none
  |_,_=>none
 |_,_=>none
def LD (sz p g:Nat) (a:List ae) (M:ag) (x:ae×ag) (h:LC sz p g a M=some x):lF sz p g a M=some x:=by
 unfold LC at h
 unfold lF
 split at h
 ·exact h
 ·split at h
  ·rename_i e
   dsimp only
   rw [e]
   split at h
   ·rename_i hc
    simp only [Bool.and_eq_true,decide_eq_true_eq,List.all_eq_true] at hc
    obtain ⟨⟨h1,h2,h3,h4,h5,h6⟩,h7,h8⟩:=hc
    dsimp only
    rw [aV,if_pos ⟨h1,h2,h3,h4,h5,h6,h7,h8⟩]
    exact h
   ·cases h
  ·cases h
 ·cases h
end Go.Abs
namespace Go.Proofs.YtahkjijkflobhaaGreatDoor
open Go Go.Abs
noncomputable def OX:qm:=⟨code,fun f=>if f=158 then some (LC 6 0 159) else (fT f).map fun _ _ _=>none⟩
def sS {loops n f:Nat} {a:List ae} {M:ag} {x:ae×ag} (hx:AX OX loops n f a M=some x):ai aQ f a M=some x:=by
 refine AZ (S:=OX) (T:=aQ) ⟨rfl,fun f=>?_,fun f g h=>?_⟩ hx
 ·simp only [OX,aQ]
  split
  ·rename_i h; subst h; rfl
  ·rw [Option.isSome_map]
 ·simp only [OX] at h
  split at h
  ·rename_i hf
   injection h with h; subst h; subst hf
   exact ⟨_,rfl,LD 6 0 159⟩
  ·obtain ⟨g',h1,h2⟩:=Option.map_eq_some_iff.1 h
   subst h2
   exact ⟨g',h1,fun _ _ _ h=>by cases h⟩
def pF (k:Int) (p:Bytes) (n h:Int):er:=⟨k,0,p,[],n,0,h,[]⟩
def hA:=pq f0 (pF 2 [47,100] 2 0)
def hB:=pq hA.1 (pF 2 [47,100,47,102] 1 0)
def hC:=pq hB.1 (pF 8 [47,100,47,102] 0 4)
def hD:=pq hC.1 ⟨11,0,[],[],1,0,4,[7,8]⟩
def hE:=pq hD.1 (pF 14 [47,100] 0 0)
def hG:=pq hE.1 (pF 4 [47,100,47,102] 0 0)
def hH:=pq hG.1 ⟨10,0,[],[],0,9,4,[]⟩
def hI:=pq hG.1 (pF 15 [47,102] 1 0)
def hJ:=pq hG.1 (pF 1 [47,100,47,102] 0 0)
def hK:=pq hG.1 ⟨13,0,[47],[],1,10,0,[]⟩
def hL:=pq hK.1 (pF 2 [47,101] 2 0)
def hM:=pq hL.1 (pF 9 [] 0 4)
def hN:=pq hM.1 (pF 99 [] 0 0)
def facts:hA.2.ino=2/\hB.2.ino=3/\hC.2.err=0/\hD.2.m=3/\hE.2.err=0/\hE.2.n=1/\hG.2.ino=3/\hH.2.data=[0,7,8]/\hI.2.ino=3/\hI.2.data=[0,7,8]/\hJ.2.err=70/\hK.2.err=0/\hL.2.err=90/\hM.2.err=0/\hN.2.err=1/\hM.1.s.now.nodes.length=2:=by
 refine ⟨?_,?_,?_,?_,?_,?_,?_,?_,?_,?_,?_,?_,?_,?_,?_,?_⟩<;>kernel_rfl
def OQ:ai aQ 15 [.agg (dB hM.1)] []=some (.bool true,[]):=sS (loops:=20) (n:=20) (by kernel_rfl)
def OS:ai aQ 15 [.agg [.slice .sh [],.int .i64 0,.int .i64 0,.int .i64 0,.slice .sh [],.slice .sh [],.slice .sh [],.int .i64 0,.slice .sh [],.slice .sh []]] []=some (.bool false,[]):=sS (loops:=20) (n:=20) (by kernel_rfl)
def TJ:ai aQ 22 [.agg (dB hM.1),.agg (dB f0)] []=some (.bool false,[]):=sS (loops:=20) (n:=20) (by kernel_rfl)
end Go.Proofs.YtahkjijkflobhaaGreatDoor
namespace Go.Proofs.YtahkjijkflobhaaGreatDoor
open Go Go.Abs
section
attribute [local irreducible] cJ cE gD gK bG kr ai ak aV aF
def lV (k:Int) (p:Bytes) (n h:Int) (hp:p.length<=1000):uc (pF k p n h):=⟨by simp [pF]; omega,by simp [pF],by simp [pF]⟩
set_option maxRecDepth 100000 in
def Nd:ai jC 10 [] []=some (.bool true,[]):=by
 obtain ⟨e1,e2,e3,e4,e5,e6,e7,e8,e9,e10,e11,e12,e13,e14,e15,e16⟩:=facts
 have sA:=lO fb0 (by omega) (pF 2 [47,100] 2 0)
 have sB:=lO sA (by omega) (pF 2 [47,100,47,102] 1 0)
 have sC:=lO sB (by omega) (pF 8 [47,100,47,102] 0 4)
 have sD:=lO sC (by omega) ⟨11,0,[],[],1,0,4,[7,8]⟩
 have sE:=lO sD (by omega) (pF 14 [47,100] 0 0)
 have sG:=lO sE (by omega) (pF 4 [47,100,47,102] 0 0)
 have sK:=lO sG (by omega) ⟨13,0,[47],[],1,10,0,[]⟩
 have sL:=lO sK (by omega) (pF 2 [47,101] 2 0)
 have sM:=lO sL (by omega) (pF 9 [] 0 4)
 have o3:∀(k n m h:Int) (p d:Bytes),p.length<=1000->d.length<=1000->uc ⟨k,0,p,[],n,m,h,d⟩:=fun k n m h p d hp hd=>⟨by simp only; omega,by simp,by simp only; omega⟩
 have qA:=fun M=>DD f0 (pF 2 [47,100] 2 0) fb0.ok (lV _ _ _ _ (by decide)) M
 have qB:=fun M=>DD hA.1 (pF 2 [47,100,47,102] 1 0) sA.ok (lV _ _ _ _ (by decide)) M
 have qC:=fun M=>DD hB.1 (pF 8 [47,100,47,102] 0 4) sB.ok (lV _ _ _ _ (by decide)) M
 have qD:=fun M=>DD hC.1 ⟨11,0,[],[],1,0,4,[7,8]⟩ sC.ok (o3 _ _ _ _ _ _ (by decide) (by decide)) M
 have qE:=fun M=>DD hD.1 (pF 14 [47,100] 0 0) sD.ok (lV _ _ _ _ (by decide)) M
 have qG:=fun M=>DD hE.1 (pF 4 [47,100,47,102] 0 0) sE.ok (lV _ _ _ _ (by decide)) M
 have qH:=fun M=>DD hG.1 ⟨10,0,[],[],0,9,4,[]⟩ sG.ok (o3 _ _ _ _ _ _ (by decide) (by decide)) M
 have qI:=fun M=>DD hG.1 (pF 15 [47,102] 1 0) sG.ok (lV _ _ _ _ (by decide)) M
 have qJ:=fun M=>DD hG.1 (pF 1 [47,100,47,102] 0 0) sG.ok (lV _ _ _ _ (by decide)) M
 have qK:=fun M=>DD hG.1 ⟨13,0,[47],[],1,10,0,[]⟩ sG.ok (o3 _ _ _ _ _ _ (by decide) (by decide)) M
 have qL:=fun M=>DD hK.1 (pF 2 [47,101] 2 0) sK.ok (lV _ _ _ _ (by decide)) M
 have qM:=fun M=>DD hL.1 (pF 9 [] 0 4) sL.ok (lV _ _ _ _ (by decide)) M
 have qN:=fun M=>DD hM.1 (pF 99 [] 0 0) sM.ok (lV _ _ _ _ (by decide)) M
 have q20:=fun M=>lE (k20 M)
 have qr:=fun M=>lE (fj OQ rfl rfl rfl rfl rfl M)
 have qz:=fun M=>lE (fj OS rfl rfl rfl rfl rfl M)
 have qs:=fun M=>lE (fj TJ rfl rfl rfl rfl rfl M)
 change ∀M,ak (ai jC) 14 _ M=some (.tuple [.agg (dB hA.1),.agg (gq hA.2)],M) at qA
 change ∀M,ak (ai jC) 14 _ M=some (.tuple [.agg (dB hB.1),.agg (gq hB.2)],M) at qB
 change ∀M,ak (ai jC) 14 _ M=some (.tuple [.agg (dB hC.1),.agg (gq hC.2)],M) at qC
 change ∀M,ak (ai jC) 14 _ M=some (.tuple [.agg (dB hD.1),.agg (gq hD.2)],M) at qD
 change ∀M,ak (ai jC) 14 _ M=some (.tuple [.agg (dB hE.1),.agg (gq hE.2)],M) at qE
 change ∀M,ak (ai jC) 14 _ M=some (.tuple [.agg (dB hG.1),.agg (gq hG.2)],M) at qG
 change ∀M,ak (ai jC) 14 _ M=some (.tuple [.agg (dB hH.1),.agg (gq hH.2)],M) at qH
 change ∀M,ak (ai jC) 14 _ M=some (.tuple [.agg (dB hI.1),.agg (gq hI.2)],M) at qI
 change ∀M,ak (ai jC) 14 _ M=some (.tuple [.agg (dB hJ.1),.agg (gq hJ.2)],M) at qJ
 change ∀M,ak (ai jC) 14 _ M=some (.tuple [.agg (dB hK.1),.agg (gq hK.2)],M) at qK
 change ∀M,ak (ai jC) 14 _ M=some (.tuple [.agg (dB hL.1),.agg (gq hL.2)],M) at qL
 change ∀M,ak (ai jC) 14 _ M=some (.tuple [.agg (dB hM.1),.agg (gq hM.2)],M) at qM
 change ∀M,ak (ai jC) 14 _ M=some (.tuple [.agg (dB hN.1),.agg (gq hN.2)],M) at qN
 generalize hA=A,hB=B,hC=C,hD=D,hE=E,hG=G,hH=H,hI=I,hJ=J,hK=K,hL=L,hM=N,hN=O at *
 clear sA sB sC sD sE sG sK sL sM
 refine aq ?_
 have u0:jk 0 = .int .u8 0:=rfl
 have u7:jk 7 = .int .u8 7:=rfl
 have u8':jk 8 = .int .u8 8:=rfl
 simp only [dB,gq,gM,pF,Bq,dg,List.map_cons,List.map_nil,u7,u8'] at qA qB qC qD qE qG qH qI qJ qK qL qM qN q20 qr qz qs ⊢
 simp only [Q0,E10,q20,qA,qB,qC,qD,qE,qG,qH,qI,qJ,qK,qL,qM,qN,qr,qz,qs,e1,e2,e3,e4,e5,e6,e7,e8,e9,e10,e11,e12,e13,e14,e15,e16,List.length_map,List.map_cons,List.map_nil,List.length_cons,List.length_nil,u0,u7,u8',EW,simprocAttr]
end
end Go.Proofs.YtahkjijkflobhaaGreatDoor
