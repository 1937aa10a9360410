import Derived.Lib.AppendZerosOnto
import Derived.RangeFuncCalls
import Derived.OrdersIn
import Derived.LoopNIn
import Derived.Orders
import Derived.LoopN
import Derived.Laws.AppendOwn
import Derived.Laws.IdiomCopy
import Derived.Test.YtcbopkblmebjiaaGreatDoorProg
import Derived.Shelf.RegionOpenPlain
import Derived.WalkKit
import Derived.Below
import Derived.Deep.LoopGhost
import Derived.Deep.RegionLaw
import Derived.Deep.AppendSrc
import Derived.Lib.Walk
import Derived.Lib.SliceRun
import Derived.Lib.AppendZeros
import Derived.Laws.NewBlocks
import Derived.Laws.Externs
import Derived.KernelRfl
import Derived.Shelf.SlSortCmp.WholeK
import Derived.Shelf.SlSortCmp.NoneTotal
import Derived.Shelf.SlicesG.Cmp
import Derived.Ground.SlsfProg
import Derived.Ground.SlgcProg
import Derived.Lib.Strings
import Derived.Lib.Slices
import Derived.Lib.Bytealg
import Derived.Shelf.Strings.Builder1
import Derived.Shelf.Strings.Builder2
import Derived.Shelf.Strings.OnBuilder
import Derived.Shelf.Small.Bits
import Derived.Shelf.Small.Strs
import Derived.Shelf.Strconv.Itoa0
import Derived.Shelf.Strings.Search1
import Derived.Test.YtcbopkblmebjiaaGreatDoorFduH
set_option linter.unusedSimpArgs false
set_option linter.unusedVariables false
set_option linter.unusedSectionVars false
set_option linter.defProp false
open Go.Proofs.Tryz
namespace Go.Abs
open Go Go.RowKit
variable [kd]
section
variable {P:Program} {C:eL} {o:Oper} {br:Env} {M:aK} {j:J} {w:World} {a:Act} {x:ag×aK}
theorem N4{l:List ag}(hp:0<l.length)(h1:l.all ag.plainCell=true)(n:Nat):jA (List.replicate n (ag.agg l).norm)=(List.replicate n l).flatten/\wid (List.replicate n (ag.agg l).norm) l.length:=by
 refine⟨?_,fun x hx=>by rw[k8 hx,tT hp h1]⟩
 induction n with
 |zero=>rfl
 |succ n ih=>rw[iJ,oo,ih,iJ,List.flatten_cons,tT hp h1]
theorem Ld(hr:Rel j M w){id sz ver:Nat}{xs ys:List ag}(hM:M[id]?=some (.arr sz ver xs)){b cap:Nat}{row:Array Value}{t:TypeId}(hj:j id=some b)(hw:w.heap[b]?=some (.cells row t (0,0)))(hcap:xs.length<=cap)(hrow:cap*sz<=row.size)
  (hwd:wid xs sz) (hwy:wid ys sz) (hne:ys≠[]) {us:List Value} (hrl:RL w (nR j M w) (jA ys) us) {v:Value} {w':World}
  (hq:(xs.length+ys.length<=cap/\v = .slice (some ⟨b,0,none⟩) (xs.length+ys.length) cap/\w'=oQ w b (xs.length*sz) us) \/
   ∃c' row' e,xs.length+ys.length<=c'/\v = .slice (some ⟨w.heap.size,0,none⟩) (xs.length+ys.length) c'/\Quiet w w'/\(∀b,b<w.heap.size->w'.heap[b]?=w.heap[b]?)/\w'.heap[w.heap.size]?=some (.cells row' e (0,0))/\c'*sz<=row'.size /\
    ∀p,p<(xs.length+ys.length)*sz->row'[p]?=(row.toList.take (xs.length*sz)++us)[p]?) :
  iG j M w (.dg id (ver+1) sz 0 (xs.length+ys.length),M.set id (.arr sz (ver+1) (xs++ys))) v w':=by
 obtain⟨b',row0,t',k1,k2,k3,k4,k5⟩:=hr.yb hM hj;rw[hj] at k1; cases k1;rw[hw] at k2; injection k2 with k2; injection k2 with k2 k2'
 subst k2; subst k2';have hrow0:=xe (b:=b) k3 k4 k5;have hid:=aF hM;have hwd2:=mQ hwd hwy
 have iq:RL w (nR j M w) (jA (xs++ys)) (row.toList.take (xs.length*sz)++us):=by
  rw[om]; exact hrow0.append hrl
 have eU:(xs++ys).length=xs.length+ys.length:=by simp
 have hpl:(row.toList.take (xs.length*sz)++us).length=(xs.length+ys.length)*sz:=by rw[<-iq.1,ij hwd2,eU]
 have hul:us.length=ys.length*sz:=by rw[<-hrl.1,ij hwy]
 have hpos:0<ys.length:=iI.2 hne;rcases hq with ⟨h1,rfl,rfl⟩|⟨c',row',e,h1,rfl,q,hb,hn,hs,hp⟩
 ·have hfit:xs.length*sz+us.length<=row.size:=by
   rw[hul,<-bO]; exact bh (bd _ h1) hrow
  obtain⟨s1,s2,s3,s4,s5,row2,s6,s7,s8,s9⟩:=lu (t:=t) us w (xs.length*sz) row hw hfit
  have hput:=xd (ver':=ver+1) (xs':=xs++ys) hr hM hj ⟨by omega,s2,s3,s4⟩ (fun b' hb' _=>s5 b' hb') hw s6 s7 (by omega) (fun h=>by omega) hwd2 iq (fun p hp=>by
   rw[hpl] at hp
   grind)
  refine⟨j,hput.1,hput.2,.dg (.inl ⟨b,0,cap,by rw[bU],by omega⟩) (by simpa using hid) (fun bx hbx=>by rw[dC hid] at hbx; cases hbx; rfl) fun sz' v' zs hx=>?_⟩
  rw[dC hid] at hx; injection hx with hx; injection hx with e1 e2 e3
  subst e1; simp_all
 ·have hat  := fun p h=>hp p (by rw[<-hpl]; exact h)
  have hrel:=Rel.uq (ver':=ver+1) (xs':=xs++ys) hM hr q hb (ar _) (lt_of_block hn) (by simp) (fun j' M' hx=>lC hn hwd2 (iq.mono hx.gX) hat)
  have hext:=Ext.uq (j:=j) (ver':=ver+1) (xs':=xs++ys) hM q hb (ar _) (by simp)
  refine⟨_,hrel,hext,.dg (.inl ⟨w.heap.size,0,c',by rw[bU],by omega⟩) (by simpa using hid) (fun bx hbx=>by rw[dC hid] at hbx; cases hbx; rfl) fun sz' v' zs hx=>?_⟩
  rw[dC hid] at hx; injection hx with hx; injection hx with e1 e2 e3
  subst e1; subst e2; subst e3;exact⟨ar _,fun _=>⟨rfl,cy _,by omega,.inr ⟨w.heap.size,c',row',e,by simp[gv],by simp,by omega,hn,by rw[aP]; exact hs⟩⟩⟩
theorem KG(hr:Rel j M w)(he:cu j M w br a){c:Call}{y y':Operand}{z z':gM}{t t' e:TypeId}{kn:IntKind}{i:TypeInfo}{zv:Value}{l:List ag}(hop:o.op = .call c)(hb:c.callee = .builtin .append)(ha:c.args.toList=[y,y'])
  (hat:c.argTypes.toList=[t,t']) (hs:P.underlying t=some (.slice e)) (hs':P.underlying t'=some (.int kn)) (hi:P.info? e=some i) (hzv:i.zero=some zv) (hl:sM zv.cells.toList=some l) (c1:l.length=i.size) (c2:0<i.size) (c3:0<i.bytes) (c4:i.bytes<=2 ^ 20)
  (hz:dZ y=some z) (hz':dZ y'=some z') (h:dW C br M (.xc i.size i.bytes (l.map ag.shut) z z')=some x):∃v w',qQ P o a w v w'/\iG j M w x v w':=by
 simp only[dW] at h;have r1:=cF he hz;have r2:=cF he hz';have ha':c.args = #[y,y']:=by rw[<-ha]
 have hat':c.argTypes = #[t,t']:=by rw[<-hat]
 have hexec:∀r,(Builtin.append_ #[t,t'] o.type #[a.eval y,a.eval y']).run P w=r->(execOp a.eval o).run P w=r.andThen fun v w' => .ok (.value v) w':=by
  intro r hr';simp[execOp,hop,resolve,hb,invoke,builtin,ha',hat',hr']
 have hsz:(sizeOf e).run P w = .ok i.size w:=ja (by simp[qo,hi])
 obtain⟨z1,z2⟩:=pQ (j:=j) (M:=M) (w:=w) hl;have hzs:zv.cells.size=i.size:=by simp at z1; omega
 have happ:∀(A:Option Addr)(n c:Nat)(kz:IntKind)(m:Nat),(Builtin.append_ #[t,t'] o.type #[.slice A n c,.int kz (m:Int)]).run P w=(Builtin.append_ #[t,t'] o.type #[.slice A n c,.int kn (m:Int)]).run P w:=fun A n c kz m=>by
  simp[Builtin.append_,dx hs,dx hs',asInt,asIntOf]
 -- what is appended
 have zrow:∀(k:Nat),(l.map ag.shut).all ag.plainCell=true->RL w (nR j M w) (jA (List.replicate k (ag.agg (l.map ag.shut)).norm)) (Builtin.zeroCells zv.cells k).toList/\wid (List.replicate k (ag.agg (l.map ag.shut)).norm) i.size/\∀v,v∈(Builtin.zeroCells zv.cells k).toList->v.oneCell'=true:=by
  grind [B5,N4,ag.shut,List.length_map,rm,Pb,List.mem_flatten]
 -- nothing is appended
 have nil:∀(bM:Option Addr)(n cap:Nat),n<=cap->(Builtin.append_ #[t,t'] o.type #[.slice bM n cap,.int kn 0]).run P w = .ok (.slice bM n cap) w:=by
  intro bM n cap hle;have hw0:IntKind.i64.wrap 0=0:=by decide
  cases bM<;>simp[Builtin.append_,dx hs,dx hs',hsz,asInt,asIntOf,hw0,typeInfo,hi,hle,storeCells]
 have grow:∀(bM:Option Addr)(n cap:Nat)(olds:List Value)(k:Nat),(∀w':World,w'.heap=w.heap->(Builtin.firstCells i.size n (.slice bM n cap)).run P w' = .ok olds.toArray w')->0<k->cap<n+k->(n+k)*i.bytes<=2 ^ 44 ->
   ∃newCap row' w',n+k<=newCap/\(Builtin.append_ #[t,t'] o.type #[.slice bM n cap,.int kn k]).run P w = .ok (.slice (some ⟨w.heap.size,0,none⟩) (n+k) newCap) w'/\Quiet w w'/\(∀b,b<w.heap.size->w'.heap[b]?=w.heap[b]?)/\w'.heap[w.heap.size]?=some (.cells row' e (0,0)) /\
    row'.size=olds.length+k*i.size+(newCap-(n+k))*i.size/\∀p,p<olds.length+k*i.size->row'[p]?=(olds++(Builtin.zeroCells zv.cells k).toList)[p]?:=by
  intro bM n cap olds k hold hk cr hroom
  have hcapb:Builtin.nextslicecap (n+k) cap*i.bytes<=281474976710656:=by
   have h1:=C8 cr;have h2:Builtin.nextslicecap (n+k) cap*i.bytes<=(2*(n+k)+1000)*i.bytes:=bd _ h1
   grind
  have h44:n+k<=2 ^ 44:=bh (fq _ c3) hroom
  have hkb:k*i.bytes<=281474976710656:=by
   have:=bd i.bytes (show k<=n+k by omega)
   omega
  have hrun:=Lib.run_append_grow_zeros (P:=P) w t t' o.type e i zv kn kn hs hs' hi hzv bM n cap olds (hold w.drew rfl) k hk c2 cr (by omega) hkb hcapb
  have hge:n+k<=grownCap w (n+k) cap e:=grownCap_ge w (n+k) cap e;have hzl:∀m,(Builtin.zeroCells zv.cells m).size=m*i.size:=fun m=>by simp[Builtin.zeroCells,hzs]
  obtain⟨q,hbk,iq⟩:=pH (w:=w) (.cells (olds.toArray++Builtin.zeroCells zv.cells k++Builtin.zeroCells zv.cells (grownCap w (n+k) cap e-(n+k))) e (0,0));refine⟨_,_,_,hge,hrun,⟨q.size,rfl,rfl,rfl⟩,hbk,iq,by simp only[fQ,hzl,cH],fun p hp=>?_⟩
  rw[cp (by simp only[fQ,hzl,cH]; exact hp)]
  simp[<-Array.getElem?_toList]
 have hkk:∀ {k:Int} {kz:IntKind},a.eval y' = .int kz k->0<=k->∃m:Nat,k=m:=fun {k} _ _ h=>⟨k.toNat,by omega⟩
 split at h
 ·rename_i kz k ex ek;rw[ex] at r1; rw[ek] at r2;obtain⟨⟨h0,hroom,hsl,hpl⟩,h⟩:=db h;obtain⟨A,hv⟩:=r1.Cj;obtain⟨m,rfl⟩:∃m:Nat,k=m:=⟨k.toNat,by omega⟩
  have hk2:=r2.fM;rcases kM h with ⟨hb0,h⟩|⟨hb0,h⟩
  ·cases h;have hm0:m=0:=by simpa using hb0
   subst hm0;refine⟨a.eval y,w,.inl ?_,.still hr ?_⟩
   ·rw[hexec _ rfl,hv,hk2,happ,ga,nil A 0 0 (ar _)]; rfl
   ·rw[hv]; exact .c0 _
  ·cases h
   have hm0:0<m:=by
    rcases fA m with h|h
    ·subst h; simp at hb0
    ·exact h
   unfold dL at hroom;simp only[bg] at hroom ⊢;obtain⟨newCap,row',w',g1,g2,q,g3,g4,g5,g6⟩:=grow A 0 0 [] m (fun w' _=>by cases A<;>simp[Builtin.firstCells,loadCells,loadCellsFrom]) hm0 (by omega) (by simpa using hroom)
   obtain⟨p1,p2,p3⟩:=zrow m hpl;have hob:∀b,some w.heap.size=some b->w.heap.size<=b/\b<w'.heap.size:=fun b h=>by cases h; exact⟨ar _,lt_of_block g4⟩
   have ext:Ext j M w (gv j M.length (some w.heap.size)) (M++[.arr i.size 0 (List.replicate m (ag.agg (l.map ag.shut)).norm)]) w':=Ext.push (fun b h=>(hob b h).1) q g3
   have hat:∀j' M',Ext j M w j' M' w'->DM j' M' w' w.heap.size i.size (List.replicate m (ag.agg (l.map ag.shut)).norm):=fun j' M' hx=>lC g4 p2 (p1.mono hx.gX) fun p hp=>by
    have hp':p<m*i.size:=by rw[<-p1.1,ij p2] at hp; simpa using hp
    rw[g6 p (by simpa using hp')]; simp
   refine⟨.slice (some ⟨w.heap.size,0,none⟩) m newCap,w',.inl ?_,gv j M.length (some w.heap.size),hr.push hob q g3 (fun h=>by cases h) (fun sz n b h _=>by cases h) (fun sz0 v0 xs0 he=>?_),ext,?_⟩
   ·rw[hexec _ rfl,hv,hk2,happ,g2]; simp[Result.andThen]
   ·injection he with e1 e2 e3
    subst e1; subst e2; subst e3;refine .inr ⟨w.heap.size,row',e,rfl,g4,by rw[g5]; simp,p2,fun j' M' hx q x k c hx' hk=>?_⟩
    obtain⟨vs,t,a1,a2,a3,a4⟩:=hat j' M' hx;rw[g4] at a1; injection a1 with a1; injection a1 with a1 a1'
    subst a1;exact a4 q x k c hx' hk
   ·refine .dg (.inl ⟨w.heap.size,0,newCap,by rw[bU],by omega⟩) (by simp) (fun bx hbx=>by rw[lK] at hbx; cases hbx; rfl) fun sz' v' xs hx=>?_
    rw[lK] at hx; injection hx with hx; injection hx with e1 e2 e3
    subst e1; subst e2; subst e3;refine⟨ar _,fun _=>⟨rfl,cy _,by simp,.inr ⟨w.heap.size,newCap,row',e,by simp[gv],by simp,by omega,g4,?_⟩⟩⟩
    rw[g5,aP];simp only[aG,aP];rw[<-bO,cR (by omega)]
    exact ar _
 ·rename_i id ver sz' lo hi0 kz k ex ek;rw[ex] at r1; rw[ek] at r2;rw[eJ] at h;split at h
  ·rename_i sz0 v0 xs hM;obtain⟨⟨d1,d2,d3,d4,h0,hroom,hsl,hpl,hne0⟩,h⟩:=db h;subst d1; subst d2; subst d3; subst d4;obtain⟨_,hid,_,g⟩:=r1.nw;obtain⟨e1,_,_,⟨hx,_⟩|⟨b,cap,row,t0,l3,l4,l5,l6,l7⟩⟩:=(g sz0 v0 xs hM).2 rfl
   ·exact absurd hne0 (by rw[hx]; simp)
   subst e1;rw[bU] at l4 l5;rw[jb] at l4;rw[aP] at l7;obtain⟨m,rfl⟩:∃m:Nat,k=m:=⟨k.toNat,by omega⟩
   have hk2:=r2.fM;rcases kM h with ⟨hb0,h⟩|⟨hb0,h⟩
   ·cases h;have hm0:m=0:=by simpa using hb0
    subst hm0;refine⟨a.eval y,w,.inl ?_,.still hr r1⟩;rw[hexec _ rfl,hk2,l4,happ,ga,nil _ _ _ l5]; rfl
   ·cases h
    have hm0:0<m:=by
     rcases fA m with h|h
     ·subst h; simp at hb0
     ·exact h
    unfold dL at hroom;simp only[bg] at hroom ⊢;obtain⟨b',row0,t',k1,k2,k3,k4,k5⟩:=hr.yb hM l3;rw[l3] at k1; cases k1;rw[l6] at k2; injection k2 with k2; injection k2 with k2 k2'
    subst k2; subst k2';obtain⟨p1,p2,p3⟩:=zrow m hpl;have hlr:(List.replicate m (ag.agg (l.map ag.shut)).norm).length=m:=by simp
    have hne:List.replicate m (ag.agg (l.map ag.shut)).norm≠[]:=by intro h; rw[h] at hlr; simp at hlr; omega
    have key:=fun v w' hq=>Ld (v:=v) (w':=w') hr hM l3 l6 l5 l7 k4 p2 hne p1 hq
    rw[hlr] at key;rw[fN];rcases bG cap (xs.length+m) with cr|hge
    ·have hfc:∀w':World,w'.heap=w.heap->(Builtin.firstCells i.size xs.length (.slice (some ⟨b,0,none⟩) xs.length cap)).run P w' = .ok (row.toList.take (xs.length*i.size)).toArray w':=fun w' hw'=>by
      have:=oE (P:=P) (w:=w') b 0 (xs.length*i.size) (fun p=>(row[p]?).getD undef) fun p hp=>by
       simp only[World.cell?,hw',l6,aP];rw[ba (show p<row.size by omega)]; rfl
      simp only[Builtin.firstCells];rw[this];congr 2;apply cN;intro p;rw[aY,gF];rcases bG p (xs.length*i.size) with h|h
      ·rw[fJ h,az h];simp[ba (show p<row.size by omega)]
      ·rw[ak (by omega),eG (by simpa using h)]; rfl
     obtain⟨newCap,row',w',g1,g2,q,g3,g4,g5,g6⟩:=grow (some ⟨b,0,none⟩) xs.length cap _ m hfc hm0 cr hroom;have htk:(row.toList.take (xs.length*i.size)).length=xs.length*i.size:=by simp; omega
     refine⟨_,w',.inl ?_,key _ w' (.inr ⟨newCap,row',e,g1,rfl,q,g3,g4,?_,fun p hp=>g6 p (by rw[htk,<-bO]; exact hp)⟩)⟩
     ·rw[hexec _ rfl,hk2,l4,happ,g2]; rfl
     ·rw[g5,htk,<-bO,<-bO,cR g1];exact ar _
    ·have hfit:xs.length*i.size+(Builtin.zeroCells zv.cells m).toList.length<=row.size:=by
      rw[<-p1.1,ij p2,hlr,<-bO]; exact bh (bd _ hge) l7
     have hst:=mP (P:=P) (Builtin.zeroCells zv.cells m).toList w (xs.length*i.size) 0 row l6 (by omega) p3
     refine⟨_,_,.inl ?_,key _ _ (.inl ⟨hge,rfl,rfl⟩)⟩
     have hwm:IntKind.i64.wrap (m:Int)=m:=by
      have:m*i.bytes<=2 ^ 44:=bh (bd _ (by omega)) hroom
      have:m<=2 ^ 44:=bh (fq _ c3) this;rw[IntKind.wrap_i64]; omega
     have hneg:¬((m:Int)<0):=by omega
     have hns:¬(m*i.size=0):=Nat.mul_ne_zero (by omega) (by omega)
     have h48:¬(281474976710656<(m:Int)*(i.bytes:Int)):=by
      have:m*i.bytes<=2 ^ 44:=bh (bd _ (by omega)) hroom
      rw[<-Int.natCast_mul]; omega
     rw[hexec _ rfl,hk2,l4,happ];have hadd:(⟨b,0,none⟩:Addr).add (xs.length*i.size)=⟨b,xs.length*i.size,none⟩:=by simp[ly]
     simp only[cS] at hst
     have hap:(Builtin.append_ #[t,t'] o.type #[.slice (some ⟨b,0,none⟩) xs.length cap,.int kn (m:Int)]).run P w = .ok (.slice (some ⟨b,0,none⟩) (xs.length+m) cap) (oQ w b (xs.length*i.size) (Builtin.zeroCells zv.cells m).toList):=by
      simp[Builtin.append_,dx hs,dx hs',hsz,asInt,asIntOf,hwm,typeInfo,hi,hneg,h48,hns,zeroValue,hzv,hge,hadd,hst]
     rw[hap]; rfl
  ·cases h
 ·cases h
def Pj(hr:Rel j M w){id sz ver:Nat}{ys:List ag}(hM:M[id]?=some (.arr sz ver []))(hwy:wid ys sz){us:List Value}(hrl:RL w (nR j M w) (jA ys) us){v:Value}{w':World}{c':Nat}{row':Array Value}{e:TypeId}
  (h1:ys.length<=c') (hv:v = .slice (some ⟨w.heap.size,0,none⟩) ys.length c') (q:Quiet w w') (hb:∀b,b<w.heap.size->w'.heap[b]?=w.heap[b]?) (hn:w'.heap[w.heap.size]?=some (.cells row' e (0,0))) (hs:c'*sz<=row'.size) (hp:∀p,p<us.length->row'[p]?=us[p]?) :
  iG j M w (.dg id (ver+1) sz 0 ys.length,M.set id (.arr sz (ver+1) ys)) v w':=by
 subst hv;have hid:=aF hM;have hrel:=Rel.uq (ver':=ver+1) hM hr q hb (ar _) (lt_of_block hn) (by simp) (fun j' M' hx=>lC hn hwy (hrl.mono hx.gX) hp)
 have hext:=Ext.uq (j:=j) (ver':=ver+1) (xs':=ys) hM q hb (ar _) (by simp)
 refine⟨_,hrel,hext,.dg (.inl ⟨w.heap.size,0,c',by rw[bU],by omega⟩) (by simpa using hid) (fun bx hbx=>by rw[dC hid] at hbx; cases hbx; rfl) fun sz' v' zs hx=>?_⟩
 rw[dC hid] at hx; injection hx with hx; injection hx with e1 e2 e3
 subst e1; subst e2; subst e3;exact⟨ar _,fun _=>⟨rfl,cy _,ar _,.inr ⟨w.heap.size,c',row',e,by simp[gv],by simp,by omega,hn,by rw[aP]; omega⟩⟩⟩
theorem G3(hr:Rel j M w){t t' e e':TypeId}{i:TypeInfo}{zv:Value}{y y':Operand}(hexec:∀r,(Builtin.append_ #[t,t'] o.type #[a.eval y,a.eval y']).run P w=r->(execOp a.eval o).run P w=r.andThen fun v w' => .ok (.value v) w')
  (hs:P.underlying t=some (.slice e)) (hs':P.underlying t'=some (.slice e')) (hi:P.info? e=some i) (hz:i.zero=some zv) (hzs:zv.cells.size=i.size) (hb0:0<i.bytes) (hb1:i.bytes<=2 ^ 20)
  {id ver sz' lo hi0 sz0 v0:Nat} {xs ys:List ag} {B:Option Addr} {cap2:Nat} (hM:M[id]?=some (.arr sz0 v0 xs)) (d1:v0=ver) (d2:sz'=i.size) (d3:lo=0) (d4:hi0=xs.length) (hy:ys=[]) (hv2:a.eval y' = .slice B ys.length cap2)
  (hroom:dL (xs.length+ys.length) i.bytes) (r1:fV j M w (.dg id ver sz' lo hi0) (a.eval y)) (h:some (ag.dg id ver i.size lo hi0,M)=some x):∃v w',qQ P o a w v w'/\iG j M w x v w':=by
 injection h with h
 subst h; subst d1; subst d2; subst d3; subst d4; subst hy
 have hfc:∀w':World,w'.heap=w.heap->(Builtin.firstCells i.size 0 (a.eval y')).run P w' = .ok (#[]:Array Value) w':=fun w' _=>by
  rw[hv2]; cases B<;>simp[Builtin.firstCells,loadCells,loadCellsFrom]
 have eU:∀w':World,(Builtin.lenOf (a.eval y')).run P w' = .ok 0 w':=fun w'=>by rw[hv2]; rfl
 refine⟨a.eval y,w,.inl ?_,.still hr r1⟩;obtain⟨_,hid,_,g⟩:=r1.nw;obtain⟨e1,_,_,⟨hx,hj0,A,hvA⟩|⟨b,cap,row,t0,l3,l4,l5,l6,l7⟩⟩:=(g sz0 v0 xs hM).2 rfl
 ·have hA0:∀w':World,w'.heap=w.heap->(Builtin.firstCells i.size 0 (.slice A 0 0)).run P w' = .ok #[] w':=fun w' _=>by
   cases A<;>simp[Builtin.firstCells,loadCells,loadCellsFrom]
  obtain⟨A1,_⟩:=qc (P:=P) (w:=w) hs hs' (fun k h=>by cases h) hi hz hb0 hb1 o.type (bM:=A) (n:=0) (cap:=0) (m:=0) eU hA0 hfc (by simp)
  have h3:=A1 (ar _) w (by cases A<;>simp[storeCells])
  rw[<-hvA] at h3;rw[hexec _ h3,hvA]; rfl
 ·subst e1;rw[bU] at l4 l5;rw[jb] at l4;rw[aP] at l7;obtain⟨b',row0,t',k1,k2,k3,k4,k5⟩:=hr.yb hM l3;rw[l3] at k1; cases k1;rw[l6] at k2; injection k2 with k2; injection k2 with k2 k2'
  subst k2; subst k2'
  have hfx:∀w':World,w'.heap=w.heap->(Builtin.firstCells i.size xs.length (.slice (some ⟨b,0,none⟩) xs.length cap)).run P w' = .ok (row.toList.take (xs.length*i.size)).toArray w':=fun w' hw'=>by
   have:=oE (P:=P) (w:=w') b 0 (xs.length*i.size) (fun p=>(row[p]?).getD undef) fun p hp=>by
    simp only[World.cell?,hw',l6,aP];rw[ba (show p<row.size by omega)]; rfl
   simp only[Builtin.firstCells];rw[this];congr 2;apply cN;intro p;rw[aY,gF]
   grind
  obtain⟨A1,_⟩:=qc (P:=P) (w:=w) hs hs' (fun k h=>by cases h) hi hz hb0 hb1 o.type (bM:=some ⟨b,0,none⟩) (n:=xs.length) (cap:=cap) (m:=0) eU hfx hfc (by simpa[dL] using hroom)
  have h3:=A1 (by omega) w (by simp[storeCells])
  rw[<-l4] at h3;rw[hexec _ h3,l4]; rfl
theorem EO(hr:Rel j M w)(he:cu j M w br a){c:Call}{y y':Operand}{z z':gM}{t t' e e':TypeId}{i:TypeInfo}{zv:Value}(hop:o.op = .call c)(hb:c.callee = .builtin .append)(ha:c.args.toList=[y,y'])
  (hat:c.argTypes = #[t,t']) (hs:P.underlying t=some (.slice e)) (hs':P.underlying t'=some (.slice e')) (hi:P.info? e=some i) (hz:i.zero=some zv) (hzs:zv.cells.size=i.size) (hpos:0<i.size) (hb0:0<i.bytes) (hb1:i.bytes<=2 ^ 20)
  (hzy:dZ y=some z) (hzy':dZ y'=some z') (h:dW C br M (.append i.size i.bytes z z')=some x):∃v w',qQ P o a w v w'/\iG j M w x v w':=by
 by_cases hna:∀id ver sz lo hi,z.ev br ≠ .dg id ver sz lo hi
 ·exact KF hr he hop hb ha hat hs hs' hi hz hzs hpos hb0 hb1 hzy hzy' h hna
 ·have hna':∃id ver sz lo hi,z.ev br = .dg id ver sz lo hi:=by
   grind
  obtain⟨id,ver,sz',lo,hi0,ez⟩:=hna';have r1:=cF he hzy;have r2:=cF he hzy';simp only[dW] at h;split at h
  ·rename_i ez' _;rw[ez] at ez'; cases ez'
  ·rename_i id' ver' szz lo' hi' tk ys ez1 ez2;rw[ez] at ez1; injection ez1 with q1 q2 q3 q4 q5
   subst q1; subst q2; subst q3; subst q4; subst q5;rw[ez] at r1; rw[ez2] at r2;rw[eJ] at h;split at h
   ·rename_i sz0 v0 xs hM;obtain⟨⟨d1,d2,d3,d4,hroom,hwx,hwy⟩,h⟩:=db h;have ha':c.args = #[y,y']:=by rw[<-ha]
    have hexec:∀r,(Builtin.append_ #[t,t'] o.type #[a.eval y,a.eval y']).run P w=r->(execOp a.eval o).run P w=r.andThen fun v w' => .ok (.value v) w':=by
     intro r hr';simp[execOp,hop,resolve,hb,invoke,builtin,ha',hat,hr']
    obtain⟨B,cap2,hv2,hcap2,hsr⟩:=nC r2.dD hwy;rcases kM h with ⟨hyl,h⟩|⟨hyl,h⟩
    ·exact G3 hr hexec hs hs' hi hz hzs hb0 hb1 hM d1 d2 d3 d4 (cm (by simpa using hyl)) hv2 hroom r1 h
    have hyl:0<ys.length:=Nat.pos_of_ne_zero (by simpa using hyl)
    have hne:ys≠[]:=List.ne_nil_of_length_pos hyl;injection h with h
    subst h; subst d1; subst d2; subst d3; subst d4;rw[fN];obtain⟨b2,off2,rfl,us,hrl,hul,hone,hcell⟩:=hsr.resolve_left hne
    have hfc:∀w':World,w'.heap=w.heap->(Builtin.firstCells i.size ys.length (a.eval y')).run P w' = .ok us.toArray w':=fun w' hw'=>by
     have:=oE (P:=P) (w:=w') b2 off2 (ys.length*i.size) (fun p=>(us[p]?).getD undef) fun p hp=>by
      have h1:=(hcell p _ (aj (by omega))).1
      grind [World.cell?,List.getElem?_eq_getElem]
     rw[hv2];simp only[Builtin.firstCells];rw[this];congr 2;apply cN
     grind
    have eU:∀w':World,(Builtin.lenOf (a.eval y')).run P w' = .ok ys.length w':=fun w'=>by rw[hv2]; rfl
    obtain⟨_,hid,_,g⟩:=r1.nw;obtain⟨e1,_,_,⟨hx,hj0,A,hvA⟩|⟨b,cap,row,t0,l3,l4,l5,l6,l7⟩⟩:=(g sz0 v0 xs hM).2 rfl
    ·subst hx;subst e1
     have hA0:∀w':World,w'.heap=w.heap->(Builtin.firstCells i.size 0 (.slice A 0 0)).run P w' = .ok #[] w':=fun w' _=>by
      cases A<;>simp[Builtin.firstCells,loadCells,loadCellsFrom]
     obtain⟨_,A2⟩:=qc (P:=P) (w:=w) hs hs' (fun k h=>by cases h) hi hz hb0 hb1 o.type (bM:=A) (n:=0) (cap:=0) (m:=ys.length) eU hA0 hfc (by simpa[dL] using hroom)
     obtain⟨newCap,rest,h1,h2,h3⟩:=A2 (by omega)
     obtain⟨q,hbk,iq⟩:=pH (w:=w) (.cells (#[]++us.toArray++rest) e (0,0));rw[<-hvA] at h3;refine⟨_,_,.inl (by rw[hexec _ h3]; rfl),?_⟩
     have:=Pj (c':=newCap) (e:=e) (v := .slice (some ⟨w.heap.size,0,none⟩) (0+ys.length) newCap) (w':={ w with heap:=w.heap.push (.cells (#[]++us.toArray++rest) e (0,0)),drawn:=w.drawn+1 }) hr hM hwy hrl (by omega) (by rw[aP]) ⟨q.size,rfl,rfl,rfl⟩ hbk iq (by
      simp only[fQ,cH,h2,hzs,hul,aG];rw[aP,aP,<-bO];exact bd _ (by omega)) (fun p hp=>by
      rw[cp (by simpa using hp)]; simp)
     simpa using this
    ·subst e1;rw[bU] at l4 l5;rw[jb] at l4;rw[aP] at l7;obtain⟨b',row0,t',k1,k2,k3,k4,k5⟩:=hr.yb hM l3;rw[l3] at k1; cases k1;rw[l6] at k2; injection k2 with k2; injection k2 with k2 k2'
     subst k2; subst k2';have key:=fun v w' hq=>Ld (v:=v) (w':=w') hr hM l3 l6 l5 l7 k4 hwy hne hrl hq
     have hfx:∀w':World,w'.heap=w.heap->(Builtin.firstCells i.size xs.length (.slice (some ⟨b,0,none⟩) xs.length cap)).run P w' = .ok (row.toList.take (xs.length*i.size)).toArray w':=fun w' hw'=>by
      have:=oE (P:=P) (w:=w') b 0 (xs.length*i.size) (fun p=>(row[p]?).getD undef) fun p hp=>by
       simp only[World.cell?,hw',l6,aP];rw[ba (show p<row.size by omega)]; rfl
      simp only[Builtin.firstCells];rw[this];congr 2;apply cN;intro p;rw[aY,gF]
      grind
     obtain⟨A1,A2⟩:=qc (P:=P) (w:=w) hs hs' (fun k h=>by cases h) hi hz hb0 hb1 o.type (bM:=some ⟨b,0,none⟩) (n:=xs.length) (cap:=cap) (m:=ys.length) eU hfx hfc (by simpa[dL] using hroom)
     rcases bG cap (xs.length+ys.length) with cr|hge
     ·obtain⟨newCap,rest,h1,h2,h3⟩:=A2 cr;obtain⟨q,hbk,iq⟩:=pH (w:=w) (.cells ((row.toList.take (xs.length*i.size)).toArray++us.toArray++rest) e (0,0));have htk:(row.toList.take (xs.length*i.size)).length=xs.length*i.size:=by simp; omega
      rw[<-l4] at h3;refine⟨_,{ w with heap:=w.heap.push (.cells ((row.toList.take (xs.length*i.size)).toArray++us.toArray++rest) e (0,0)),drawn:=w.drawn+1 },.inl (by rw[hexec _ h3]; rfl),key _ _ (.inr ⟨newCap,_,e,h1,rfl,⟨q.size,rfl,rfl,rfl⟩,hbk,iq,?_,fun p hp=>?_⟩)⟩
      ·simp only[fQ,cH,h2,hzs,hul,htk];rw[<-bO,<-bO];exact bd _ (by omega)
      ·rw[cp (by simp only[fQ,cH,hul,htk]; rw[<-bO]; exact hp)]
       simp[nq]
     ·have hfit:xs.length*i.size+0+us.length<=row.size:=by
       rw[hul,cS,<-bO]; exact bh (bd _ hge) l7
      have hst:=mP (P:=P) us w (xs.length*i.size) 0 row l6 hfit hone;simp only[cS] at hst;have hadd:(⟨b,0,none⟩:Addr).add (xs.length*i.size)=⟨b,xs.length*i.size,none⟩:=by simp[ly]
      have h3:=A1 hge (oQ w b (xs.length*i.size) us) (by
       grind)
      rw[<-l4] at h3;exact⟨_,_,.inl (by rw[hexec _ h3]; rfl),key _ _ (.inl ⟨hge,rfl,rfl⟩)⟩
   ·cases h
  ·cases h
theorem KE(hr:Rel j M w)(he:cu j M w br a){c:Call}{y y':Operand}{z z':gM}{t t' e e':TypeId}{i:TypeInfo}{zv:Value}(hop:o.op = .call c)(hb:c.callee = .builtin .append)(ha:c.args.toList=[y,y'])
  (hat:c.argTypes = #[t,t']) (hs:P.underlying t=some (.slice e)) (hs':P.underlying t'=some (.slice e')) (hi:P.info? e=some i) (hz:i.zero=some zv) (hzs:zv.cells.size=i.size) (hpos:0<i.size) (hb0:0<i.bytes) (hb1:i.bytes<=2 ^ 20)
  (hzy:dZ y=some z) (hzy':dZ y'=some z') (h:dW C br M (.vo i.size i.bytes z z')=some x):∃v w',qQ P o a w v w'/\iG j M w x v w':=by
 simp only[dW] at h;have r1:=cF he hzy;have r2:=cF he hzy';split at h
 ·rename_i tk ys ez ez';obtain⟨⟨hroom,hwy⟩,h⟩:=db h;cases h;rw[ez] at r1;rw[ez'] at r2;obtain⟨A,hv⟩:=r1.Cj;have ha':c.args = #[y,y']:=by rw[<-ha]
  have hexec:∀r,(Builtin.append_ #[t,t'] o.type #[a.eval y,a.eval y']).run P w=r->(execOp a.eval o).run P w=r.andThen fun v w' => .ok (.value v) w':=by
   simp_all [execOp,resolve,invoke,builtin]
  have hA0:∀w':World,w'.heap=w.heap->(Builtin.firstCells i.size 0 (.slice A 0 0)).run P w' = .ok #[] w':=fun w' _=>by
   cases A<;>simp[Builtin.firstCells,loadCells,loadCellsFrom]
  obtain⟨B,cap2,hv2,hcap2,hsr⟩:=nC r2.dD hwy;have eU:∀w':World,(Builtin.lenOf (a.eval y')).run P w' = .ok ys.length w':=fun w'=>by rw[hv2]; rfl
  rcases fA ys.length with h0|h0
  ·have hnil:ys=[]:=cm h0;subst hnil
   have hfc:∀w':World,w'.heap=w.heap->(Builtin.firstCells i.size 0 (a.eval y')).run P w' = .ok (#[]:Array Value) w':=fun w' _=>by
    rw[hv2]; cases B<;>simp[Builtin.firstCells,loadCells,loadCellsFrom]
   obtain⟨A1,_⟩:=qc (P:=P) (w:=w) hs hs' (fun k h=>by cases h) hi hz hb0 hb1 o.type (bM:=A) (n:=0) (cap:=0) (m:=0) eU hA0 hfc (by simp[])
   have h3:=A1 (ar _) w (by cases A<;>simp[storeCells])
   rw[<-hv] at h3;have q:Quiet w w:=⟨ar _,rfl,rfl,rfl⟩;have g1:Rel (gv j M.length none) (M++[.arr i.size 0 []]) w:=hr.push (ob:=none) (bx := .arr i.size 0 []) (fun b h=>by cases h) q (fun _ _=>rfl) (fun h=>by cases h) (fun sz n b h h'=>by cases h') (fun sz ver xs h=>by injection h with e1 e2 e3; exact .inl ⟨e3.symm,rfl⟩)
   have g2:Ext j M w (gv j M.length none) (M++[.arr i.size 0 []]) w:=Ext.push (fun b h=>by cases h) q (fun _ _=>rfl)
   refine⟨a.eval y,w,.inl (by rw[hexec _ h3]; rfl),gv j M.length none,g1,g2,?_⟩
   rw[hv];refine .dg (.inr ⟨rfl,A,rfl⟩) (by simp) (fun bx hbx=>by rw[lK] at hbx; cases hbx; rfl) fun sz' v' zs hx=>?_
   rw[lK] at hx; injection hx with hx; injection hx with e1 e2 e3
   subst e1; subst e2; subst e3;exact⟨ar _,fun _=>⟨rfl,ar _,ar _,.inl ⟨rfl,by simp[gv],A,rfl⟩⟩⟩
  ·have hne:ys≠[]:=List.ne_nil_of_length_pos h0;obtain⟨b2,off2,rfl,us,hrl,hul,hone,hcell⟩:=hsr.resolve_left hne
   have hfc:∀w':World,w'.heap=w.heap->(Builtin.firstCells i.size ys.length (a.eval y')).run P w' = .ok us.toArray w':=fun w' hw'=>by
    have:=oE (P:=P) (w:=w') b2 off2 (ys.length*i.size) (fun p=>(us[p]?).getD undef) fun p hp=>by
     have h1:=(hcell p _ (aj (by omega))).1
     grind [World.cell?,List.getElem?_eq_getElem]
    rw[hv2];simp only[Builtin.firstCells];rw[this];congr 2;apply cN
    grind
   obtain⟨_,A2⟩:=qc (P:=P) (w:=w) hs hs' (fun k h=>by cases h) hi hz hb0 hb1 o.type (bM:=A) (n:=0) (cap:=0) (m:=ys.length) eU hA0 hfc (by simpa[dL] using hroom)
   obtain⟨newCap,rest,h1,h2,h3⟩:=A2 (by omega)
   obtain⟨q,hbk,iq⟩:=pH (w:=w) (.cells (#[]++us.toArray++rest) e (0,0));rw[<-hv] at h3;have q':Quiet w { w with heap:=w.heap.push (.cells (#[]++us.toArray++rest) e (0,0)),drawn:=w.drawn+1 }:=⟨q.size,rfl,rfl,rfl⟩
   have hob:∀b,some w.heap.size=some b->w.heap.size<=b/\b<({ w with heap:=w.heap.push (.cells (#[]++us.toArray++rest) e (0,0)),drawn:=w.drawn+1 }:World).heap.size:=fun b h=>by cases h; exact⟨ar _,lt_of_block iq⟩
   have hpf:∀p,p<us.length->(#[]++us.toArray++rest)[p]?=us[p]?:=fun p hp=>by
    rw[cp (by simpa using hp)]; simp
   have hat:∀j' M',Ext j M w j' M' { w with heap:=w.heap.push (.cells (#[]++us.toArray++rest) e (0,0)),drawn:=w.drawn+1 }->DM j' M' { w with heap:=w.heap.push (.cells (#[]++us.toArray++rest) e (0,0)),drawn:=w.drawn+1 } w.heap.size i.size ys:=fun j' M' hx=>lC iq hwy (hrl.mono hx.gX) hpf
   have hsz:newCap*i.size<=(#[]++us.toArray++rest).size:=by
    simp only[fQ,cH,h2,hzs,hul,aG];rw[aP,aP,<-bO];exact bd _ (by omega)
   refine⟨_,_,.inl (by rw[hexec _ h3]; rfl),gv j M.length (some w.heap.size),hr.push hob q' hbk (fun h=>by cases h) (fun sz n b h _=>by cases h) (fun sz0 v0 xs0 he=>?_),Ext.push (fun b h=>(hob b h).1) q' hbk,?_⟩
   ·injection he with e1 e2 e3
    subst e1; subst e2; subst e3;refine .inr ⟨w.heap.size,_,e,rfl,iq,?_,hwy,fun j' M' hx q x k c hx' hk=>?_⟩
    ·exact bh (bd _ (by omega)) hsz
    ·obtain⟨vs,t,a1,a2,a3,a4⟩:=hat j' M' hx;rw[iq] at a1; injection a1 with a1; injection a1 with a1 a1'
     subst a1;exact a4 q x k c hx' hk
   ·rw[aP];refine .dg (.inl ⟨w.heap.size,0,newCap,by rw[bU],by omega⟩) (by simp) (fun bx hbx=>by rw[lK] at hbx; cases hbx; rfl) fun sz' v' xs hx=>?_
    rw[lK] at hx; injection hx with hx; injection hx with e1 e2 e3
    subst e1; subst e2; subst e3;exact⟨ar _,fun _=>⟨rfl,cy _,ar _,.inr ⟨w.heap.size,newCap,_,e,by simp[gv],by simp,by omega,iq,by rw[aP]; exact hsz⟩⟩⟩
 ·cases h
def Tg(hr:Rel j M w)(he:cu j M w br a){c:Call}{y y':Operand}{z z':gM}{t t' e e':TypeId}{n:Nat}(hop:o.op = .call c)(hb:c.callee = .builtin .copy)(ha:c.args.toList=[y,y'])
  (hat:c.argTypes.toList=[t,t']) (hs:P.underlying t=some (.slice e)) (hs':P.underlying t'=some (.slice e')) (hn:qo P e=some n) (hpos:0<n)
  (hz:dZ y=some z) (hz':dZ y'=some z') (h:dW C br M (.D1 n z z')=some x):∃v w',qQ P o a w v w'/\iG j M w x v w':=by
 simp only[dW] at h;have r1:=cF he hz;have r2:=cF he hz';have ha':c.args = #[y,y']:=by rw[<-ha]
 have hat':c.argTypes = #[t,t']:=by rw[<-hat]
 have hexec:∀r,(Builtin.copy_ #[t,t'] o.type #[a.eval y,a.eval y']).run P w=r->(execOp a.eval o).run P w=r.andThen fun v w' => .ok (.value v) w':=by
  intro r hr';simp[execOp,hop,resolve,hb,invoke,builtin,ha',hat',hr']
 have hsz:(sizeOf e).run P w = .ok n w:=ja hn;split at h
 ·rename_i tk ys ex ey;rw[ex] at r1; rw[ey] at r2;obtain⟨hwy,h⟩:=db h;cases h;obtain⟨B,cap2,hv2,_,_⟩:=nC r2.dD hwy;obtain⟨A,cap,hv,_,_⟩:=nC (size:=n) r1.dD (fun y hy=>by cases hy)
  refine⟨.int .i64 0,w,.inl ?_,.still hr (.plain (.int _ _))⟩;rw[hexec _ rfl,hv,hv2];cases A<;>cases B<;>simp[Builtin.copy_,dx hs,hsz,Builtin.lenOf,Builtin.firstCells,loadCells,loadCellsFrom,storeCells,goInt,Result.andThen]
 ·rename_i id ver sz' lo hi0 tk ys ex ey;rw[ex] at r1; rw[ey] at r2;rw[eJ] at h;split at h
  ·rename_i sz0 v0 xs hM;obtain⟨⟨d1,d2,hwy,hne0⟩,h9⟩:=db h;injection h9 with h9
   subst h9; subst d1; subst d2;obtain⟨_,hid,_,g⟩:=r1.nw;obtain⟨e1,l1,l2,⟨hx,_⟩|⟨b,cap,row,t0,l3,l4,l5,l6,l7⟩⟩:=(g sz0 v0 xs hM).2 rfl
   ·exact absurd hne0 (by rw[hx]; simp)
   subst e1;obtain⟨b',row0,t',k1,k2,k3,k4,k5⟩:=hr.yb hM l3;rw[l3] at k1; cases k1;rw[l6] at k2; injection k2 with k2; injection k2 with k2 k2'
   subst k2; subst k2';obtain⟨B,cap2,hv2,hcap2,hsr⟩:=nC r2.dD hwy;generalize hm:min ys.length (hi0-lo)=m;have hm1:m<=ys.length:=by omega
   have hm2:m<=hi0-lo:=by omega
   -- what is copied
   obtain⟨us,hul,hrl,hone,hfc⟩:∃us:List Value,us.length=m*sz0/\RL w (nR j M w) (jA (ys.take m)) us/\(∀u,u∈us->u.oneCell'=true)/\(Builtin.firstCells sz0 m (.slice B ys.length cap2)).run P w = .ok us.toArray w:=by
    rcases hsr with rfl|⟨b2,off2,rfl,us,hrl,hul,hone,hcell⟩
    ·have:m=0:=by simpa using hm1
     subst this;refine⟨[],by simp,⟨rfl,fun p c v h=>by simp[jA] at h⟩,fun u hu=>by (cases hu),?_⟩
     cases B<;>simp[Builtin.firstCells,loadCells,loadCellsFrom]
    ·have hle:m*sz0<=us.length:=by rw[hul]; exact bd _ hm1
     refine⟨us.take (m*sz0),by simp; omega,by rw[rL m hwy]; exact hrl.take _,fun u hu=>hone u (di hu),?_⟩
     have:=oE (P:=P) (w:=w) b2 off2 (m*sz0) (fun p=>(us[p]?).getD undef) fun p hp=>by
      rw[(hcell p _ (aj (by omega))).1,aj (show p<us.length by omega)]; rfl
     simp only[Builtin.firstCells];rw[this];congr 2;apply cN;intro p;rw[aY,gF];rcases bG p (m*sz0) with h|h
     ·rw[fJ h,az h];simp[aj (show p<us.length by omega)]
     ·rw[ak (by omega),eG (by simpa using h)]; rfl
   have hrow:=xe (b:=b) k3 k4 k5;have hbd:lo*sz0+m*sz0<=xs.length*sz0:=by rw[<-bO]; exact bd _ (by omega)
   have hfit:lo*sz0+us.length<=row.size:=by rw[hul]; omega
   have hst:=mP (P:=P) us w (lo*sz0) 0 row l6 (by omega) hone
   obtain⟨s1,s2,s3,s4,s5,row2,s6,s7,s8,s9⟩:=lu (t:=t0) us w (lo*sz0) row l6 hfit;have hwd':wid (xs.take lo++(ys.take m++xs.drop (lo+m))) sz0:=mQ (vk k4) (mQ (vk hwy) (vj k4))
   have iq:RL w (nR j M w) (jA (xs.take lo++(ys.take m++xs.drop (lo+m)))) ((row.toList.take (xs.length*sz0)).take (lo*sz0)++(us++(row.toList.take (xs.length*sz0)).drop ((lo+m)*sz0))):=by
    rw[om,om,rL lo k4,tE (lo+m) k4];exact(hrow.take _).append (hrl.append (hrow.drop _))
   have hll:(xs.take lo++(ys.take m++xs.drop (lo+m))).length=xs.length:=by simp; omega
   have hmm:(lo+m)*sz0=lo*sz0+m*sz0:=bO ..
   have hput:=xd (ver':=v0) (xs':=xs.take lo++(ys.take m++xs.drop (lo+m))) hr hM l3 (w':=oQ w b (lo*sz0) us) ⟨by omega,s2,s3,s4⟩ (fun b' hb' _=>s5 b' hb') l6 s6 s7 (ar _) (fun _=>hll) hwd' iq (fun p hp=>by
    have hp':p<xs.length*sz0:=by
     rw[<-iq.1,ij hwd',hll] at hp; exact hp
    have htk:(List.take (lo*sz0) (row.toList.take (xs.length*sz0))).length=lo*sz0:=by simp; omega
    rcases bG p (lo*sz0) with q1|q1
    ·rw[s8 p (.inl q1),bj (by rw[htk]; exact q1),bE q1,bE hp']; simp
    ·rw[bq (by rw[htk]; exact q1),htk]
     rcases bG p (lo*sz0+m*sz0) with q2|q2
     ·rw[bj (by rw[hul]; omega)]
      have:=s9 (p-lo*sz0) (by rw[hul]; omega)
      rw[cR q1] at this;exact this
     ·rw[bq (by rw[hul]; omega),s8 p (.inr (by rw[hul]; omega)),cG,hul,hmm,show lo*sz0+m*sz0+(p-lo*sz0-m*sz0)=p by omega,bE hp']; simp)
   rw[fN];refine⟨.int .i64 (m:Int),oQ w b (lo*sz0) us,.inl ?_,j,hput.1,hput.2,.plain (.int _ _)⟩;rw[hexec _ rfl,l4,hv2];have hmin:Nat.min ys.length (hi0-lo)=m:=hm;simp only[cS] at hst;simp[Builtin.copy_,dx hs,hsz,Builtin.lenOf,hmin,hfc,hst,goInt,Result.andThen]
  ·cases h
 ·cases h
def WN(hr:Rel j M w){t:TypeId}{i:TypeInfo}{zv:Value}{n:Nat}(hop:o.op = .alloc t)(hi:P.info? t=some i)(hzv:i.zero=some zv)(hl:sM zv.cells.toList=some [.slice .c0 []])
  (h:dW C br M (.MV n)=some x):∃v w',qQ P o a w v w'/\iG j M w x v w':=by
 simp only[dW] at h;cases h;have q:Quiet w w:=⟨ar _,rfl,rfl,rfl⟩;have h1:Rel (gv j M.length none) (M++[.arr n 0 []]) w:=hr.push (ob:=none) (bx := .arr n 0 []) (fun b h=>by cases h) q (fun _ _=>rfl) (fun h=>by cases h) (fun sz n b h h'=>by cases h') (fun sz ver xs h=>by injection h with e1 e2 e3; exact .inl ⟨e3.symm,rfl⟩)
 have h2:Ext j M w (gv j M.length none) (M++[.arr n 0 []]) w:=Ext.push (fun b h=>by cases h) q (fun _ _=>rfl)
 obtain⟨k1,k2⟩:=pQ (j:=gv j M.length none) (M:=M++[.arr n 0 []]) (w:=w) hl;have hs1:zv.cells.size=1:=by simpa using k1.symm
 have hv0:∃A,zv.cells[0]?=some (.slice A 0 0):=by
  have hv:=ba (show 0<zv.cells.size by omega)
  obtain⟨A,hA⟩:=(k2 0 _ (zv.cells[0]'(by omega)) rfl (by simp)).Cj
  exact⟨A,by rw[hv,hA]⟩
 obtain⟨A,hA⟩:=hv0
 have hrc:RC (gv j M.length none) (M++[.arr n 0 []]) w [.dg M.length 0 n 0 0] zv.cells:=by
  refine⟨by simp[hs1],fun p c v hc hv=>?_⟩
  cases p with
  |zero =>
   simp at hc; subst hc;rw[hA] at hv; cases hv;refine .dg (.inr ⟨rfl,A,rfl⟩) (by simp) (fun bx hbx=>by rw[lK] at hbx; cases hbx; rfl) fun sz' v' zs hx=>?_
   rw[lK] at hx; injection hx with hx; injection hx with e1 e2 e3
   subst e1; subst e2; subst e3;exact⟨ar _,fun _=>⟨rfl,ar _,ar _,.inl ⟨rfl,by simp[gv],A,rfl⟩⟩⟩
  |succ p=>simp at hc
 obtain⟨j',g1,g2,g3⟩:=Gj h1 hrc t;refine⟨_,_,.inl (show(execOp a.eval o).run P w = .ok (.value (.pointer (some ⟨w.heap.size,0,none⟩))) { w with heap:=w.heap.push (.cells zv.cells t (0,0)) } by simp[execOp,hop,Instr.alloc,zeroValue,py hi,hzv,newVar,newRow]),j',?_,?_,?_⟩
 ·simpa using g1
 ·simpa using h2.trans g2
 ·simpa using g3
end
section
variable {P:Program} {C:eL} {own:List Nat} {o:Oper} {ao:kE} {br:Env} {M:aK} {j:J} {w:World} {a:Act} {x:ag×aK}
def tw(P:Program)(o:Oper)(a:Act)(w:World)(K:Act->World->Prop)(KP:Value->World->Prop):Prop :=
 (∃v w',qQ P o a w v w'/\K (a.put o.dst v) w')\/(∃f us,(execOp a.eval o).run P w = .ok (.enter f us) w/\Calls P f us w fun e w'=>(∃v,e = .returned v/\K (a.put o.dst v) w')\/∃u,e = .panicked [{ v:=u,recovered:=false }]/\KP u w') \/
  ∃u,(execOp a.eval o).run P w = .halt (.panic u) w/\KP u w
def dV{K:Act->World->Prop}{KP:Value->World->Prop}(h:∃v w',qQ P o a w v w'/\iG j M w x v w')(hK:∀v w',iG j M w x v w'->K (a.put o.dst v) w'):tw P o a w K KP:=by
 obtain⟨v,w',h1,h2⟩:=h;exact .inl ⟨v,w',h1,hK v _ h2⟩
def xH{K:Act->World->Prop}{KP:Value->World->Prop}{f:Nat}{us:Array Value}(hrun:(execOp a.eval o).run P w = .ok (.enter f us) w)
  (h:Calls P f us w fun e w'=>vn j M w x e w') (hK:∀v w',iG j M w x v w'->K (a.put o.dst v) w') (hP:∀u w',GN j M w x u w'->KP u w'):tw P o a w K KP :=
 .inr (.inl ⟨f,us,hrun,h.mono fun e w' he=>he.imp (fun⟨v,he,hv⟩=>⟨v,he,hK v _ hv⟩) fun⟨u,he,hu⟩=>⟨u,he,hP u _ hu⟩⟩)
def Wd(r:Option Nat):Fence:={ Fence.wide with round:=r }
def JD{r:Option Nat}{n f:Nat}{args:Array Value}{R:Ending->World->Prop}(h:Calls P f args w R):CallsIn (Wd r) n P f args w R:=by
 cases r with
 |none=>exact callsIn_wide.2 h
 |some l=>exact CallsIn.inRound l (callsIn_wide.2 h)
theorem tw.wpIn{K:Act->World->Prop}{KP:Value->World->Prop}{Q:Exit->Act->World->Prop}{r:Option Nat}{n:Nat}(hd:∀c,o.op ≠ .defer c)(h:tw P o a w K KP)
  (hQ:∀u w',KP u w'->Q (.panic [{ v:=u,recovered:=false }]) a w'):o.wpIn (Wd r) n P a w K Q:=by
 refine⟨fun _ _=>trivial,?_⟩
 rw[Oper.semAt_eq _ _ _ hd];rcases h with ⟨v,w',h1|⟨h1,rfl⟩,h2⟩|⟨f,us,h1,h2⟩|⟨u,h1,h2⟩
 ·rw[h1]; exact h2
 ·rw[h1]; exact h2
 ·rw[h1];refine⟨fun h=>(by cases h),JD (h2.mono ?_)⟩
  grind
 ·rw[h1]; exact hQ u w h2
def zj(ho:MY P own o=some ao):∀c,o.op ≠ .defer c:=by
 intro c h;simp_all [MY]
theorem rI{f:Nat}(h:kJ P f=true)(us:Array Value):(callFunc f us).run P w = .ok (.enter f us) w:=by
 unfold kJ at h;split at h
 ·rename_i fn hfn;have h1:fn.name ≠ "runtime.NumGoroutine" := by grind
  have h2:¬fn.body=none:=by grind
  simp[callFunc,hfn,h1,h2]
 ·cases h
theorem fV.shut{c:ag}{v:Value}(h:fV j M w c v):fV j M w c.shut v:=by
 cases c<;>first|exact h|exact .plain h.dD
theorem fV.fZ{c:ag}{v:Value}(h:fV j M w c v):fV j M w c.fZ v:=by
 cases c<;>first|exact h|exact .plain h.dD|skip
 obtain⟨vs,rfl,hl,hc⟩:=h.lY;refine .agg (by grind) fun i c u hi hu=>?_
 rw[aY,aN] at hi;obtain⟨c0,hc0,rfl⟩:=hi;exact(hc i _ u hc0 hu).shut
theorem MZ{c:Call}{f0 f:Nat}{l:List gM}(hop:o.op = .call c)(hcal:c.callee = .value (.func f0))(h:MY P own o=some (.vM f l)):f0=f/\kJ P f=true/\uH c.args.toList=some l:=by
 simp only[MY,hop,Pp,hcal] at h;split at h
 ·obtain⟨l',hl,h⟩:=a8 h
  grind
 grind
theorem yg(hC:pd P C){c:Call}{f0 f:Nat}{l:List gM}(hop:o.op = .call c)(hcal:c.callee = .value (.func f0))(ho:MY P own o=some (.vM f l)){M0:aK}(h:dW C br M0 (.vM f l)=some x) :
  ∃xs sz n,x=(.slice (.own M0.length) xs,M0++[.tick sz n])/\∀ {j:J} {G:aK} {w:World} {a:Act} {p:Nat} {K:Act->World->Prop} {KP:Value->World->Prop},Rel j G w->su j G w->cu j G w br a->G[p]?=some .vm ->
   (∀v w',iG j G w (.slice (.own p) xs,G.set p (.tick sz n)) v w'->K (a.put o.dst v) w')->tw P o a w K KP:=by
 obtain⟨rfl,hent,hl⟩:=MZ hop hcal ho;simp only[dW] at h;unfold AD at h;split at h
 ·rename_i hc;obtain⟨hc1,hc2⟩:=hc;obtain⟨y,hy,h⟩:=bn h;split at h
  ·rename_i x1 x2 xs sz n e1 e2;cases h;refine⟨xs,sz,n,rfl,fun {j G w a p K KP} hr hG he hp hK=>?_⟩
   obtain⟨l1,l2⟩:=tU he hl
   have hy':C f0 (l.map fun x=>(x.ev br).fZ) []=some (.slice (.own 0) xs,[.tick sz n]):=by
    rw[hy,<-e1,<-e2]
   obtain⟨_,hcl⟩:=Oq (us:=c.args.map a.eval) hC hr hG hp hc1 hc2 hy' (by grind) fun i c' u hc' hu=>by
    rw[aY,aN] at hc';obtain⟨y,hy,rfl⟩:=hc';rw[ic,aN] at hu;obtain⟨q,hq,rfl⟩:=hu;exact(l2 i y q hy (by simpa using hq)).fZ
   exact .inr (.inl ⟨f0,_,by simp[execOp,hop,resolve,hcal,Act.eval,Deferred.ofValue,invoke,rI hent],hcl.mono fun e w' ⟨v,he,hv⟩ => .inl ⟨v,he,hK v w' hv⟩⟩)
  grind
 grind
theorem Db(hC:pd P C)(ho:MY P own o=some ao)(h:dW C br M ao=some x)(hr:Rel j M w)(hG:su j M w)(he:cu j M w br a){K:Act->World->Prop}
  (hK:∀v w',iG j M w x v w'->K (a.put o.dst v) w') {KP:Value->World->Prop} (hP:∀u w',GN j M w x u w'->KP u w'):tw P o a w K KP:=by
 have ho0:=ho;unfold MY at ho;split at ho
 case h_1 y hop =>
  obtain⟨z,hz,ho⟩:=a8 ho;cases ho;exact dV (BQ hr he (.inl hop) hz h) hK
 case h_2 y hop =>
  obtain⟨z,hz,ho⟩:=a8 ho;split at ho
  ·split at ho
   ·split at ho
    ·obtain⟨n,hn,ho⟩:=a8 ho;split at ho
     ·cases ho;exact dV (ac6 hr he hop hz h) hK
     ·cases ho;exact dV (BQ hr he (.inr hop) hz h) hK
    ·cases ho
   ·cases ho;exact dV (BQ hr he (.inr hop) hz h) hK
  ·cases ho;exact dV (BQ hr he (.inr hop) hz h) hK
 case h_3 c p q hop =>
  obtain⟨c',hc,ho⟩:=a8 ho;obtain⟨p',hp,ho⟩:=a8 ho;obtain⟨q',hq,ho⟩:=a8 ho;cases ho;exact dV (WV hr he hop hc hp hq h) hK
 case h_4 t hop =>
  obtain⟨i,hi,ho⟩:=a8 ho;obtain⟨z,hz,ho⟩:=a8 ho;obtain⟨l,hl,ho⟩:=a8 ho;split at ho
  ·split at ho
   ·split at ho
    ·obtain⟨n,hn,ho⟩:=a8 ho;cases ho;exact dV (WN hr hop hi hz hl h) hK
    ·cases ho
   ·cases ho;exact dV (Mh hr hop hi hz hl h) hK
  ·cases ho;exact dV (Mh hr hop hi hz hl h) hK
 case h_5 t y hop =>
  obtain⟨z,hz,ho⟩:=a8 ho;cases ho;exact dV (ac2 hr he hop hz h) hK
 case h_6 t parts hop =>
  split at ho
  ·rename_i fs hfs;obtain⟨i,hi,ho⟩:=a8 ho;obtain⟨z,hz,ho⟩:=a8 ho;obtain⟨l,hl,ho⟩:=a8 ho;obtain⟨ps,hps,ho⟩:=a8 ho;split at ho
   ·rename_i hall;cases ho;exact dV (Tf hr he hop hfs hi hz hl hps hall h) hK
   ·cases ho
  ·rename_i len e ht;obtain⟨i,hi,ho⟩:=a8 ho;obtain⟨z,hz,ho⟩:=a8 ho;obtain⟨l,hl,ho⟩:=a8 ho;obtain⟨n,hn,ho⟩:=a8 ho;obtain⟨ps,hps,ho⟩:=a8 ho;cases ho;exact dV (N6 hr he hop ht hi hz hl hn hps h) hK
  ·cases ho
 case h_7 t len parts hop =>
  split at ho
  ·rename_i e ht;obtain⟨i,hi,ho⟩:=a8 ho;obtain⟨l,hl,ho⟩:=a8 ho;split at ho
   ·rename_i hc;cases ho;split at h
    ·split at h
     ·exact dV (Tp hr he hop ht hi hl hc.1 hc.2.1 hc.2.2.1 h) hK
     ·exact dV (Mi hr he hop ht hi hl hc.1 hc.2.1 hc.2.2.1 h) hK
    ·exact dV (Mi hr he hop ht hi hl hc.1 hc.2.1 hc.2.2.1 h) hK
   ·cases ho
  ·cases ho
 case h_8 t y hop =>
  obtain⟨g,hg,ho⟩:=a8 ho;obtain⟨n,hn,ho⟩:=a8 ho;obtain⟨z,hz,ho⟩:=a8 ho;cases ho;cases g
  ·exact dV (Tq hr he hop hg hz h) hK
  ·exact dV (Tr hr he hop hg hn hz h) hK
 case h_9 t y y' hop =>
  obtain⟨n,hn,ho⟩:=a8 ho;obtain⟨z,hz,ho⟩:=a8 ho;obtain⟨z',hz',ho⟩:=a8 ho;cases ho;cases z with
  |tmp s =>
   dsimp only at h;split at h
   ·exact dV (Oe hr he hop hn hz hz' h) hK
   ·exact dV (Dc hr he hop hn hz hz' h) hK
  |_=>exact dV (Dc hr he hop hn hz hz' h) hK
 case h_10 y hop =>
  obtain⟨z,hz,ho⟩:=a8 ho;cases ho;exact dV (ac3 hr he hop hz h) hK
 case h_11 op t y y' t' hop =>
  obtain⟨z,hz,ho⟩:=a8 ho;obtain⟨z',hz',ho⟩:=a8 ho;split at ho
  ·obtain⟨b,hb,ho⟩:=a8 ho;cases ho;exact dV (Td hr he hop hb hz hz' h) hK
  ·obtain⟨b,hb,ho⟩:=a8 ho;cases ho;exact dV (Td hr he hop hb hz hz' h) hK
  ·rename_i ht;split at ho
   ·cases ho;exact dV (Tj (neg:=false) hr he hop ht hz hz' h) hK
   ·cases ho;exact dV (Tj (neg:=true) hr he hop ht hz hz' h) hK
   ·cases ho
  ·rename_i fs ht;split at ho
   ·cases ho
   ·rename_i hst;obtain⟨ks,hks,ho⟩:=a8 ho;have hst':P.stoodInHeld t=false:=by simpa using hst
    split at ho
    ·cases ho;exact dV (Th (neg:=false) hr he hop ht hst' hks hz hz' h) hK
    ·cases ho;exact dV (Th (neg:=true) hr he hop ht hst' hks hz hz' h) hK
    ·cases ho
  ·rename_i len e ht;split at ho
   ·split at ho
    ·rename_i hs;cases ho;exact dV (Ti hr he hop ht (by assumption) hs hz hz' h) hK
    ·cases ho
   ·cases ho
  ·cases ho
 case h_12 t y hop =>
  obtain⟨z,hz,ho⟩:=a8 ho;cases ho;exact dV (ac5 hr he hop hz h) hK
 case h_13 t y hop =>
  obtain⟨z,hz,ho⟩:=a8 ho;cases ho;exact dV (ac4 hr he hop hz h) hK
 case h_14 s d y hop =>
  obtain⟨z,hz,ho⟩:=a8 ho;split at ho
  ·rename_i hs hd;cases ho;exact dV (WO hr he hop hs hd hz h) hK
  ·rename_i hs hd;cases ho;exact dV (WX hr he hop hs hd hz h) hK
  ·rename_i e hs hd;split at ho
   ·rename_i hu;cases ho;exact dV (ac1 hr he hop hs hd hu hz h) hK
   ·cases ho
  ·cases ho
 case h_15 f first caps hop =>
  split at ho
  ·rename_i hf;obtain⟨l,hl,ho⟩:=a8 ho;cases ho;exact dV (ahP hr he hop hf hl h) hK
  ·split at ho
   ·rename_i hf;obtain⟨l,hl,ho⟩:=a8 ho;cases ho;exact dV (Te hr he hop hf hl h) hK
   ·cases ho
 case h_16 t y lo hi mx hop =>
  obtain⟨z,hz,ho⟩:=a8 ho;obtain⟨lo',hlo,ho⟩:=a8 ho;obtain⟨hi',hhi,ho⟩:=a8 ho;obtain⟨mx',hmx,ho⟩:=a8 ho;split at ho
  ·rename_i ht;split at ho
   ·rename_i hm;cases ho
    have:mx=none:=by
     grind [qS]
    subst this;exact dV (Oc hr he hop ht hz hlo hhi h) hK
   ·cases ho
  ·rename_i e ht;obtain⟨n,hn,ho⟩:=a8 ho;split at ho
   ·rename_i hc;cases ho;exact dV (Od hr he hop ht hn hz hlo hhi hmx hc.2 h) hK
   ·cases ho
  ·cases ho
 case h_17 s y i hop =>
  split at ho
  ·rename_i fs hs;obtain⟨f,hf,ho⟩:=a8 ho;obtain⟨n,hn,ho⟩:=a8 ho;obtain⟨z,hz,ho⟩:=a8 ho;split at ho
   ·rename_i hpos;cases ho;exact dV (Tl hr he hop hs hf hn hpos hz h) hK
   ·cases ho
  ·cases ho
 case h_18 s y i hop =>
  split at ho
  ·rename_i fs hs;obtain⟨f,hf,ho⟩:=a8 ho;obtain⟨g,hg,ho⟩:=a8 ho;obtain⟨n,hn,ho⟩:=a8 ho;obtain⟨z,hz,ho⟩:=a8 ho;cases ho;cases g
   ·exact dV (N8 hr he hop hs hf hg hz h) hK
   ·exact dV (N9 hr he hop hs hf hg hn hz h) hK
  ·cases ho
 case h_19 t y i hop =>
  split at ho
  ·rename_i e ht;obtain⟨n,hn,ho⟩:=a8 ho;obtain⟨z,hz,ho⟩:=a8 ho;obtain⟨z',hz',ho⟩:=a8 ho;split at ho
   ·cases ho;exact dV (Tm hr he hop ht hn hz hz' h) hK
   ·cases ho
  ·rename_i len e ht;obtain⟨n,hn,ho⟩:=a8 ho;obtain⟨z,hz,ho⟩:=a8 ho;obtain⟨z',hz',ho⟩:=a8 ho;split at ho
   ·cases ho;exact dV (Oa hr he hop ht hn hz hz' h) hK
   ·cases ho
  ·cases ho
 case h_20 t y i hop =>
  split at ho
  ·rename_i ht;obtain⟨z,hz,ho⟩:=a8 ho;obtain⟨z',hz',ho⟩:=a8 ho;cases ho;exact dV (Ob hr he hop ht hz hz' h) hK
  ·cases ho
 case h_21 y i hop =>
  obtain⟨z,hz,ho⟩:=a8 ho;cases ho;exact dV (KH hr he hop hz h) hK
 case h_22 c hop =>
  unfold Pp at ho;split at ho
  ·rename_i f hcal;split at ho
   ·rename_i hent;obtain⟨l,hl,ho⟩:=a8 ho;cases ho;obtain⟨l1,l2⟩:=tU he hl;split at h
    ·simp only[dW] at h;obtain⟨_,hc⟩:=hC _ _ _ _ h;refine xH (by simp[execOp,hop,resolve,hcal,Act.eval,Deferred.ofValue,invoke,rI hent]) ((hc j w (c.args.map a.eval) hr hG (by simpa using l1) fun i c' u hc' hu=>?_)) hK hP
     grind
    split at h
    ·simp only[dW] at h;obtain⟨f1,f2,f3,f4⟩:=F2 (j:=j) (w:=w) ((l.map (gM.ev br)).flatMap ag.ids) hr
     obtain⟨_,hc⟩:=qT (us:=c.args.map a.eval) hC f2 (hG.mono f1) h (by simpa using l1) fun i c' u hc' hu=>by
      rw[aY,aN] at hc';obtain⟨y,hy,rfl⟩:=hc';rw[ic,aN] at hu;obtain⟨q,hq,rfl⟩:=hu;exact((l2 i y q hy (by simpa using hq)).yq hr f1 f2 f3 fun id hid=>f4 id (hZ.2 ⟨_,bR.2 ⟨y,aQ hy,rfl⟩,hid⟩)).fZ
     refine xH (by simp[execOp,hop,resolve,hcal,Act.eval,Deferred.ofValue,invoke,rI hent]) (hc.mono ?_) hK hP
     rintro e w' (⟨v,rfl,j2,g1,g2,g3⟩|⟨u,rfl,hu,j2,g1,g2⟩)
     ·exact .inl ⟨v,rfl,j2,g1,f1.trans g2,g3⟩
     ·exact .inr ⟨u,rfl,hu,j2,g1,f1.trans g2⟩
    split at h
    ·rename_i h1 h2 h3;rw[ak h1,ak h2,az h3] at ho0;obtain⟨xs,sz,n,rfl,hrun⟩:=yg hC hop hcal (by rw[ho0]) h
     obtain⟨j1,r1,x1⟩:=AE hr 1;refine hrun (p:=M.length) r1 (hG.mono x1) (he.mono x1) (by simp) fun v w' ⟨j',q1,q2,q3⟩=>hK v w' ⟨j',?_,?_,?_⟩
     ·simpa using q1
     ·simpa using x1.trans q2
     ·simpa using q3
    simp only[dW] at h
    obtain⟨_,hc⟩:=qT (us:=c.args.map a.eval) hC hr hG h (by simpa using l1) fun i c' u hc' hu=>by
     rw[aY,aN] at hc';obtain⟨y,hy,rfl⟩:=hc';rw[ic,aN] at hu;obtain⟨q,hq,rfl⟩:=hu;exact(l2 i y q hy (by simpa using hq)).fZ
    exact xH (by simp[execOp,hop,resolve,hcal,Act.eval,Deferred.ofValue,invoke,rI hent]) hc hK hP
   ·cases ho
  ·rename_i t hcal;obtain⟨l,hl,ho⟩:=a8 ho;cases ho;obtain⟨l1,l2⟩:=tU he hl;have hsz:l.length=c.args.size:=by simpa using l1
   simp only[dW] at h;split at h
   ·rename_i g caps hg;have hgr:=he.at' t;simp only[gM.ev] at hg;rw[hg] at hgr;obtain⟨vs,hvs,hcl,hcv⟩:=hgr.si;have hev:a.eval (.tmp t) = .func (.func g) #[] vs:=hvs
    obtain⟨hent,hc⟩:=qT (us:=c.args.map a.eval++vs) hC hr hG h (by simp; omega) fun i c' u hc' hu=>by
     rcases bG i l.length with hi|hi
     ·rw[bj (by simpa using hi),aY,aN] at hc'
      obtain⟨y,hy,rfl⟩:=hc';rw[cp (by simp; omega),ic,aN] at hu
      obtain⟨q,hq,rfl⟩:=hu;exact(l2 i y q hy (by simpa using hq)).fZ
     grind
    exact xH (by simp[execOp,hop,resolve,hcal,hev,Deferred.ofValue,invoke,rI hent]) hc hK hP
   ·rename_i g fs hg;have hgr:=he.at' t;simp only[gM.ev] at hg;rw[hg] at hgr;obtain⟨vs,hvs,hcl,hcv⟩:=hgr.Gg;have hev:a.eval (.tmp t) = .func (.func g) vs #[]:=hvs
    obtain⟨hent,hc⟩:=qT (us:=vs++c.args.map a.eval) hC hr hG h (by simp; omega) fun i c' u hc' hu=>by
     rcases bG i fs.length with hi|hi
     ·rw[bj hi] at hc';rw[cp (by omega)] at hu
      exact(hcv i c' u hc' hu).rep
     ·rw[bq hi,aY,aN] at hc';obtain⟨y,hy,rfl⟩:=hc';rw[Array.getElem?_append_right (by omega),ic,aN] at hu
      obtain⟨q,hq,rfl⟩:=hu;rw[<-hcl] at hq;exact(l2 _ y q hy (by simpa using hq)).fZ
    exact xH (by simp[execOp,hop,resolve,hcal,hev,Deferred.ofValue,invoke,rI hent]) hc hK hP
   ·rename_i rv hg;have hgr:=he.at' t;simp only[gM.ev] at hg;rw[hg] at hgr;split at h
    ·rename_i g;have hev:a.eval (.tmp t) = .func (.func g) #[] #[]:=hgr.Ms
     obtain⟨hent,hc⟩:=qT (us:=c.args.map a.eval) hC hr hG h (by simpa using l1) fun i c' u hc' hu=>by
      rw[aY,aN] at hc';obtain⟨y,hy,rfl⟩:=hc';rw[ic,aN] at hu;obtain⟨q,hq,rfl⟩:=hu;exact(l2 i y q hy (by simpa using hq)).fZ
     exact xH (by simp[execOp,hop,resolve,hcal,hev,Deferred.ofValue,invoke,rI hent]) hc hK hP
    ·cases h
   ·cases h
  ·rename_i hcal;split at ho
   ·rename_i y ha ht;obtain⟨t,ht0,ht⟩:=cV.1 ht;obtain⟨z,hz,ho⟩:=a8 ho;cases ho;exact dV (WR hr he hop hcal ha ht0 ht hz h) hK
   ·rename_i y e ha ht;obtain⟨t,ht0,ht⟩:=cV.1 ht;obtain⟨z,hz,ho⟩:=a8 ho;cases ho;exact dV (WS hr he hop hcal ha ht0 ht hz h) hK
   ·rename_i y k e ha ht;obtain⟨t,ht0,ht⟩:=cV.1 ht;obtain⟨z,hz,ho⟩:=a8 ho;cases ho;exact dV (WQ hr he hop hcal ha ht0 ht hz h) hK
   ·cases ho
  ·rename_i hcal;split at ho
   ·rename_i y y' t t' ha hat;split at ho
    ·rename_i e e' ht ht';obtain⟨n,hn,ho⟩:=a8 ho;obtain⟨z,hz,ho⟩:=a8 ho;obtain⟨z',hz',ho⟩:=a8 ho;split at ho
     ·rename_i hpos;cases ho;exact dV (Tg hr he hop hcal ha hat ht ht' hn hpos hz hz' h) hK
     ·cases ho
    ·cases ho
   ·cases ho
  ·rename_i hcal;split at ho
   ·rename_i y y' t t' ha hat;split at ho
    ·rename_i e kn ht ht';obtain⟨i,hi,ho⟩:=a8 ho;obtain⟨zv,hzv,ho⟩:=a8 ho;obtain⟨l,hl,ho⟩:=a8 ho;obtain⟨z,hz,ho⟩:=a8 ho;obtain⟨z',hz',ho⟩:=a8 ho;split at ho
     ·rename_i hc;obtain⟨d1,d2,d3,d4⟩:=hc;injection ho with hoo
      subst hoo;exact dV (KG hr he hop hcal ha hat ht ht' hi hzv hl d1 d2 d3 d4 hz hz' h) hK
     ·cases ho
    ·rename_i e e' ht ht';obtain⟨i,hi,ho⟩:=a8 ho;obtain⟨z,hz,ho⟩:=a8 ho;obtain⟨z',hz',ho⟩:=a8 ho;split at ho
     ·rename_i hc;cases ho;simp only[bm,bt] at hc;obtain⟨⟨⟨c1,c2⟩,c3⟩,c4⟩:=hc;obtain⟨zv,hzv,hzs⟩:=aN.1 c1;have hat':c.argTypes = #[t,t']:=by rw[<-hat]
      split at h
      ·split at h
       ·exact dV (KE hr he hop hcal ha hat' ht ht' hi hzv hzs c2 c3 c4 hz hz' h) hK
       ·exact dV (EO hr he hop hcal ha hat' ht ht' hi hzv hzs c2 c3 c4 hz hz' h) hK
      ·exact dV (EO hr he hop hcal ha hat' ht ht' hi hzv hzs c2 c3 c4 hz hz' h) hK
     ·cases ho
    ·cases ho
   ·cases ho
  ·rename_i hcal;split at ho
   ·rename_i y t ha hat;split at ho
    ·rename_i e ht;obtain⟨i,hi,ho⟩:=a8 ho;obtain⟨zv,hzv,ho⟩:=a8 ho;obtain⟨l,hl,ho⟩:=a8 ho;obtain⟨z,hz,ho⟩:=a8 ho;split at ho
     ·rename_i hc;cases ho;exact dV (N7 hr he hop hcal ha hat ht hi hzv hl hc.1 hz h) hK
     ·cases ho
    ·cases ho
   ·cases ho
  ·rename_i hcal;split at ho
   ·rename_i y y' ha;obtain⟨z,hz,ho⟩:=a8 ho;obtain⟨z',hz',ho⟩:=a8 ho;cases ho;exact dV (EP (mx:=true) hr he hop hcal ha hz hz' h) hK
   ·cases ho
  ·rename_i hcal;split at ho
   ·rename_i y y' ha;obtain⟨z,hz,ho⟩:=a8 ho;obtain⟨z',hz',ho⟩:=a8 ho;cases ho;exact dV (EP (mx:=false) hr he hop hcal ha hz hz' h) hK
   ·cases ho
  ·cases ho
 case h_23 t hop =>
  cases ho;exact dV (Ts hr hop h) hK
 case h_24 t m k ok hop =>
  split at ho
  ·rename_i kt et ht;obtain⟨fk,hfk,ho⟩:=a8 ho;obtain⟨ie,hi,ho⟩:=a8 ho;obtain⟨zv,hzv,ho⟩:=a8 ho;obtain⟨z,hz,ho⟩:=a8 ho;obtain⟨m',hm,ho⟩:=a8 ho;obtain⟨k',hk,ho⟩:=a8 ho;cases ho;exact dV (WT hr he hop ht hfk hi hzv hz hm hk h) hK
  ·cases ho
 case h_25 t m k y hop =>
  split at ho
  ·rename_i kt et ht;obtain⟨fk,hfk,ho⟩:=a8 ho;obtain⟨m',hm,ho⟩:=a8 ho;obtain⟨k',hk,ho⟩:=a8 ho;obtain⟨y',hy,ho⟩:=a8 ho;cases ho;exact dV (Tx hr he (.inl hop) ht hfk hm hk (cF he hy) h) hK
  ·cases ho
 case h_26 t y hop =>
  split at ho
  ·rename_i ht;obtain⟨z,hz,ho⟩:=a8 ho;cases ho;exact dV (WW hr he hop ht hz h) hK
  ·cases ho
 case h_27 y hop =>
  obtain⟨z,hz,ho⟩:=a8 ho;cases ho;exact dV (Tu hr he hop hz h) hK
 case h_28 t y hop =>
  obtain⟨z,hz,ho⟩:=a8 ho;split at ho
  ·cases ho
  ·rename_i d hd hu;cases ho;exact dV (Tn hr he hop hu (fun _=>hd _) hz h) hK
  ·cases ho
 case h_29 y hop =>
  obtain⟨z,hz,ho⟩:=a8 ho;cases ho;obtain⟨u,h1,h2⟩:=Tv (P:=P) hr he hop hz h;exact .inr (.inr ⟨u,h1,hP u w h2⟩)
 case h_30 t m k y hop =>
  split at ho
  ·rename_i kt et ht;obtain⟨fk,hfk,ho⟩:=a8 ho;obtain⟨m',hm,ho⟩:=a8 ho;obtain⟨k',hk,ho⟩:=a8 ho;obtain⟨y',hy,ho⟩:=a8 ho;cases ho;exact dV (Tx hr he (.inr hop) ht hfk hm hk (Tz he hy) h) hK
  ·cases ho
 case h_31 t y y' hop =>
  split at ho
  ·rename_i e ht;obtain⟨i,hi,ho⟩:=a8 ho;obtain⟨zv,hzv,ho⟩:=a8 ho;obtain⟨l,hl,ho⟩:=a8 ho;obtain⟨z,hz,ho⟩:=a8 ho;split at ho
   ·rename_i hc;obtain⟨hyy,c1,c2,c3⟩:=hc;injection ho with hoo
    subst hoo;have hyy:=Xm hyy;subst hyy;split at h
    ·split at h
     ·exact dV (WU hr he hop ht hi hzv hl hz c1 c2 c3 h) hK
     ·exact dV (Tt hr he hop ht hi hzv hl hz c1 c2 c3 h) hK
    ·exact dV (Tt hr he hop ht hi hzv hl hz c1 c2 c3 h) hK
   ·cases ho
  ·cases ho
 case h_32=>cases ho
end
section
variable {P:Program} {C:eL} {A:BZ}
def wV(a:Act)(d:Option Nat)(v:Value):(a.put d v).tmps.size=a.tmps.size:=by cases d<;>simp[Act.put]
theorem put_defers(a:Act)(d:Option Nat)(v:Value):(a.put d v).defers=a.defers:=by cases d<;>rfl
theorem zR{ops:Array Oper}{g:Bool}{o:Oper}{x:cK}(h:Lm P A ops g o=some x):MY P A.own o=some x.op/\x.dst=o.dst/\x.grow=g/\(∀d,o.dst=some d->d<A.n) /\
  ((o.guard=none/\x.guard=none)\/∃k want t,o.guard=some (k,want)/\x.guard=some (t,want)/\(ops[k]?).bind (·.dst)=some t/\t<A.n):=by
 obtain⟨op,hop,h⟩:=a8 h;split at h
 ·rename_i hd;have hd':∀d,o.dst=some d->d<A.n:=fun d e=>by grind [XJ]
  split at h
  ·grind
  ·obtain⟨t,ht,h⟩:=a8 h
   grind
 grind
def yK{ops:Array Oper}{o:Oper}{x:cK}{br:Env}{M:aK}{j:J}{w:World}{a:Act}(he:cu j M w br a)(hs:a.tmps.size=A.n)
  (hg:(o.guard=none/\x.guard=none)\/∃k want t,o.guard=some (k,want)/\x.guard=some (t,want)/\(ops[k]?).bind (·.dst)=some t/\t<A.n)
  (h:∀t want,x.guard=some (t,want)->il br t = .bool want):Region.wanted o (yielded ops a.tmps)=true:=by
 unfold Region.wanted;rcases hg with ⟨h1,_⟩|⟨k,want,t,h1,h2,h3,h4⟩
 ·rw[h1]
 ·have hv:=he.at' t;rw[h t _ h2] at hv;have hv:=hv.iY;simp_all [yielded]
theorem Fk{ops:Array Oper}{o:Oper}{x:cK}{br:Env}{M:aK}{j:J}{w:World}{a:Act}(he:cu j M w br a)(hs:a.tmps.size=A.n)
  (hg:(o.guard=none/\x.guard=none)\/∃k want t,o.guard=some (k,want)/\x.guard=some (t,want)/\(ops[k]?).bind (·.dst)=some t/\t<A.n)
  {t:Nat} {want:Bool} (hx:x.guard=some (t,want)) (h:il br t = .bool (!want)\/il br t = .tuple []):Region.wanted o (yielded ops a.tmps)=false:=by
 unfold Region.wanted;rcases hg with ⟨_,h1⟩|⟨k,want',t',h1,h2,h3,h4⟩
 ·grind
 ·rw[h2] at hx;injection hx with hx
  injection hx with e1 e2
  subst e1; subst e2;rw[h1];have hv:=he.at' t';have hget:a.tmps[t']?=some (a.tmps.getD t' undef):=by simp_all
  rcases h with h|h
  ·rw[h] at hv;rw[hv.iY] at hget;cases want'<;>simp[yielded,h3,hget]
  ·rw[h] at hv;obtain⟨vs,hvs,hl,_⟩:=hv.tq
   grind [yielded]
def DS{x:cK}{br:Env}{M:aK}{y:ag×aK}(h:pL C x br M=some y):dW C br M x.op=some y:=by
 rcases rB h with ⟨_,_,h⟩|⟨_,_,h⟩|⟨_,_,_,h⟩<;>exact h
def rJ:Xu->Exit
 | .normal => .normal
 | .exit i => .exit i
 | .ret => .ret
 | .oy v => .panic [{ v,recovered:=false }]
def fV.KA{j:J}{M:aK}{w:World}{u v:Value}(h:fV j M w (.oy u) v):False:=by
 cases h with
 |plain h=>cases h
def cu.nil{j j':J}{M M':aK}{w w':World}{br:Env}{a:Act}(h:cu j M w br a)(hx:Ext j M w j' M' w'):cu j' M' w' [] a:=⟨fun _ => .any _,h.gl.mono hx⟩
theorem xy(hC:pd P C){r:Option Nat}{n:Nat}{ops:Array Oper}{Q:Exit->Act->World->Prop}:∀ {grow:List Bool} (l:List Oper) (k:Nat),ops.toList.drop k=l->∀ {al:List cK},tz P A ops grow l=some al ->
  ∀ {br:Env} {M:aK} {x:Out},gP C al br M=some x->∀ {j:J} {w:World} {a:Act},Rel j M w->su j M w->cu j M w br a->a.tmps.size=A.n ->
  (∀a' w' j',Rel j' x.mem w'->cu j' x.mem w' x.br a'->Ext j M w j' x.mem w'->a'.tmps.size=A.n->a'.defers=a.defers->Q (rJ x.e) a' w')->wpOpsIn (Wd r) n P ops Q (List.range' k l.length) a w
 |grow,[],k,hk,al,hal,br,M,x,hx,j,w,a,hr,hG,he,hs,hQ=>by
  simp only[tz] at hal; cases hal;simp only[gP] at hx; cases hx;exact hQ a w j hr he (Ext.refl j M w) hs rfl
 |grow,o::rs,k,hk,al,hal,br,M,x,hx,j,w,a,hr,hG,he,hs,hQ=>by
  simp only[tz] at hal;obtain⟨xo,hxo,hal⟩:=a8 hal;obtain⟨xr,hxr,hal⟩:=a8 hal;cases hal;obtain⟨h1,h2,h3,h4,h5⟩:=zR hxo
  have hko:ops[k]?=some o:=by
   have:(ops.toList.drop k)[0]?=some o:=by rw[hk]; rfl
   rw[cG] at this
   grind
  have hkr:ops.toList.drop (k+1)=rs:=by
   rw[<-List.drop_drop,hk]; rfl
  simp only[av,List.range'_succ,wpOpsIn,hko];rcases pB hx with ⟨y,g1,g2,⟨hnp,g3⟩|⟨u0,_,g3,rfl⟩⟩|⟨t,want,g1,g2,g3⟩
  ·rw[az (yK he hs h5 g1)];refine tw.wpIn (KP:=fun _ _=>False) (zj h1) (Db hC h1 (DS g2) hr hG he ?_ ?_) fun u w' h=>h.elim
   ·rintro v w' ⟨j',q1,q2,q3⟩;refine xy hC rs (k+1) hkr hxr (x:=x) (by rw[<-h2]; omega) q1 (hG.mono q2) ((he.mono q2).put hs h4 (by omega)) (by rw[wV]; omega) fun a' w'' j'' p1 p2 p3 p4 p5=>?_
    exact hQ a' w'' j'' p1 p2 (q2.trans p3) p4 (p5.trans (put_defers _ _ _))
   ·rintro u w' ⟨hu,_⟩;rw[hu] at hnp; cases hnp
  ·rw[az (yK he hs h5 g1)];refine tw.wpIn (KP:=fun u w'=>u=u0/\∃j',Rel j' y.2 w'/\Ext j M w j' y.2 w') (zj h1) (Db hC h1 (DS g2) hr hG he ?_ ?_) ?_
   ·rintro v w' ⟨j',q1,q2,q3⟩;rw[g3] at q3;exact q3.KA.elim
   ·rintro u w' ⟨hu,h⟩;rw[g3] at hu; grind
   ·rintro u w' ⟨rfl,j',q1,q2⟩;exact hQ a w' j' q1 (he.nil q2) q2 hs rfl
  ·rw[ak (by rw[Fk he hs h5 g1 g2]; simp)]
   refine⟨fun _ _=>trivial,?_⟩
   refine xy hC rs (k+1) hkr hxr (x:=x) (by rw[<-h2]; omega) hr hG (he.put hs h4 (.tuple (vs := #[]) rfl fun i c v h=>by simp)) (by rw[wV]; omega) fun a' w'' j'' p1 p2 p3 p4 p5=>?_
   grind [put_defers]
theorem yx{acc:List Nat}{i:Nat}:∀ {es:List Edge},(wM acc es).testBit i=true->∃e,e∈es/\Region.binds .any e=true/\(e.on=i\/((nth acc e.on).getD 0).testBit i=true)
 | [],h=>by grind [wM]
 |e::r,h=>by
  rw[wM] at h;split at h
  ·rw[Nat.testBit_or,Nat.testBit_or,cJ,cJ] at h;rcases h with h|h|h
   ·obtain⟨e',h1,h2,h3⟩:=yx h
    grind
   ·grind
   grind
  ·obtain⟨e',h1,h2,h3⟩:=yx h
   grind
theorem Ch:∀(l:List Oper)(acc:List Nat),acc <+: Cg l acc/\∀(m:Nat)(o:Oper),l[m]?=some o->(Cg l acc)[acc.length+m]?=some (wM ((Cg l acc).take (acc.length+m)) o.after.toList)
 | [],acc=>⟨ia _,fun m o h=>by grind⟩
 |p::r,acc=>by
  rw[Cg];obtain⟨h1,h2⟩:=Ch r (acc++[wM acc p.after.toList]);have h3  := (jX _ _).trans h1;refine⟨h3,fun m o hm=>?_⟩
  cases m with
  |zero =>
   simp at hm; obtain⟨t,ht⟩:=h1
   grind
  |succ m =>
   grind
def B8{ops:List Oper}{i k:Nat}{o:Oper}(hk:ops[k]?=some o)(cr:∀e,e∈o.after.toList->Region.binds .any e=true->e.on<k)(h:ahead (qM ops) i k=true) :
  ∃e,e∈o.after.toList/\Region.binds .any e=true/\e.on<k/\(e.on=i\/ahead (qM ops) i e.on=true):=by
 have h1:=(Ch _ []).2 k o hk;simp at h1;unfold ahead at h;rw[eJ,show qM _=Cg _ _ from rfl,h1] at h
 obtain⟨e,h2,h3,h4⟩:=yx h;have h5:=cr e h2 h3;refine⟨e,h2,h3,h5,h4.imp id fun h=>?_⟩
 rw[eJ,bE h5] at h;unfold ahead;rw[eJ];exact h
def Down(ops:Array Oper)(L:Nat->Bool):Prop:=∀(k:Nat)(o:Oper)(e:Edge),ops[k]?=some o->L k=true->e∈o.after.toList->Region.binds .any e=true->L e.on=true
theorem B9{ops:Array Oper}{L:Nat->Bool}(hd:Down ops L)(cr:∀(k:Nat)(o:Oper)(e:Edge),ops[k]?=some o->e∈o.after.toList->Region.binds .any e=true->e.on<k) :
  ∀(k:Nat){i:Nat},ahead (qM ops.toList) i k=true->k<ops.size->L k=true->L i=true:=by
 intro k;induction k using Nat.strongRecOn with
 |_ k ih =>
  intro i h hk hL;have ho  := ba hk;obtain⟨e,h1,h2,h3,h4⟩:=B8 (by simp) (fun e h1 h2=>cr k _ e ho h1 h2) h
  have h5:=hd k _ e ho hL h1 h2
  grind
theorem GX{ops:Array Oper}{L:Nat->Bool}(hd:Down ops L)(cr:∀(k:Nat)(o:Oper)(e:Edge),ops[k]?=some o->e∈o.after.toList->Region.binds .any e=true->e.on<k)
  {k i:Nat} {o:Oper} (ho:ops[k]?=some o) (hr:∀e,e∈o.after.toList->Region.binds .any e=true->L e.on=true) (h:ahead (qM ops.toList) i k=true):L i=true:=by
 obtain⟨e,h1,h2,h3,h4⟩:=B8 (by grind) (fun e h1 h2=>cr k _ e ho h1 h2) h
 have h5:=hr e h1 h2;rcases h4 with rfl|h4
 ·omega
 grind [B9]
theorem cE{br env':Env}{x:gM}(h:∀t,t∈x.kZ->il br t=il env' t):x.ev br=x.ev env':=by
 cases x with
 |tmp t=>exact h t (by simp[gM.kZ])
 |lg v=>rfl
theorem oH{br env':Env}:∀ {l:List gM},(∀t,t∈l.flatMap gM.kZ->il br t=il env' t)->∀x,x∈l->x.ev br=x.ev env':=by grind [cE]
def se{br env':Env}{n:Nat}{x:Option gM}(h:∀t,t∈Ax x->il br t=il env' t):jc br n x=jc env' n x:=by
 cases x with
 |none=>rfl
 |some x=>unfold jc; simp only; rw[cE h]
theorem CB{br env':Env}:∀ {ps:List (Nat×Nat×gM)} {cs:List ag},(∀p,p∈ps->p.2.2.ev br=p.2.2.ev env')->lk br cs ps=lk env' cs ps
 | [],cs,_=>rfl
 |(off,n,x)::r,cs,h=>by
  unfold lk;rw[h (off,n,x) (by simp)]
  congr 1;funext new;split
  ·exact CB fun p hp=>h p (by grind)
  rfl
theorem yw{br env':Env}{sz:Nat}:∀ {ps:List gM},(∀p,p∈ps->p.ev br=p.ev env')->sG br sz ps=sG env' sz ps
 | [],_=>rfl
 |x::r,h=>by
  unfold sG;rw[h x (by simp),yw fun p hp=>h p (by grind)]
theorem DQ{br env':Env}{M:aK}{op:kE}(h:∀t,t∈op.kZ->il br t=il env' t):dW C br M op=dW C env' M op/\op.dS br=op.dS env':=by
 cases op<;>simp only[kE.kZ,bS] at h
 case mv x=>simp[dW,kE.dS,cE h]
 case own n x=>simp[dW,kE.dS,cE h]
 case pick c x y=>grind [dW,kE.dS,cE]
 case sO cs=>simp[dW,kE.dS]
 case box x=>simp[dW,kE.dS,cE h]
 case DV f l =>
  have:(l.map fun x=>(x.ev br).fZ)=l.map fun x=>(x.ev env').fZ:=bW fun x hx=>by rw[oH h x hx]
  simp only[dW,kE.dS,this,ky]
 case build z ps=>grind [dW,kE.dS,CB,cE]
 case lits n ps=>simp[dW,kE.dS,yw (ps:=ps) (oH h)]
 case Ex n ps=>simp[dW,kE.dS,yw (ps:=ps) (oH h)]
 case nz n x=>simp[dW,kE.dS,cE h]
 case js x=>simp[dW,kE.dS,cE h]
 case store n x y=>simp[dW,kE.dS,cE (x:=x) fun t ht=>h t (.inl ht),cE (x:=y) fun t ht=>h t (.inr ht)]
 case AO sz p n x y=>simp[dW,kE.dS,cE (x:=x) fun t ht=>h t (.inl ht),cE (x:=y) fun t ht=>h t (.inr ht)]
 case chk x=>simp[dW,kE.dS,cE h]
 case bin b x y=>grind [dW,kE.dS,cE]
 case XK ks n x y=>grind [dW,kE.dS,cE]
 case eqB n x y=>simp[dW,kE.dS,cE (x:=x) fun t ht=>h t (.inl ht),cE (x:=y) fun t ht=>h t (.inr ht)]
 case not x=>simp[dW,kE.dS,cE h]
 case neg x=>simp[dW,kE.dS,cE h]
 case conv k x=>simp[dW,kE.dS,cE h]
 case same x=>simp[dW,kE.dS,cE h]
 case fn f l=>simp only[dW,kE.dS,bW (oH h),ky]
 case AI x lo hi =>
  simp only[dW,kE.dS,cE (x:=x) fun t ht=>h t (.inl ht),se (br:=br) (env':=env') (x:=lo) fun t ht=>h t (.inr (.inl ht)),and_true]
  split
  ·rw[se (x:=hi) fun t ht=>h t (.inr (.inr ht))]
  ·rfl
 case AJ n x lo hi mx =>
  simp only[dW,kE.dS,cE (x:=x) fun t ht=>h t (.inl ht),se (br:=br) (env':=env') (x:=lo) fun t ht=>h t (.inr (.inl ht)),and_true]
  split
  ·rw[se (x:=hi) fun t ht=>h t (.inr (.inr (.inl ht)))]
   cases mx with
   |none=>rfl
   |some m=>simp only[cE (x:=m) fun t ht=>h t (.inr (.inr (.inr ht)))]
  ·rw[se (x:=hi) fun t ht=>h t (.inr (.inr (.inl ht)))]
   cases mx with
   |none=>rfl
   |some m=>simp only[cE (x:=m) fun t ht=>h t (.inr (.inr (.inr ht)))]
  ·rfl
 case kC n x=>simp[dW,kE.dS,cE h]
 case CA p n x=>simp[dW,kE.dS,cE h]
 case Cz p x=>simp[dW,kE.dS,cE h]
 case vQ n x y=>simp[dW,kE.dS,cE (x:=x) fun t ht=>h t (.inl ht),cE (x:=y) fun t ht=>h t (.inr ht)]
 case Af m n x y=>simp[dW,kE.dS,cE (x:=x) fun t ht=>h t (.inl ht),cE (x:=y) fun t ht=>h t (.inr ht)]
 case Ah x y=>grind [dW,kE.dS,cE]
 case extract x i=>simp[dW,kE.dS,cE h]
 case call f l =>
  have:(l.map fun x=>(x.ev br).fZ)=l.map fun x=>(x.ev env').fZ:=bW fun x hx=>by rw[oH h x hx]
  simp only[dW,kE.dS,this,ky]
 case vN f l =>
  have:(l.map fun x=>(x.ev br).fZ)=l.map fun x=>(x.ev env').fZ:=bW fun x hx=>by rw[oH (fun t ht=>h t (.inr ht)) x hx]
  simp only[dW,kE.dS,this,cE (x:=f) fun t ht=>h t (.inl ht),ky]
 case A5 f l=>simp only[dW,kE.dS,bW (oH h),ky]
 case vM f l =>
  have:(l.map fun x=>(x.ev br).fZ)=l.map fun x=>(x.ev env').fZ:=bW fun x hx=>by rw[oH h x hx]
  simp only[dW,kE.dS,this,ky]
 case zW n z x=>simp[dW,kE.dS,cE h]
 case lL f l =>
  have h1:(l.map fun x=>((x.ev br).yq M).fZ)=l.map fun x=>((x.ev env').yq M).fZ:=bW fun x hx=>by rw[oH h x hx]
  have h2:l.map (gM.ev br)=l.map (gM.ev env'):=bW (oH h);simp only[dW,kE.dS,h1,h2,ky]
 case SD x=>simp[dW,kE.dS,cE h]
 case Al x=>simp[dW,kE.dS,cE h]
 case append n b x y=>simp[dW,kE.dS,cE (x:=x) fun t ht=>h t (.inl ht),cE (x:=y) fun t ht=>h t (.inr ht)]
 case vo n b x y=>simp[dW,kE.dS,cE (x:=x) fun t ht=>h t (.inl ht),cE (x:=y) fun t ht=>h t (.inr ht)]
 case b2s x=>simp[dW,kE.dS,cE h]
 case mkMap=>simp[dW,kE.dS]
 case look fk z ok x y=>grind [dW,kE.dS,cE]
 case gv fk c x y=>grind [dW,kE.dS,cE]
 case NW x=>simp[dW,kE.dS,cE h]
 case Ot x=>simp[dW,kE.dS,cE h]
 case EM x=>simp[dW,kE.dS,cE h]
 case Au m x y=>simp[dW,kE.dS,cE (x:=x) fun t ht=>h t (.inl ht),cE (x:=y) fun t ht=>h t (.inr ht)]
 case xc a b c x y=>grind [dW,kE.dS,cE]
 case D1 a x y=>simp[dW,kE.dS,cE (x:=x) fun t ht=>h t (.inl ht),cE (x:=y) fun t ht=>h t (.inr ht)]
 case MV a=>simp[dW,kE.dS]
 case mkS z x=>simp[dW,kE.dS,cE h]
 case N2 z x=>simp[dW,kE.dS,cE h]
 case iface t x=>simp[dW,kE.dS,cE h]
 case raise x=>simp[dW,kE.dS,cE h]
theorem yW{f:Nat}{vs:List ag}{M:aK}{x:ag×aK}(h:aL C f vs M=some x)(hn:vs.flatMap ag.ids=[]):x.2=M/\∀M2,aL C f vs M2=some (x.1,M2):=by
 have hre:∀M,reach M []=[]:=fun M=>rfl
 unfold aL at h;rw[hn,hre] at h;split at h
 ·rename_i hf;obtain⟨B,hB,h⟩:=bn h;simp only[ke] at hB;cases hB;split at h
  ·obtain⟨y,hy,h⟩:=bn h;split at h
   ·rename_i hc;cases h;have hy2:y.2=[]:=cm hc.1;refine⟨by simp[mw],fun M2=>?_⟩
    unfold aL;rw[hn,hre,az hf];simp only[ke,bZ];rw[az (show lR M2 []=[] from rfl),hy,bZ,az hc,hy2]
    simp[mw]
   ·cases h
  ·cases h
 ·cases h
theorem GZ{op:kE}(hc:op.wI=true){br:Env}{M:aK}{x:ag×aK}(h:dW C br M op=some x)(hn:op.dS br=[]):x.2=M/\∀M2,dW C br M2 op=some (x.1,M2):=by
 cases op<;>simp only[kE.wI,af] at hc
 case call f l =>
  grind [dW,kE.dS,yW]
 case vN f l =>
  simp only[dW,kE.dS] at h hn ⊢;split at h<;>grind [yW]
theorem Mo{op:kE}(he:op.OT=false)(hl:op.OU=false){br:Env}{M:aK}{x:ag×aK}(h:dW C br M op=some x):x.2=M/\∀M2,dW C br M2 op=some (x.1,M2):=by
 cases op<;>simp only[kE.OT,kE.OU,reduceCtorEq] at he hl<;>simp only[dW] at h ⊢
 case AI y lo hi =>
  split at h
  ·rename_i s e;obtain⟨hh,h1,h⟩:=bn h;obtain⟨l,h2,h⟩:=bn h;obtain⟨hp,h⟩:=db h;cases h;simp_all
  ·cases h
 case AJ n y lo hi mx =>
  split at h
  ·rename_i tk xs e;obtain⟨hw,h⟩:=db h;obtain⟨hh,h1,h⟩:=bn h;obtain⟨l,h2,h⟩:=bn h;split at h
   ·obtain⟨hp,h⟩:=db h;cases h;simp_all
   ·split at h
    ·rename_i k m em;obtain⟨hp,h⟩:=db h;rcases kM h with ⟨hb,h⟩|⟨hb,h⟩<;>(cases h)
     ·simp_all
     ·exact⟨rfl,fun M2=>by rw[fY hw]; simp only[h1,h2,bZ,hb,nA]; exact fY hp⟩
    ·cases h
  ·rename_i id v0 sz' al ah e;obtain⟨hw,h⟩:=db h;obtain⟨hh,h1,h⟩:=bn h;obtain⟨l,h2,h⟩:=bn h;split at h
   ·obtain⟨hp,h⟩:=db h;rcases kM h with ⟨hb,h⟩|⟨hb,h⟩<;>(cases h)
    ·simp_all
    ·exact⟨rfl,fun M2=>by rw[fY hw]; simp only[h1,h2,bZ,hb,nA]; exact fY hp⟩
   ·split at h
    ·rename_i k m em;obtain⟨hp,h⟩:=db h;rcases kM h with ⟨hb,h⟩|⟨hb,h⟩
     ·cases h;simp_all
     ·rcases kM h with ⟨hb2,h⟩|⟨hb2,h⟩<;>(cases h)
      ·exact⟨rfl,fun M2=>by rw[fY hw]; grind [bZ,uZ,nA,fY]⟩
      ·exact⟨rfl,fun M2=>by rw[fY hw]; grind [bZ,nA,fY]⟩
    ·cases h
  ·cases h
 case vQ n y i =>
  split at h
  ·obtain⟨hp,h⟩:=db h;obtain⟨e,h1,h⟩:=bn h;split at h
   ·rename_i hw;cases h;simp_all
   ·cases h
  ·obtain⟨hp,h⟩:=db h;cases h;exact⟨rfl,fun M2=>by rw[fY hp]⟩
  ·cases h
 case Af m n y i =>
  split at h
  ·obtain⟨hp,h⟩:=db h;cases h;exact⟨rfl,fun M2=>by rw[fY hp]⟩
  ·obtain⟨hp,h⟩:=db h;cases h;exact⟨rfl,fun M2=>by rw[fY hp]⟩
  ·cases h
 case DV f l =>
  grind
 case Ah y i =>
  split at h
  ·obtain⟨hp,h⟩:=db h;obtain⟨e,h1,h⟩:=bn h;cases h;exact⟨rfl,fun M2=>by rw[fY hp,h1,bZ]⟩
  ·cases h
 case pick c y z =>
  split at h
  ·rcases kM h with ⟨rfl,h⟩|⟨rfl,h⟩<;>(cases h; exact⟨rfl,fun _=>rfl⟩)
  ·cases h
 case lits n ps =>
  obtain⟨l,h1,h⟩:=bn h;cases h;exact⟨rfl,fun M2=>by rw[h1,bZ]⟩
 case iface t y =>
  split at h
  ·cases h;exact⟨rfl,fun M2=>rfl⟩
  ·obtain⟨v,hv,h⟩:=bn h;cases h;exact⟨rfl,fun M2=>by rw[hv]; rfl⟩
 case mkS z y =>
  split at h
  ·obtain⟨hp,h⟩:=db h;cases h;exact⟨rfl,fun M2=>fY hp⟩
  ·cases h
 case raise y =>
  grind
 all_goals first
  |(cases h; exact⟨rfl,fun _=>rfl⟩)
  |(obtain⟨_,ha,h⟩:=bn h; cases h; exact⟨rfl,fun _=>by rw[ha]; rfl⟩)
  |(split at h<;>first
    |(cases h; exact⟨rfl,fun _=>rfl⟩)
    |(obtain⟨_,ha,h⟩:=bn h; cases h; exact⟨rfl,fun _=>by rw[ha]; rfl⟩)
    |cases h
    |grind)
theorem IB{M M2:aK}{id:Nat}{b:cA}(hp:M <+: M2\/M2 <+: M)(hid:id<M2.length)(hb:nth M id=some b):nth M2 id=some b:=by
 rw[eJ] at hb ⊢;rcases hp with ⟨t,rfl⟩|⟨t,rfl⟩
 ·rw[bj (aF hb)]; omega
 grind
theorem Ib{op:kE}(hl:op.OU=true){br:Env}{M:aK}{x:ag×aK}(h:dW C br M op=some x):x.2=M /\
  ∀ {M2:aK} (z:gM),(∀id b,id∈(z.ev br).hU->id<M2.length->nth M id=some b->nth M2 id=some b)->∀ {j:J} {w:World} {v:Value},(op = .js z\/(∃n,op = .nz n z)\/∃fk zr ok k,op = .look fk zr ok z k)->fV j M2 w (z.ev br) v->dW C br M2 op=some (x.1,M2):=by
 cases op<;>simp only[kE.OU,af] at hl
 case nz n y =>
  simp only[dW] at h ⊢;split at h
  ·rename_i id off e;split at h
   ·rename_i cs hM;split at h
    ·rename_i hle;cases h;refine⟨rfl,fun {M2} z hp {j w v} hz hr=>?_⟩
     have:z=y:=by rcases hz with hz|⟨n',hz⟩|⟨_,_,_,_,hz⟩<;>cases hz<;>rfl
     subst this;rw[e] at hr;obtain⟨b,hid,_⟩:=hr.pG;rw[hp _ _ (by rw[e]; simp[ag.hU]) hid hM]
     simp only;rw[az hle]
    ·cases h
   ·cases h
  ·grind
  ·rename_i id ver i off e;split at h
   ·rename_i sz v0 xs hM;split at h
    ·rename_i hv0;obtain⟨el,hel,h⟩:=bn h;split at h
     ·rename_i hle;cases h;refine⟨rfl,fun {M2} z hp {j w v} hz hr=>?_⟩
      have:z=y:=by rcases hz with hz|⟨n',hz⟩|⟨_,_,_,_,hz⟩<;>cases hz<;>rfl
      subst this;rw[e] at hr;obtain⟨_,hid,_⟩:=hr.sg;rw[hp _ _ (by rw[e]; simp[ag.hU]) hid hM]
      simp only[hel,bZ];rw[az hv0,az hle]
     ·cases h
    ·cases h
   ·cases h
  ·cases h
 case js y =>
  simp only[dW] at h ⊢;split at h
  ·rename_i id off e;split at h
   ·rename_i cs hM;obtain⟨c,hc,h⟩:=bn h;cases h;refine⟨rfl,fun {M2} z hp {j w v} hz hr=>?_⟩
    have:z=y:=by rcases hz with hz|⟨n',hz⟩|⟨_,_,_,_,hz⟩<;>cases hz<;>rfl
    subst this;rw[e] at hr;obtain⟨b,hid,_⟩:=hr.pG;rw[hp _ _ (by rw[e]; simp[ag.hU]) hid hM]
    simp only[hc,bZ]
   ·cases h
  ·obtain⟨c,hc,h⟩:=bn h;cases h;exact⟨rfl,fun {M2} hp {j w v} z hz hr=>by simp only[hc,bZ]⟩
  ·rename_i id ver i off e;split at h
   ·rename_i sz v0 xs hM;split at h
    ·rename_i hv0;obtain⟨el,hel,h⟩:=bn h;obtain⟨c,hc,h⟩:=bn h;cases h;refine⟨rfl,fun {M2} z hp {j w v} hz hr=>?_⟩
     have:z=y:=by rcases hz with hz|⟨n',hz⟩|⟨_,_,_,_,hz⟩<;>cases hz<;>rfl
     subst this;rw[e] at hr;obtain⟨_,hid,_⟩:=hr.sg;rw[hp _ _ (by rw[e]; simp[ag.hU]) hid hM]
     simp only[hel,hc,bZ];rw[az hv0]
    ·cases h
   ·cases h
  ·cases h
 case look fk zr ok y k =>
  simp only[dW] at h ⊢;obtain⟨e,he,h⟩:=bn h;obtain⟨r,hr',h⟩:=bn h;cases h;refine⟨rfl,fun {M2} z hp {j w v} hz hr=>?_⟩
  have:z=y:=by rcases hz with hz|⟨n',hz⟩|⟨_,_,_,_,hz⟩<;>cases hz<;>rfl
  subst this
  have:mapOf M2 (z.ev br)=some e:=by
   unfold mapOf at he ⊢;split at he
   ·rename_i id e0;rw[e0] at hr;obtain⟨b,⟨ks,vs,hm⟩,_⟩:=hr.uY;split at he
    ·rename_i ks' vs' hM;rw[hp _ _ (by rw[e0]; simp[ag.hU]) (aF hm) hM]
     exact he
    ·cases he
   ·exact he
   ·cases he
  rw[this,bZ,hr',bZ]
end
section
variable {P:Program} {C:eL} {A:BZ}
def Jq(C:eL)(o:cK)(br:Env)(M:aK)(v:ag)(M':aK):Prop :=
 ((∀t want,o.guard=some (t,want)->il br t = .bool want)/\pL C o br M=some (v,M')) \/
 (∃t want,o.guard=some (t,want)/\(il br t = .bool (!want)\/il br t = .tuple [])/\v = .tuple []/\M'=M)
def oD(br:Env)(l:List cK)(vals:Nat->ag)(L:Nat->Bool):Nat->Env
 |0=>br
 |k+1=>match l[k]? with
  |some o=>if L k then rk (oD br l vals L k) o.dst (vals k) else oD br l vals L k
  |none=>oD br l vals L k
theorem zZ(br:Env)(o:cK)(r:List cK)(vals:Nat->ag):∀k,oD br (o::r) vals (fun _=>true) (k+1)=oD (rk br o.dst (vals 0)) r (fun i=>vals (i+1)) (fun _=>true) k
 |0=>rfl
 |k+1=>by
  rw[oD,zZ _ o r _ k];rfl
def Xy(l:List cK)(br:Env)(vals:Nat->ag)(mems:Nat->aK)(N:Nat)(x:Out):Prop :=
 (N=l.length/\(∀k,k<N->(vals k).jR=false)/\x=⟨.normal,oD br l vals (fun _=>true) N,mems N⟩) \/
 ∃n y v,N=n+1/\l[n]?=some y/\y.lets=true/\vals n = .oy v/\(∀k,k<n->(vals k).jR=false)/\x=⟨.oy v,[],mems N⟩
theorem trace:∀ {l:List cK} {br:Env} {M:aK} {x:Out},gP C l br M=some x->∃(N:Nat) (vals:Nat->ag) (mems:Nat->aK),N<=l.length/\mems 0=M /\
  (∀(k:Nat)(o:cK),k<N->l[k]?=some o->Jq C o (oD br l vals (fun _=>true) k) (mems k) (vals k) (mems (k+1)))/\Xy l br vals mems N x
 | [],br,M,x,h=>by
  simp only[gP] at h; injection h with h
  exact⟨0,fun _ => .any,fun _=>M,ar _,rfl,fun k o hk=>by simp,.inl ⟨rfl,fun k hk=>by rfl,h.symm⟩⟩
 |o::r,br,M,x,h=>by
  have key:∀(v:ag)(M':aK),Jq C o br M v M'->v.jR=false->gP C r (rk br o.dst v) M'=some x->∃(N:Nat) (vals:Nat->ag) (mems:Nat->aK),N<=(o::r).length/\mems 0=M /\
    (∀(k:Nat)(p:cK),k<N->(o::r)[k]?=some p->Jq C p (oD br (o::r) vals (fun _=>true) k) (mems k) (vals k) (mems (k+1)))/\Xy (o::r) br vals mems N x:=by
   intro v M' hs hnp hr;obtain⟨N,vals,mems,h0,h1,h2,h3⟩:=trace hr;refine⟨N+1,fun i=>match i with|0=>v|i+1=>vals i,fun i=>match i with|0=>M|i+1=>mems i,by simpa using h0,rfl,fun k p hk hp=>?_,?_⟩
   ·grind [oD,zZ]
   ·have np:∀n,(∀k,k<n->(vals k).jR=false)->∀k,k<n+1->((fun i=>match i with|0=>v|i+1=>vals i:Nat->ag) k).jR=false:=by
     grind
    rcases h3 with ⟨e1,e2,e3⟩|⟨n,y,u,e1,e2,e3,e4,e5,e6⟩
    ·refine .inl ⟨by simp[e1],np N e2,?_⟩
     rw[zZ]; omega
    ·exact .inr ⟨n+1,y,u,by rw[e1],by simpa using e2,e3,e4,np n e5,e6⟩
  rcases pB h with ⟨y,h1,h2,⟨h3,h4⟩|⟨v,h3,h4,rfl⟩⟩|⟨t,want,h1,h2,h3⟩
  ·exact key y.1 y.2 (.inl ⟨h1,h2⟩) h3 h4
  ·refine⟨1,fun _=>y.1,fun i=>match i with|0=>M|_=>y.2,by simp,rfl,fun k p hk hp=>?_,.inr ⟨0,o,v,rfl,rfl,h3,h4,fun k hk=>by omega,rfl⟩⟩
   have:k=0:=by omega
   subst this;simp at hp; subst hp;exact .inl ⟨h1,h2⟩
  ·exact key (.tuple []) M (.inr ⟨t,want,h1,h2,rfl,rfl⟩) rfl h3
section
variable {br:Env} {l:List cK} {vals:Nat->ag} {L L':Nat->Bool} {t:Nat}
def wr(l:List cK)(k t:Nat):Prop:=∃o,l[k]?=some o/\o.dst=some t
theorem Ls(k:Nat)(h:wr l k t)(hL:L k=true):il (oD br l vals L (k+1)) t=vals k:=by
 obtain⟨o,h1,h2⟩:=h;rw[oD];simp_all [rk,il]
theorem z6(k:Nat)(h:¬(wr l k t/\L k=true)):il (oD br l vals L (k+1)) t=il (oD br l vals L k) t:=by
 rw[oD];split
 ·rename_i o ho;split
  ·rename_i hk;unfold rk;split
   ·rename_i d hd;rw[il,ak];rintro rfl;exact h ⟨⟨o,ho,hd⟩,hk⟩
   rfl
  rfl
 rfl
def uM{i:Nat}:∀n,i<=n->(∀k,i<=k->k<n->¬(wr l k t/\L k=true))->il (oD br l vals L n) t=il (oD br l vals L i) t
 |0,hi,_=>by rw[show i=0 by omega]
 |n+1,hi,h=>by
  by_cases he:i=n+1
  ·rw[he]
  ·rw[z6 n (h n (by omega) (by simp))]
   exact uM n (by omega) fun k h1 h2=>h k h1 (by omega)
theorem xl:∀n,(∀k,k<n->wr l k t->L k=L' k)->il (oD br l vals L n) t=il (oD br l vals L' n) t
 |0,_=>rfl
 |n+1,h=>by
  have ih:=xl n fun k hk=>h k (by omega)
  by_cases hw:wr l n t
  ·cases hL:L n<;>grind [Ls,z6]
  grind [z6]
end
def left(L:Nat->Bool):Nat->Nat
 |0=>0
 |k+1=>left L k+if L k then 0 else 1
theorem Ev{L:Nat->Bool}:∀ {n},left L n=0->∀k,k<n->L k=true
 |0,_,k,hk=>by omega
 |n+1,h,k,hk=>by
  rw[left] at h
  by_cases he:k=n
  ·grind
  ·exact Ev (n:=n) (by omega) k (by omega)
theorem H5{L L':Nat->Bool}{i:Nat}(hi:L i=false)(hi':L' i=true)(hne:∀k,k≠i->L' k=L k):∀n,left L n=left L' n+if i<n then 1 else 0
 |0=>by rfl
 |n+1=>by
  have ih:=H5 hi hi' hne n;rw[left,left]
  grind
theorem xX{bs:List Nat}{l:List cK}:∀(r:List cK)(k m:Nat)(y:cK),(pK bs l k r)[m]?=some y->∃x,r[m]?=some x/\y.dst=x.dst/\y.op=x.op/\y.guard=x.guard
 | [],k,m,y,h=>by simp_all [pK]
 |x::r,k,m,y,h=>by
  rw[pK] at h;cases m with
  |zero=>grind
  |succ m =>
   obtain⟨z,h1,h2⟩:=xX r _ m y (by simpa using h)
   grind
def xY{bs:List Nat}{l:List cK}:∀(r:List cK)(k:Nat),(pK bs l k r).length=r.length
 | [],_=>rfl
 |x::r,k=>by rw[pK,av,xY r _,av]
theorem Ck{ops:Array Oper}:∀ {r:List Oper} {g:List Bool} {l:List cK},tz P A ops g r=some l->l.length=r.length/\∀(k:Nat)(o:Oper),r[k]?=some o->∃x b,l[k]?=some x/\Lm P A ops b o=some x
 | [],g,l,h=>by grind [tz]
 |o::r,g,l,h=>by
  obtain⟨x,hx,h⟩:=a8 h;obtain⟨l',hl,h⟩:=a8 h;injection h with h; obtain⟨h1,h2⟩:=Ck hl
  grind
structure Ord(ops:Array Oper)(l:List cK):Prop where
 len:l.length=ops.size
 Vd:∀(k:Nat)(o:Oper)(e:Edge),ops[k]?=some o->e∈o.after.toList->Region.binds .any e=true->e.on<k
 alone:∀(k:Nat)(y:cK),l[k]?=some y->y.wR=true->y.op.wI=true
 opl:∀(k:Nat)(y:cK),l[k]?=some y->KC y.op=true
 XO:∀(k i:Nat)(y x:cK),l[k]?=some y->y.tI=true->y.grow=false->l[i]?=some x->x.op.OU=true->(i<k->ahead (qM ops.toList) i k=true)/\(k<i->ahead (qM ops.toList) k i=true)
 sep:∀(k i:Nat)(y x:cK),l[k]?=some y->y.sep≠[]->l[i]?=some x->x.op.OU=true->(k<i->ahead (qM ops.toList) k i=true)/\(i<k->ahead (qM ops.toList) i k=true\/∃z,x.op.Mw=some z/\z∈y.sep/\ahr l i k z=true)
 meet:∀(i k:Nat)(x y:cK),i<k->l[i]?=some x->l[k]?=some y->meet x y=true->ahead (qM ops.toList) i k=true
 stop:∀(i k:Nat)(y:cK),l[k]?=some y->y.lets=true->i<l.length->(k<i->ahead (qM ops.toList) k i=true)/\(i<k->ahead (qM ops.toList) i k=true\/∀x,l[i]?=some x->x.op.OT=false)
 eff:∀(i k:Nat)(x y:cK),i<k->l[i]?=some x->l[k]?=some y->x.tI=true->y.tI=true->ahead (qM ops.toList) i k=true\/(Bh ops l i=true/\Bh ops l k=true)
theorem ac7{ops:Array Oper}{l:List cK}(eU:l.length=ops.size)(h:Gn ops (qM ops.toList) l=true):Ord ops l:=by
 unfold Gn at h
 have hk:∀(k:Nat)(y:cK)(o:Oper),l[k]?=some y->ops[k]?=some o->(o.after.toList.all (fun e => !Region.binds .any e||decide (e.on<k))=true/\((!y.wR||y.op.wI)&&KC y.op)=true/\((!(y.tI && !y.grow)||fenced (qM ops.toList) l k)&&(y.sep.isEmpty||BT (qM ops.toList) l k y.sep))=true/\(!y.lets||K1 (qM ops.toList) l k)=true) /\
   ∀(i:Nat)(x:cK),i<k->l[i]?=some x->(!Go.Abs.meet x y||ahead (qM ops.toList) i k)=true/\(!(x.tI&&y.tI)||(ahead (qM ops.toList) i k||(Bh ops l i&&Bh ops l k)))=true:=by
  intro k y o hy ho;have h1:=bu.1 h k (fx.2 (aF hy));rw[eJ,hy,ho] at h1;rw[bm,bm,bm] at h1;obtain⟨⟨⟨a1,a2⟩,a3⟩,a45⟩:=h1;rw[bm] at a45;obtain⟨a5,a4⟩:=a45;refine⟨⟨a1,a2,a3,a5⟩,fun i x hi hx=>?_⟩
  have h2:=bu.1 a4 i (fx.2 hi);rw[eJ,hx] at h2;simpa[bm] using h2
 have hop:∀k,k<l.length->∃o,ops[k]?=some o:=fun k hk=>⟨ops[k]'(by omega),ba (by omega)⟩
 refine⟨eU,fun k o e ho he hb=>?_,fun k y hy hn=>?_,fun k y hy=>?_,fun k i y x hy hE hg hx hl=>?_,fun k i y x hy hsp hx hl=>?_,fun i k x y hi hx hy hm=>?_,fun i k y hy hl hi=>?_,fun i k x y hi hx hy hE hE'=>?_⟩
 ·grind
 ·grind
 ·obtain⟨o,ho⟩:=hop k (aF hy);have:=(hk k y o hy ho).1.2.1;rw[bm] at this;exact this.2
 ·obtain⟨o,ho⟩:=hop k (aF hy);have h1:=(bm _ _▸(hk k y o hy ho).1.2.2.1:_/\_).1;have h2:fenced (qM ops.toList) l k=true:=by simpa[hE,hg] using h1
  have h3:=bu.1 h2 i (fx.2 (aF hx));rw[eJ,hx] at h3;simp only[hl,cU,da] at h3;refine⟨fun hik=>by rw[az hik] at h3; exact h3,fun hki=>?_⟩
  rw[ak (by omega)] at h3
  have:¬i=k:=by omega
  simpa[this] using h3
 ·obtain⟨o,ho⟩:=hop k (aF hy);have h1:=(bm _ _▸(hk k y o hy ho).1.2.2.1:_/\_).2
  have h2:BT (qM ops.toList) l k y.sep=true:=by
   grind
  have h3:=bu.1 h2 i (fx.2 (aF hx));rw[eJ,hx] at h3;simp only[hl,cU,da] at h3;refine⟨fun hki=>?_,fun hik=>?_⟩
  ·have hne:(i==k)=false:=by simp; omega
   rw[hne,ak (by omega),da] at h3
   exact h3
  ·have hne:(i==k)=false:=by simp; omega
   rw[hne,az hik,da,cJ] at h3;rcases h3 with h3|h3
   ·exact .inl h3
   ·right;split at h3
    ·rename_i z hz;rw[bm] at h3;exact⟨z,hz,by simpa using h3.1,h3.2⟩
    ·cases h3
 ·obtain⟨o,ho⟩:=hop k (aF hy);have:=((hk k y o hy ho).2 i x hi hx).1;simpa[hm] using this
 ·obtain⟨o,ho⟩:=hop k (aF hy);have h1:=(hk k y o hy ho).1.2.2.2;rw[hl,cU,da] at h1;have h2:=bu.1 h1 i (fx.2 hi);refine⟨fun hki=>?_,fun hik=>?_⟩
  ·have hne:(i==k)=false:=by simp; omega
   rw[hne,ak (by omega),da] at h2
   exact h2
  ·have hne:(i==k)=false:=by simp; omega
   rw[hne,az hik,da,cJ] at h2;refine h2.imp id fun h3 x hx=>?_
   rw[eJ,hx] at h3;simpa using h3
 ·obtain⟨o,ho⟩:=hop k (aF hy);have:=((hk k y o hy ho).2 i x hi hx).2;simpa[hE,hE'] using this
structure FM(n:Nat)(mems:Nat->aK)(E A:Nat->Bool)(L:Nat->Bool)(q:Nat)(G:aK):Prop where
 qn:q<=n
 last:q=0\/∃p,q=p+1/\E p=true/\L p=true
 rest:∀k,q<=k->k<n->E k=true->L k=false
 len:G.length=(mems q).length
 at':∀id:Nat,G[id]?=(mems q)[id]?\/(G[id]?=some .vm/\∃k,k<q/\A k=true/\L k=false/\(mems k).length=id)
 un:∀k,k<q->A k=true->L k=false->G[(mems k).length]?=some .vm
theorem FM.full{n:Nat}{mems:Nat->aK}{E A L:Nat->Bool}{q:Nat}{G:aK}(g:FM n mems E A L q G)(h:∀k,k<q->A k=true->L k=true):G=mems q:=by
 apply cN;intro id;rcases g.at' _ with h1|⟨_,k,h1,h2,h3,_⟩
 ·omega
 grind
theorem fV.acT{j:J}{M:aK}{w:World}{x:ag}{v:Value}(h:fV j M w x v){id:Nat}(hid:id∈x.hU):M[id]?≠some .vm:=by
 intro hg;cases h with
 |plain h=>cases h<;>simp[ag.hU] at hid
 |c0=>simp_all [ag.hU]
 |own hk=>grind [ag.hU]
 |agg=>grind [ag.hU]
 |tuple=>simp[ag.hU] at hid
 |ptr _ hc=>grind [ag.hU]
 |jd=>simp_all [ag.hU]
 |func=>simp_all [ag.hU]
 |gD hc=>grind [ag.hU]
 |jx hc=>grind [ag.hU]
 |iB=>grind [ag.hU]
 |dg _ _ hM=>simp[ag.hU] at hid; subst hid; cases hM _ hg
 |im _ _ hM=>simp[ag.hU] at hid; subst hid; cases hM _ hg
 |rZ=>simp[ag.hU] at hid
 |jL hc=>grind [ag.hU]
 |any=>simp_all [ag.hU]
def vD{mems:Nat->aK}{i:Nat}:∀n,i<=n->(∀k,i<=k->k<n->mems k <+: mems (k+1))->mems i <+: mems n
 |0,hi,_=>by rw[show i=0 by omega]; simp
 |n+1,hi,h=>by
  by_cases he:i=n+1
  ·rw[he]; simp
  ·exact(vD n (by omega) fun k h1 h2=>h k h1 (by omega)).trans (h n (by omega) (by simp))
def cu.Da{j:J}{M:aK}{w:World}{br env':Env}{a:Act}(h:cu j M w br a)(he:∀t,il env' t=il br t):cu j M w env' a:=⟨fun t=>by rw[he t]; exact h.at' t,h.gl⟩
theorem IC(hmix:P.follows .mixedOrders=true)(hC:pd P C){rd:Option Nat}{nd:Nat}{id:Nat}{ops:Array Oper}{l0 l:List cK}(hl0:tz P A ops [] ops.toList=some l0)(hg:Aw ops l0=some l)
  {br:Env} {M:aK} {x:Out} (hx:gP C l br M=some x) {j:J} {w:World} {a:Act} (hr:Rel j M w) (hG:su j M w) (he:cu j M w br a) (hs:a.tmps.size=A.n) {Q:Exit->Act->World->Prop}
  (hQ:∀a' w' j',Rel j' x.mem w'->cu j' x.mem w' x.br a'->Ext j M w j' x.mem w'->a'.tmps.size=A.n->a'.defers=a.defers->Q (rJ x.e) a' w'):(Code.region id ops true).wpIn (Wd rd) nd P Q a w:=by
 obtain⟨c1,c2⟩:=Ck hl0;have hlen0:l0.length=ops.size:=by simpa using c1
 unfold Aw at hg;split at hg
 case isFalse=>cases hg
 rename_i hok;injection hg with hg
 rw[hg] at hok;have eU:l.length=ops.size:=by rw[<-hg,xY]; exact hlen0
 have od:=ac7 eU hok
 have hop:∀(k:Nat)(y:cK),l[k]?=some y->∃o x0 b,ops[k]?=some o/\Lm P A ops b o=some x0/\y.dst=x0.dst/\y.op=x0.op/\y.guard=x0.guard:=by
  intro k y hy;rw[<-hg] at hy;obtain⟨x0,h1,h2,h3,h4⟩:=xX _ _ _ _ hy;have hk:k<ops.size:=by rw[<-hlen0]; exact aF h1
  have ho:ops[k]?=some ops[k]:=ba hk;obtain⟨x1,b,h5,h6⟩:=c2 k ops[k] (by simp[hk])
  rw[h1] at h5; cases h5;exact⟨_,x0,b,ho,h6,h2,h3,h4⟩
 obtain⟨N,vals,mems,hN,m0,st,hxe⟩:=trace hx
 let E:Nat->Bool:=fun k=>match l[k]? with|some y=>y.tI|none=>false
 have hE:∀ {k:Nat} {y:cK},l[k]?=some y->E k=y.tI:=fun {k y} h=>by simp only[E,h]
 have hEs:∀ {k:Nat},E k=true->∃y,l[k]?=some y/\y.tI=true:=fun {k} h=>by
  simp only[E] at h;split at h
  ·exact⟨_,by assumption,h⟩
  ·cases h
 -- memory stays at what is no effect,and grows at what may
 have stays:∀k,k<N->E k=false->mems (k+1)=mems k:=by
  intro k hkN hEk;have hk:k<l.length:=by omega
  have hy:=aj hk;rw[hE hy] at hEk;rcases st k _ hkN hy with ⟨_,h⟩|⟨_,_,_,_,_,h⟩
  ·rcases rB h with ⟨hn,hi,h1⟩|⟨hn,_,h1⟩|⟨hn,_,_,h1⟩
   ·exact(GZ (od.alone k _ hy hn) h1 hi).1
   all_goals
    have hE0:l[k].op.OT=false:=by simpa[cK.tI,hn] using hEk
    cases hl:l[k].op.OU with
    |true=>exact(Ib hl h1).1
    |false=>exact(Mo hE0 hl h1).1
  ·exact h
 have grows:∀k (y:cK),k<N->l[k]?=some y->y.tI=true->y.grow=true->mems k <+: mems (k+1)\/(y.sep≠[]/\yD (oD br l vals (fun _=>true) k) (mems k) (mems (k+1)) y.sep):=by
  intro k y hkN hy hEy hgr;rcases st k y hkN hy with ⟨_,h⟩|⟨_,_,_,_,_,h⟩
  ·rcases rB h with ⟨hn,_,_⟩|⟨_,hg',_⟩|⟨_,_,hp,_⟩
   ·simp[cK.tI,hn] at hEy
   ·rw[hgr] at hg'; cases hg'
   ·exact hp
  ·rw[h]; exact .inl (ia _)
 let A0:Nat->Bool:=Bh ops l
 have hA:∀k,k<N->A0 k=true->∃(y:cK) (o:Oper) (V:Nat->ag) (B:cA),l[k]?=some y/\ops[k]?=some o/\y.guard=none/\E k=true/\vals k=V (mems k).length/\mems (k+1)=mems k++[B]/\(V (mems k).length).jR=false /\
   ∀ {env':Env} {j:J} {G:aK} {w:World} {a:Act} {p:Nat} {K:Act->World->Prop} {KP:Value->World->Prop},(∀t,t∈y.op.kZ->il env' t=il (oD br l vals (fun _=>true) k) t)->Rel j G w->su j G w->cu j G w env' a->G[p]?=some .vm ->
    (∀v w',iG j G w (V p,G.set p B) v w'->K (a.put o.dst v) w')->tw P o a w K KP:=by
  intro k hkN hAk;have hk:k<l.length:=by omega
  obtain⟨y,hy⟩:∃y,l[k]?=some y:=⟨_,aj hk⟩;obtain⟨o,ho⟩:∃o,ops[k]?=some o:=⟨_,ba (by omega)⟩
  obtain⟨o',x0,b,ho',hco,f1,f2,f3⟩:=hop k _ hy;rw[ho] at ho'; cases ho';obtain⟨g1,_⟩:=zR hco;rw[<-f2] at g1;simp only[A0,Bh,ho,eJ,hy,bm,Option.isNone_iff_eq_none] at hAk;obtain⟨k2,k3⟩:=hAk
  have h1:dW C (oD br l vals (fun _=>true) k) (mems k) y.op=some (vals k,mems (k+1)):=by
   rcases st k y hkN hy with ⟨_,h⟩|⟨t',want,h,_⟩
   ·rcases rB h with ⟨_,_,h1⟩|⟨_,_,h1⟩|⟨_,_,_,h1⟩<;>exact h1
   ·rw[k3] at h; cases h
  have hnm:y.op.wI=false->y.wR=false:=fun hc=>by
   cases hn:y.wR with
   |false=>rfl
   |true=>have:=od.alone k y hy hn; rw[hc] at this; cases this
  split at k2
  ·rename_i cs hcs;split at k2
   case h_2=>cases k2
   rename_i t hot;have hn:=hnm (by rw[hcs]; rfl)
   rw[hcs] at h1 g1;simp only[dW] at h1;injection h1 with h1
   refine⟨y,o,fun p => .ptr p 0,.cells cs,hy,ho,k3,by rw[hE hy]; simp[cK.tI,hn,hcs,kE.OT],(congrArg Prod.fst h1).symm,(congrArg Prod.snd h1).symm,rfl,fun {env' j G w a p K KP} _ hr hG he hp hK=>?_⟩
   obtain⟨us,tt,hRC,hRan⟩:=MO hot g1 a w;exact .inl ⟨_,_,hRan,hK _ _ (Hp hr hp (hRC _ _ _) tt)⟩
  ·rename_i z hcs;split at k2
   case h_2=>cases k2
   rename_i t yy hot;have hn:=hnm (by rw[hcs]; rfl)
   rw[hcs] at h1 g1;simp only[dW] at h1;obtain⟨cs,hcc,h1⟩:=bn h1;injection h1 with h1
   have hz:dZ yy=some z:=by
    simp only[MY,hot] at g1;obtain⟨z',hz',g1⟩:=a8 g1;injection g1 with g1; cases g1
    exact hz'
   refine⟨y,o,fun p => .ptr p 0,.cells cs,hy,ho,k3,by rw[hE hy]; simp[cK.tI,hn,hcs,kE.OT],(congrArg Prod.fst h1).symm,(congrArg Prod.snd h1).symm,rfl,fun {env' j G w a p K KP} hag hr hG he hp hK=>?_⟩
   have hev:=cE (x:=z) (fun t ht=>hag t (by rw[hcs]; exact ht))
   exact .inl ⟨_,_,.inl (by simp[execOp,hot,Instr.box,newVar,newRow]),hK _ _ (Hp hr hp (th (cF he hz) (by rw[hev]; exact hcc)) t)⟩
  ·rename_i f args hcs;split at k2
   case h_2=>cases k2
   rename_i c hot;split at k2
   case h_2=>cases k2
   rename_i f0 hcal;have hn:=hnm (by rw[hcs]; rfl)
   rw[hcs] at h1 g1;obtain⟨xs,sz,n,hx0,_⟩:=yg hC hot hcal g1 h1;refine⟨y,o,fun p => .slice (.own p) xs,.tick sz n,hy,ho,k3,by rw[hE hy]; simp[cK.tI,hn,hcs,kE.OT],congrArg Prod.fst hx0,congrArg Prod.snd hx0,rfl,fun {env' j G w a p K KP} hag hr hG he hp hK=>?_⟩
   have h2:dW C env' (mems k) (.vM f args)=some (vals k,mems (k+1)):=by
    rw[(DQ (C:=C) (M:=mems k) (op := .vM f args) fun t ht=>hag t (by rw[hcs]; exact ht)).1]
    exact h1
   obtain⟨xs',sz',n',hx1,hrun⟩:=yg hC hot hcal g1 h2;rw[hx0] at hx1;injection hx1 with e1 e2
   injection e1 with _ e1
   have e3:=iu e2;injection e3 with e3 _
   injection e3 with e3 e4
   subst e1; subst e3; subst e4;exact hrun hr hG he hp hK
  ·cases k2
 have hAE:∀k,k<N->A0 k=true->E k=true:=fun k hk h=>by
  obtain⟨y,o,V,B,_,_,_,h1,_⟩:=hA k hk h;exact h1
 -- where nothing but boxes is made memory grows
 have pref:∀a b,a<=b->b<=N->(∀k,a<=k->k<b->E k=true->A0 k=true)->mems a <+: mems b:=fun a b hab hb hk=>vD b hab fun k h1 h2=>by
  cases hEk:E k with
  |false=>rw[stays k (by omega) hEk]; exact ia _
  |true =>
   obtain⟨y,o,V,B,_,_,_,_,_,h3,_⟩:=hA k (by omega) (hk k h1 h2 hEk)
   rw[h3]; exact jX _ _
 have same:∀a b,a<=b->b<=N->(∀k,a<=k->k<b->E k=false)->mems b=mems a:=by
  intro a b hab;induction b with
  |zero=>intro _ _; rw[show a=0 by omega]
  |succ b ih =>
   intro hb hk
   by_cases he:a=b+1
   ·rw[he]
   ·rw[stays b (by omega) (hk b (by omega) (by omega)),ih (by omega) (by omega) fun k h1 h2=>hk k h1 (by omega)]
 -- where a box of that length is made
 have W7:∀a b,a<=b->b<=N->(∀k,a<=k->k<b->E k=true->A0 k=true)->∀id,(mems a).length<=id->id<(mems b).length->∃k,a<=k/\k<b/\A0 k=true/\(mems k).length=id:=by
  intro a b hab;induction b with
  |zero=>intro _ _ id h1 h2; rw[show a=0 by omega] at h1; omega
  |succ b ih =>
   intro hb hk id h1 h2
   by_cases he:a=b+1
   ·rw[he] at h1; omega
   ·cases hEb:E b with
    |false =>
     rw[stays b (by omega) hEb] at h2
     obtain⟨k,g1,g2,g3⟩:=ih (by omega) (by omega) (fun k h1 h2=>hk k h1 (by omega)) id h1 h2
     exact⟨k,g1,by omega,g3⟩
    |true =>
     have hAb:=hk b (by omega) (by omega) hEb
     obtain⟨y,o,V,B,_,_,_,_,_,h3,_⟩:=hA b (by omega) hAb
     rw[h3] at h2;simp only[aJ,av,aG] at h2
     by_cases hid:id<(mems b).length
     ·obtain⟨k,g1,g2,g3⟩:=ih (by omega) (by omega) (fun k h1 h2=>hk k h1 (by omega)) id h1 hid
      exact⟨k,g1,by omega,g3⟩
     ·exact⟨b,by omega,by omega,hAb,by omega⟩
 refine wpIn_region_any hmix ?_
 have key:∀(fuel:Nat)(listed:Array Bool)(a1:Act)(w1:World),listed.size=ops.size->left (fun k=>listed.getD k false) l.length=fuel->Down ops (fun k=>listed.getD k false)->(∀k,k<l.length->listed.getD k false=true->k<N/\(vals k).jR=false) ->
   (∃j1 q G,FM l.length mems E A0 (fun k=>listed.getD k false) q G/\Rel j1 G w1/\cu j1 G w1 (oD br l vals (fun k=>listed.getD k false) l.length) a1 /\
    Ext j M w j1 G w1/\a1.tmps.size=A.n/\a1.defers=a.defers)->wpAnyIn (Wd rd) nd P .any ops Q fuel listed a1 w1:=by
  have ends:∀(listed:Array Bool)(a1:Act)(w1:World),(∀k,k<l.length->listed.getD k false=true) ->
    (∃j1 q G,FM l.length mems E A0 (fun k=>listed.getD k false) q G/\Rel j1 G w1/\cu j1 G w1 (oD br l vals (fun k=>listed.getD k false) l.length) a1 /\
    Ext j M w j1 G w1/\a1.tmps.size=A.n/\a1.defers=a.defers)->(∀k,k<l.length->listed.getD k false=true->k<N/\(vals k).jR=false)->Q .normal a1 w1:=by
   intro listed a1 w1 hall hI hin;obtain⟨j1,q,G,gp,r1,e1,x1,s1,d1⟩:=hI;rcases hxe with ⟨n1,_,n3⟩|⟨n,y,v,n1,n2,_,n4,_,_⟩
   ·have hm:G=mems l.length:=by
     have hqn:=gp.qn;rw[gp.full fun k hk _=>hall k (by omega),same q l.length gp.qn (by omega) fun k h1 h2=>?_]
     cases hEk:E k with
     |false=>rfl
     |true =>
      have:=gp.rest k h1 h2 hEk;rw[hall k h2] at this; cases this
    rw[hm] at r1 e1 x1;rw[n3,n1] at hQ;exact hQ a1 w1 j1 r1 (e1.Da fun t=>xl _ fun k hk _=>(hall k hk).symm) x1 s1 d1
   ·have hnl:=aF n2;have:=(hin n hnl (hall n hnl)).2;rw[n4] at this; cases this
  intro fuel;induction fuel with
  |zero =>
   intro listed a1 w1 hsz hleft hd hin hI;have hall:=Ev hleft;refine⟨?_,ends listed a1 w1 hall hI hin⟩;apply List.eq_nil_iff_forall_not_mem.2;intro i hi;obtain⟨h1,oi,h2,_⟩:=mem_ready.1 hi;have hil:i<l.length:=by rw[eU]; exact(fj.1 h2).1
   have h3:=hall i hil;simp only[cT] at h1 h3;have:i<listed.size:=by omega
   rw[ba this] at h1 h3;simp at h1 h3;rw[h1] at h3; cases h3
  |succ fuel ih =>
   intro listed a1 w1 hsz hleft hd hin hI;refine⟨fun hnil=>?_,fun i hi=>?_⟩
   ·refine ends listed a1 w1 ?_ hI hin;intro k;induction k using Nat.strongRecOn with
    |_ k ihk =>
     intro hk;cases hL:listed.getD k false with
     |true=>rfl
     |false =>
      exfalso;have hks:k<ops.size:=by omega
      have ho:ops[k]?=some ops[k]:=ba hks
      have:k∈Region.ready .any ops listed:=by
       refine mem_ready.2 ⟨?_,_,ho,fun e he hb=>?_⟩
       ·simp only[cT] at hL ⊢;have hkl:k<listed.size:=by omega
        rw[ba hkl] at hL ⊢;simpa using hL
       ·have:=od.Vd k _ e ho (by simpa using he) hb
        exact ihk e.on this (by omega)
      rw[hnil] at this;cases this
   ·obtain⟨hun0,o,ho,hall⟩:=mem_ready.1 hi;obtain⟨j1,q,G,gp,r1,e1,x1,s1,d1⟩:=hI;have his:i<ops.size:=(fj.1 ho).1;have hil:i<l.length:=by omega
    have hils:i<listed.size:=by omega
    have hLi:listed.getD i false=false:=by
     simp only[cT] at hun0 ⊢;rw[ba hils] at hun0 ⊢;simpa using hun0
    have hL'i:(listed.setIfInBounds i true).getD i false=true:=by
     simp only[cT,gG,hils,aE];rfl
    have hL'ne:∀k,k≠i->(listed.setIfInBounds i true).getD k false=listed.getD k false:=fun k hk=>by
     simp only[cT,eR (dA hk)]
    have hy:=aj hil;obtain⟨o',x0,b,ho',hco,f1,f2,f3⟩:=hop i _ hy;rw[ho] at ho'; cases ho';obtain⟨g1,g2,_,g4,g5⟩:=zR hco;rw[<-f2] at g1;rw[<-f1] at g2;rw[<-f3] at g5;generalize hyy:l[i]=y at *;have hall':∀e,e∈o.after.toList->Region.binds .any e=true->listed.getD e.on false=true:=fun e h1 h2=>hall e (by simpa using h1) h2
    have rdy:∀k,ahead (qM ops.toList) k i=true->listed.getD k false=true:=fun k h=>GX (L:=fun k=>listed.getD k false) hd od.Vd ho hall' h
    have nol:∀k,k<l.length->ahead (qM ops.toList) i k=true->listed.getD k false=false:=fun k hk h=>by
     cases hL:listed.getD k false with
     |false=>rfl
     |true =>
      have:=B9 (L:=fun k=>listed.getD k false) hd od.Vd k h (by omega) hL
      rw[hLi] at this; cases this
    have hiN:i<N:=by
     rcases bG i N with h|h
     ·exact h
     rcases hxe with ⟨n1,_,_⟩|⟨n,y',v,n1,n2,n3,n4,_,_⟩
     ·omega
     ·have h5:=rdy n ((od.stop i n y' n2 n3 hil).1 (by omega))
      have:=(hin n (aF n2) h5).2;rw[n4] at this; cases this
    have agree:∀t,t∈y.reads->il (oD br l vals (fun k=>listed.getD k false) l.length) t=il (oD br l vals (fun _=>true) i) t:=by
     intro t ht;refine(uM l.length (Nat.le_of_lt hil) fun k h1 h2=>?_).trans (xl i fun k hk hw=>?_)
     ·rintro⟨⟨x',hx',hdx⟩,hLk⟩
      by_cases hki:k=i
      ·subst hki; rw[hLi] at hLk; cases hLk
      ·have hm:meet y x'=true:=by simp[meet,hdx,ht]
       rw[nol k h2 (od.meet i k y x' (by omega) hy hx' hm)] at hLk
       cases hLk
     ·obtain⟨x',hx',hdx⟩:=hw;have hm:meet x' y=true:=by simp[meet,hdx,ht]
      exact rdy k (od.meet k i x' y hk hx' hy hm)
    have newEnv:∀t,il (oD br l vals (fun k=>(listed.setIfInBounds i true).getD k false) l.length) t=il (rk (oD br l vals (fun k=>listed.getD k false) l.length) y.dst (vals i)) t:=by
     intro t
     by_cases hdt:y.dst=some t
     ·rw[hdt];simp only[rk,il,aE];rw[uM (i:=i+1) l.length (by omega) fun k h1 h2=>?_]
      ·exact Ls i ⟨y,hy,hdt⟩ hL'i
      ·rintro⟨⟨x',hx',hdx⟩,hLk⟩;rw[hL'ne k (by omega)] at hLk
       have hm:meet y x'=true:=by simp[meet,hdt,hdx]
       rw[nol k h2 (od.meet i k y x' (by omega) hy hx' hm)] at hLk
       cases hLk
     ·have e2:il (rk (oD br l vals (fun k=>listed.getD k false) l.length) y.dst (vals i)) t=il (oD br l vals (fun k=>listed.getD k false) l.length) t:=by
       unfold rk;split
       ·rename_i d hd';rw[il,ak];rintro rfl;exact hdt hd'
       ·rfl
      rw[e2];refine xl _ fun k _ hw=>hL'ne k ?_
      rintro rfl;obtain⟨x',hx',hdx⟩:=hw;rw[hy] at hx'; cases hx';exact hdt hdx
    have hqN:q<=N:=by
     rcases gp.last with h|⟨p,hp1,hp2,hp3⟩
     ·omega
     ·obtain⟨z0,hz0,_⟩:=hEs hp2;have:=(hin p (aF hz0) hp3).1;omega
    -- effects that are ordered
    have effA:∀a b,a<b->E a=true->E b=true->(A0 a=false\/A0 b=false)->ahead (qM ops.toList) a b=true:=by
     intro a b hab ha hb hn;obtain⟨x',hx',hE'⟩:=hEs ha;obtain⟨y',hy',hE2⟩:=hEs hb;rcases od.eff a b x' y' hab hx' hy' hE' hE2 with h|⟨h1,h2⟩
     ·exact h
     ·rcases hn with hn|hn
      ·rw[show A0 a=true from h1] at hn; cases hn
      ·rw[show A0 b=true from h2] at hn; cases hn
    have inL:∀a b,b<l.length->ahead (qM ops.toList) a b=true->listed.getD b false=true->listed.getD a false=true:=fun a b hb h1 h2=>B9 (L:=fun k=>listed.getD k false) hd od.Vd b h1 (by omega) h2
    -- what is between one that is not done and the last that is
    have betw:∀k,k<q->E k=true->A0 k=true->listed.getD k false=false->∀m,k<=m->m<q->E m=true->A0 m=true:=by
     intro k hkq hEk hAk hLk m h1 h2 hEm;cases hAm:A0 m with
     |true=>rfl
     |false =>
      exfalso;rcases gp.last with h|⟨p,hp1,hp2,hp3⟩
      ·omega
      have hqn:=gp.qn
      have hkm:k<m:=by
       rcases bG k m with h|h
       ·exact h
       ·have:k=m:=by omega
        subst this; rw[hAk] at hAm; cases hAm
      have a1:=effA k m hkm hEk hEm (.inr hAm)
      have hLm:listed.getD m false=true:=by
       by_cases hmp:m=p
       ·rw[hmp]; exact hp3
       ·exact inL m p (by omega) (effA m p (by omega) hEm hp2 (.inl hAm)) hp3
      rw[inL k m (by omega) a1 hLm] at hLk; cases hLk
    have gC:E i=false->FM l.length mems E A0 (fun k=>(listed.setIfInBounds i true).getD k false) q G:=by
     intro hEi;have hne:∀k,E k=true->(listed.setIfInBounds i true).getD k false=listed.getD k false:=fun k hk=>hL'ne k (by rintro rfl; rw[hEi] at hk; cases hk)
     refine⟨gp.qn,gp.last.imp (fun h=>h) fun⟨p,h1,h2,h3⟩=>⟨p,h1,h2,by simp only[hne p h2]; exact h3⟩,fun k h1 h2 h3=>by simp only[hne k h3]; exact gp.rest k h1 h2 h3,gp.len,fun id=>?_,fun k h1 h2 h3=>?_⟩
     ·rcases gp.at' id with h|⟨h,k,h1,h2,h3,h4⟩
      ·exact .inl h
      ·exact .inr ⟨h,k,h1,h2,by simp only[hne k (hAE k (by omega) h2)]; exact h3,h4⟩
     ·simp only[hne k (hAE k (by omega) h2)] at h3
      exact gp.un k h1 h2 h3
    have gB:E i=true->A0 i=false->G=mems i/\FM l.length mems E A0 (fun k=>(listed.setIfInBounds i true).getD k false) (i+1) (mems (i+1)):=by
     intro hEi hAi
     have hqi:q<=i:=by
      rcases gp.last with h|⟨p,hp1,hp2,hp3⟩
      ·omega
      ·have hqn:=gp.qn;rcases bG i p with h|h
       ·rw[inL i p (by omega) (effA i p h hEi hp2 (.inl hAi)) hp3] at hLi; cases hLi
       ·by_cases hip:i=p
        ·subst hip; simp only[hLi] at hp3; cases hp3
        ·omega
     have done:∀k,k<i->E k=true->listed.getD k false=true:=fun k hk hEk=>rdy k (effA k i hk hEk hEi (.inr hAi))
     refine⟨?_,by omega,.inr ⟨i,rfl,hEi,hL'i⟩,fun k h1 h2 h3=>by simp only[hL'ne k (show k≠i by omega)]; exact gp.rest k (by omega) h2 h3,rfl,fun id => .inl rfl,fun k h1 h2 h3=>?_⟩
     ·rw[gp.full fun k hk hAk=>done k (by omega) (hAE k (by omega) hAk)]
      refine(same q i hqi (by omega) fun k h1 h2=>?_).symm
      cases hEk:E k with
      |false=>rfl
      |true =>
       have:=gp.rest k h1 (by omega) hEk
       simp only[done k h2 hEk] at this; cases this
     ·have hki:k≠i:=by rintro rfl; rw[hAi] at h2; cases h2
      simp only[hL'ne k hki,done k (by omega) (hAE k (by omega) h2)] at h3
      cases h3
    have down':Down ops (fun k=>(listed.setIfInBounds i true).getD k false):=by
     intro k p e hp hL he' hb
     have hsome:listed.getD e.on false=true:=by
      by_cases hki:k=i
      ·subst hki;rw[ho] at hp; cases hp;exact hall' e he' hb
      ·exact hd k p e hp (by show listed.getD k false=true; rw[<-hL'ne k hki]; exact hL) he' hb
     show(listed.setIfInBounds i true).getD e.on false=true
     by_cases hei:e.on=i
     ·rw[hei]; exact hL'i
     ·rw[hL'ne _ hei]; exact hsome
    have left':left (fun k=>(listed.setIfInBounds i true).getD k false) l.length=fuel:=by
     have:=H5 (L:=fun k=>listed.getD k false) (L':=fun k=>(listed.setIfInBounds i true).getD k false) (i:=i) hLi hL'i (fun k hk=>hL'ne k hk) l.length
     rw[az hil] at this;omega
    have hin':(vals i).jR=false->∀k,k<l.length->(listed.setIfInBounds i true).getD k false=true->k<N/\(vals k).jR=false:=by
     intro hnp k hk hL
     by_cases hki:k=i
     ·rw[hki]; exact⟨hiN,hnp⟩
     ·rw[hL'ne k hki] at hL; exact hin k hk hL
    have hgslot:∀t want,y.guard=some (t,want)->t∈y.reads:=fun t want h=>by simp[cK.reads,h]
    have hopslot:∀t,t∈y.op.kZ->t∈y.reads:=fun t h=>by simp[cK.reads,h]
    unfold wpOpIn;rw[ho];simp only;rcases st i y hiN hy with ⟨hgd,hstep⟩|⟨t,want,hgt,hgv,hv0,hm0⟩
    ·rw[az (yK e1 s1 g5 fun t want h=>by rw[agree t (hgslot t want h)]; exact hgd t want h)]
     cases hAi:A0 i with
     |true =>
      obtain⟨y',o',V,B,n1,n2,n3,hEi,n6,n7,npan,hruns⟩:=hA i hiN hAi;rw[hy] at n1; cases n1;rw[ho] at n2; cases n2;have hag:∀t,t∈y.op.kZ->il (oD br l vals (fun k=>listed.getD k false) l.length) t=il (oD br l vals (fun _=>true) i) t:=fun t ht=>agree t (hopslot t ht)
      have fin:∀q' G' G1 j1' p,FM l.length mems E A0 (fun k=>(listed.setIfInBounds i true).getD k false) q' G'->Rel j1' G1 w1->Ext j1 G w1 j1' G1 w1->G1[p]?=some .vm->p=(mems i).length->G'=G1.set p B ->
        o.wpIn (Wd rd) nd P a1 w1 (wpAnyIn (Wd rd) nd P .any ops Q fuel (listed.setIfInBounds i true)) Q:=by
       intro q' G' G1 j1' p hG' hr1 hx1 hp hpe hGe;refine tw.wpIn (KP:=fun _ _=>False) (zj g1) (hruns hag hr1 ((hG.mono x1).mono hx1) (e1.mono hx1) hp ?_) fun u w' h=>h.elim
       rintro v w' ⟨j',p1,p2,p3⟩;rw[<-hGe] at p1 p2 p3;simp only at p1 p2 p3;refine ih (listed.setIfInBounds i true) _ _ (by simpa using hsz) left' down' (hin' (by rw[n6]; exact npan)) ⟨j',q',G',hG',p1,?_,x1.trans (hx1.trans p2),by rw[wV]; exact s1,by rw[put_defers]; exact d1⟩
       refine cu.Da ?_ newEnv;rw[g2,n6,<-hpe];exact(e1.mono (hx1.trans p2)).put s1 g4 p3
      rcases bG i q with hiq|hqi
      ·-- its place is there
       have hu:=gp.un i hiq hAi hLi;have hpi:=pref (i+1) q (by omega) hqN fun k h1 h2=>betw i hiq hEi hAi hLi k (by omega) h2
       have hat:(mems q)[(mems i).length]?=some B:=by
        obtain⟨t',ht'⟩:=hpi;rw[<-ht',n7,cZ,bq (ar _)];simp
       refine fin q (G.set (mems i).length B) G j1 (mems i).length ⟨gp.qn,?_,fun k h1 h2 h3=>by simp only[hL'ne k (show k≠i by omega)]; exact gp.rest k h1 h2 h3,by simpa using gp.len,fun id=>?_,fun k h1 h2 h3=>?_⟩ r1 (Ext.refl _ _ _) hu rfl rfl
       ·refine gp.last.imp (fun h=>h) fun⟨p,h1,h2,h3⟩=>⟨p,h1,h2,?_⟩
        have hpi:p≠i:=by rintro rfl; simp only[hLi] at h3; cases h3
        simp only[hL'ne p hpi]; exact h3
       ·by_cases hid:(mems i).length=id
        ·subst hid;rw[dC (aF hu)];exact .inl hat.symm
        ·rw[cC hid];rcases gp.at' id with h|⟨h,k,h1,h2,h3,h4⟩
         ·exact .inl h
         ·have hki:k≠i:=by rintro rfl; exact hid h4
          refine .inr ⟨h,k,h1,h2,?_,h4⟩;simp only[hL'ne k hki]; exact h3
       ·have hki:k≠i:=by rintro rfl; simp only[hL'i] at h3; cases h3
        simp only[hL'ne k hki] at h3
        have hne:(mems i).length≠(mems k).length:=by
         rcases bG k i with h|h
         ·obtain⟨_,_,_,_,_,_,_,hEk,_,m7,_⟩:=hA k (by omega) h2
          have:=(pref (k+1) i (by omega) (by omega) fun m g1 g2=>betw k h1 hEk h2 h3 m (by omega) (by omega)).length_le
          rw[m7] at this;simp at this; omega
         ·have:=(pref (i+1) k (by omega) (by omega) fun m g1 g2=>betw i hiq hEi hAi hLi m (by omega) (by omega)).length_le
          rw[n7] at this;simp at this; omega
        rw[cC hne];exact gp.un k h1 h2 h3
      ·-- behind all that is made
       have allA:∀k,q<=k->k<i->E k=true->A0 k=true:=fun k h1 h2 h3=>by
        cases hAk:A0 k with
        |true=>rfl
        |false =>
         have:=gp.rest k h1 (by omega) h3
         simp only[rdy k (effA k i h2 h3 hEi (.inl hAk))] at this; cases this
       have hpi:=pref q i hqi (by omega) allA
       have hle:=hpi.length_le;have hln:=gp.len;have hsum:G.length+((mems i).length-(mems q).length)=(mems i).length:=by omega
       obtain⟨j1',hr1,hx1⟩:=AE r1 ((mems i).length-(mems q).length+1);have hgl:(G++List.replicate ((mems i).length-(mems q).length) cA.vm).length=(mems i).length:=by simp; omega
       have hG1:G++List.replicate ((mems i).length-(mems q).length+1) cA.vm=(G++List.replicate ((mems i).length-(mems q).length) cA.vm)++[cA.vm]:=by rw[nu,<-cZ]
       have hg1:(G++List.replicate ((mems i).length-(mems q).length+1) cA.vm)[(mems i).length]?=some .vm:=by
        rw[bq (by omega),jF,az (by omega)]
       have hset:∀(A:aK)(m:Nat),A.length=m->A++[B]=(A++[cA.vm]).set m B:=fun A m h=>by subst h; simp
       have hg2:G++List.replicate ((mems i).length-(mems q).length) cA.vm++[B]=(G++List.replicate ((mems i).length-(mems q).length+1) cA.vm).set (mems i).length B:=by
        rw[hG1]; exact hset _ _ hgl
       refine fin (i+1) (G++List.replicate ((mems i).length-(mems q).length) cA.vm++[B]) _ j1' (mems i).length ⟨by omega,.inr ⟨i,rfl,hEi,hL'i⟩,fun k h1 h2 h3=>by simp only[hL'ne k (show k≠i by omega)]; exact gp.rest k (by omega) h2 h3,by rw[n7]; simp; omega,fun id=>?_,fun k h1 h2 h3=>?_⟩ hr1 hx1 hg1 rfl hg2
       ·rcases bG id G.length with h|h
        ·have e1:(G++List.replicate ((mems i).length-(mems q).length) cA.vm++[B])[id]?=G[id]?:=by
          rw[cZ,bj h]
         have e2:(mems (i+1))[id]?=(mems q)[id]?:=by
          obtain⟨t',ht'⟩:=hpi;rw[n7,<-ht',cZ,bj (by omega)]
         rw[e1,e2];rcases gp.at' id with h|⟨h,k,h1,h2,h3,h4⟩
         ·exact .inl h
         ·exact .inr ⟨h,k,by omega,h2,by simp only[hL'ne k (show k≠i by omega)]; exact h3,h4⟩
        ·rcases bG id (mems i).length with h'|h'
         ·refine .inr ⟨?_,?_⟩
          ·rw[bj (by simp; omega),bq h,jF,az (by omega)]
          ·obtain⟨k,k1,k2,k3,k4⟩:=W7 q i hqi (by omega) allA id (by omega) h'
           exact⟨k,by omega,k3,by simp only[hL'ne k (show k≠i by omega)]; exact gp.rest k k1 (by omega) (hAE k (by omega) k3),k4⟩
         ·left;rw[n7,bq (by simp; omega),bq h']
          congr 1;simp; omega
       ·have hki:k≠i:=by rintro rfl; simp only[hL'i] at h3; cases h3
        simp only[hL'ne k hki] at h3;rcases bG k q with h|h
        ·have hu:=gp.un k h h2 h3;rw[cZ,bj (aF hu)];exact hu
        ·obtain⟨_,_,_,_,_,_,_,hEk,_,m7,_⟩:=hA k (by omega) h2
         have b1:=(pref (k+1) i (by omega) (by omega) fun m g1 g2=>allA m (by omega) g2).length_le
         have b2:=(pref q k h (by omega) fun m g1 g2=>allA m g1 (by omega)).length_le
         rw[m7] at b1;simp at b1;rw[bj (by simp; omega),bq (by omega),jF,az (by omega)]
     |false =>
     have hex:∃q' G',dW C (oD br l vals (fun k=>listed.getD k false) l.length) G y.op=some (vals i,G')/\FM l.length mems E A0 (fun k=>(listed.setIfInBounds i true).getD k false) q' G'/\(y.lets=true->G'=mems (i+1)):=by
      have pan0:E i=false->y.lets=true->G=mems (i+1):=by
       intro hEi cr
       have hqi:q<=i:=by
        rcases gp.last with h|⟨p,hp1,hp2,hp3⟩
        ·omega
        ·have hqn:=gp.qn;rcases bG i p with h|h
         ·rw[inL i p (by omega) ((od.stop p i y hy cr (by omega)).1 h) hp3] at hLi; cases hLi
         ·by_cases hip:i=p
          ·subst hip; simp only[hLi] at hp3; cases hp3
          ·omega
       have done:∀k,k<i->E k=true->listed.getD k false=true:=fun k hk hEk=>by
        obtain⟨x',hx',hE'⟩:=hEs hEk;rcases(od.stop k i y hy cr (by omega)).2 hk with h4|h4
        ·exact rdy k h4
        ·have:=h4 x' hx';simp[cK.tI,this] at hE'
       rw[stays i hiN hEi,gp.full fun k hk hAk=>done k (by omega) (hAE k (by omega) hAk)]
       refine(same q i hqi (by omega) fun k h1 h2=>?_).symm
       cases hEk:E k with
       |false=>rfl
       |true =>
        have:=gp.rest k h1 (by omega) hEk
        simp only[done k h2 hEk] at this; cases this
      obtain⟨q1,q2⟩:=DQ (C:=C) (M:=G) (op:=y.op) fun t ht=>agree t (hopslot t ht)
      rw[q1];rcases rB hstep with ⟨hn,hids,h1⟩|⟨hn,hgr,h1⟩|⟨hn,hgr,hp,h1⟩
      ·have hEi:E i=false:=by rw[hE hy]; simp[cK.tI,hn]
       exact⟨q,G,(GZ (od.alone i y hy hn) h1 hids).2 _,gC hEi,pan0 hEi⟩
      all_goals
       cases hEo:y.op.OT with
       |true =>
        have hEi:E i=true:=by rw[hE hy]; simp[cK.tI,hn,hEo]
        obtain⟨k1,k2⟩:=gB hEi hAi;exact⟨i+1,mems (i+1),by rw[k1]; exact h1,k2,fun _=>rfl⟩
       |false =>
        have hEi:E i=false:=by rw[hE hy]; simp[cK.tI,hEo]
        refine⟨q,G,?_,gC hEi,pan0 hEi⟩;cases hlo:y.op.OU with
        |false=>exact(Mo hEo hlo h1).2 _
        |true =>
         -- a load: the memory of the moment and that of the text agree at its box
         have hz:∃z,(y.op = .js z\/(∃n,y.op = .nz n z)\/∃fk zr ok k,y.op = .look fk zr ok z k)/\∀t,t∈z.kZ->t∈y.op.kZ:=by
          generalize y.op=op at hlo;cases op<;>simp only[kE.OU,af] at hlo
          case nz n z=>exact⟨z,.inr (.inl ⟨n,rfl⟩),fun t h=>h⟩
          case look fk zr ok z k=>exact⟨z,.inr (.inr ⟨fk,zr,ok,k,rfl⟩),fun t h=>by simp[kE.kZ,h]⟩
          case js z=>exact⟨z,.inl rfl,fun t h=>h⟩
         obtain⟨z,hz1,hz2⟩:=hz
         have hrep:∃v,fV j1 G w1 (z.ev (oD br l vals (fun _=>true) i)) v:=by
          rw[<-cE (x:=z) fun t ht=>agree t (hopslot t (hz2 t ht))]
          cases z with
          |tmp t=>exact⟨_,e1.at' t⟩
          |lg c =>
           have:=od.opl i y hy;rcases hz1 with hz1|⟨n,hz1⟩|⟨_,_,_,_,hz1⟩<;>(rw[hz1] at this; cases this)
         obtain⟨v,hv⟩:=hrep
         have hsame:∀id b,id∈(z.ev (oD br l vals (fun _=>true) i)).hU->id<G.length->nth (mems i) id=some b->nth G id=some b:=by
          intro id bx hidz hidl hbx;have hq3:=gp.rest;have hq4:=gp.last;have hqn:=gp.qn;rw[gp.len] at hidl
          have hG0:nth G id=nth (mems q) id:=by
           rw[eJ,eJ];rcases gp.at' id with h|⟨h,_⟩
           ·exact h
           ·exact absurd h (hv.acT hidz)
          rw[hG0];have hni:E i=false:=by rw[hE hy]; simp[cK.tI,hEo]
          by_cases hqi:q<=i
          ·refine IB (.inr (vD i hqi fun k h2 h3=>?_)) hidl hbx
           cases hEk:E k with
           |false=>rw[stays k (by omega) hEk]; exact ia _
           |true =>
            obtain⟨y',hz1',hz2'⟩:=hEs hEk
            have hunl:¬listed.getD k false=true:=by
             have h5:=hq3 k h2 (by omega) hEk
             rw[h5]; simp
            cases hzg:y'.grow with
            |false=>exact absurd (rdy k ((od.XO k i y' y hz1' hz2' hzg hy hlo).2 h3)) hunl
            |true =>
             rcases grows k y' (by omega) hz1' hz2' hzg with hg'|⟨hsp,_⟩
             ·exact hg'
             ·exact absurd (rdy k ((od.sep k i y' y hz1' hsp hy hlo).1 h3)) hunl
          ·have chain:∀n,i<=n->n<=q->nth (mems n) id=some bx:=by
            intro n;induction n with
            |zero=>intro h0 _; rw[show 0=i by omega]; exact hbx
            |succ n ihn =>
             intro h0 h0'
             by_cases he:i=n+1
             ·rw[<-he]; exact hbx
             ·have hb':=ihn (by omega) (by omega)
              cases hEk:E n with
              |false=>rw[stays n (by omega) hEk]; exact hb'
              |true =>
               obtain⟨y',hz1',hz2'⟩:=hEs hEk;cases hAn:A0 n with
               |true =>
                obtain⟨_,_,_,_,_,_,_,_,_,m7,_⟩:=hA n (by omega) hAn
                rw[eJ] at hb' ⊢;rw[m7,bj (aF hb')];exact hb'
               |false =>
               have hkni:n≠i:=by rintro rfl; rw[hEk] at hni; cases hni
               have hdone:listed.getD n false=true:=by
                rcases hq4 with h0|⟨p,hp1,hp2,hp3⟩
                ·omega
                ·by_cases hkp:n=p
                 ·subst hkp; exact hp3
                 ·exact inL n p (by omega) (effA n p (by omega) hEk hp2 (.inl hAn)) hp3
               have hnol:ahead (qM ops.toList) i n=true->False:=fun ha=>by
                have:=nol n (by omega) ha
                rw[this] at hdone; cases hdone
               cases hzg:y'.grow with
               |false=>exact absurd ((od.XO n i y' y hz1' hz2' hzg hy hlo).1 (by omega)) hnol
               |true =>
                rcases grows n y' (by omega) hz1' hz2' hzg with hg'|⟨hsp,hsa⟩
                ·obtain⟨t,ht⟩:=hg';rw[eJ] at hb' ⊢;rw[<-ht,bj (aF hb')];exact hb'
                ·rcases(od.sep n i y' y hz1' hsp hy hlo).2 (by omega) with ha|⟨zs,hzs,hmem,hnw⟩
                 ·exact(hnol ha).elim
                 ·have hslot:z = .tmp zs:=by
                   rcases hz1 with hz1|⟨m,hz1⟩|⟨_,_,_,_,hz1⟩<;>(rw[hz1] at hzs; cases z<;>simp[kE.Mw] at hzs; rw[hzs])
                  subst hslot
                  have hsame0:il (oD br l vals (fun _=>true) n) zs=il (oD br l vals (fun _=>true) i) zs:=by
                   refine uM n (by omega) fun p hp1 hp2=>?_
                   rintro⟨⟨x',hx',hdx⟩,_⟩;have:=bu.1 hnw p (fx.2 hp2);rw[eJ,hx'] at this;simp[hdx,Nat.not_lt.2 hp1] at this
                  have hat:∀ {sl:List Nat},yD (oD br l vals (fun _=>true) n) (mems n) (mems (n+1)) sl->zs∈sl->nth (mems (n+1)) id=nth (mems n) id:=by
                   intro sl;induction sl with
                   |nil=>intro _ h; cases h
                   |cons z0 r0 ih0 =>
                    intro hs hm;rcases bb.1 hm with rfl|hm
                    ·have h6:=hs.1;rw[hsame0] at h6;simp only[gM.ev] at hidz;split at h6
                     ·rename_i id' off' he';rw[he'] at hidz;simp[ag.hU] at hidz;subst hidz;exact h6
                     ·exact h6.elim
                    ·exact ih0 hs.2 hm
                  rw[hat hsa hmem]; exact hb'
           exact chain q (by omega) (ar _)
         exact(Ib hlo h1).2 z hsame hz1 hv
     obtain⟨q',G',haop,hG',hpan⟩:=hex;refine tw.wpIn (KP:=fun u w'=>GN j1 G w1 (vals i,G') u w') (zj g1) (Db hC g1 haop r1 (hG.mono x1) e1 ?_ fun u w' h=>h) ?_
     ·rintro v w' ⟨j',p1,p2,p3⟩
      have hnp:(vals i).jR=false:=by
       cases hvi:vals i<;>first|rfl|(rw[hvi] at p3; exact p3.KA.elim)
      refine ih (listed.setIfInBounds i true) _ w' (by simpa using hsz) left' down' (hin' hnp) ⟨j',q',G',hG',p1,?_,x1.trans p2,by rw[wV]; exact s1,by rw[put_defers]; exact d1⟩
      refine cu.Da ?_ newEnv;rw[g2];exact(e1.mono p2).put s1 g4 p3
     ·rintro u w' ⟨hu,j',p1,p2⟩;simp only at hu;rcases hxe with ⟨n1,n2,_⟩|⟨n,y',v,n1,n2,n3,n4,n5,n6⟩
      ·have:=n2 i hiN; rw[hu] at this; cases this
      ·have hin0:i=n:=by
        rcases bG i n with h|h
        ·have:=n5 i h; rw[hu] at this; cases this
        ·omega
       subst hin0;rw[hy] at n2; cases n2;rw[hu] at n4; cases n4;have hmem:G'=mems N:=by rw[hpan n3,n1]
       rw[hmem] at p1 p2;rw[n6] at hQ;exact hQ a1 w' j' p1 (e1.nil p2) (x1.trans p2) s1 d1
    ·rw[ak (by rw[Fk e1 s1 g5 hgt (by rw[agree t (hgslot t want hgt)]; exact hgv)]; simp)]
     have hmem:∃q',FM l.length mems E A0 (fun k=>(listed.setIfInBounds i true).getD k false) q' G:=by
      cases hEi:E i with
      |true =>
       have hAi:A0 i=false:=by
        cases hAi:A0 i with
        |false=>rfl
        |true =>
         obtain⟨y',_,_,_,n1,_,n5,_⟩:=hA i hiN hAi;rw[hy] at n1; cases n1;rw[n5] at hgt; cases hgt
       obtain⟨k1,k2⟩:=gB hEi hAi;rw[hm0,<-k1] at k2;exact⟨_,k2⟩
      |false=>exact⟨_,gC hEi⟩
     obtain⟨q',hG'⟩:=hmem;refine⟨fun _ _=>trivial,?_⟩
     refine ih (listed.setIfInBounds i true) _ w1 (by simpa using hsz) left' down' (hin' (by rw[hv0]; rfl)) ⟨j1,q',G,hG',r1,?_,x1,by rw[wV]; exact s1,by rw[put_defers]; exact d1⟩
     refine cu.Da ?_ newEnv;rw[g2,hv0];exact e1.put s1 g4 (.tuple (vs := #[]) rfl fun i c v h=>by simp at h)
 have q:Quiet w { w with drawn:=w.drawn+1 }:=⟨ar _,rfl,rfl,rfl⟩
 have hrep:∀k,(Array.replicate ops.size false).getD k false=false:=fun k=>by
  simp only[cT,Array.getElem?_replicate];split<;>rfl
 have hleft:left (fun k=>(Array.replicate ops.size false).getD k false) l.length=ops.size:=by
  have:∀n,left (fun k=>(Array.replicate ops.size false).getD k false) n=n:=by
   intro n;induction n with
   |zero=>rfl
   |succ n ihn=>rw[left,ihn,hrep n]; rfl
  rw[this,eU]
 refine key ops.size _ a _ (by simp) hleft (fun k o e _ hL=>by rw[show(fun k=>(Array.replicate ops.size false).getD k false) k=false from hrep k] at hL; cases hL) (fun k _ hL=>by rw[hrep k] at hL; cases hL) ⟨j,0,M,⟨cy _,.inl rfl,fun k _ _ _=>hrep k,by rw[m0],fun id => .inl (by rw[m0]),fun k h=>by omega⟩,?_,?_,?_,hs,rfl⟩
 ·exact hr.grow q.size rfl rfl rfl fun _ _=>rfl
 ·refine cu.Da (cu.mono he (Ext.grow q.size rfl rfl rfl fun _ _=>rfl)) fun t=>?_
  exact uM (i:=0) l.length (cy _) fun k _ _ hc=>by have h2:=hc.2; rw[hrep k] at h2; cases h2
 ·exact Ext.grow q.size rfl rfl rfl fun _ _=>rfl
end
def IE{F:Fence}{nd:Nat}{P:Program}{c:Code}{Q Q':Exit->Act->World->Prop}{n:Nat}{a:Act}{w:World}(h:Code.roundsIn F nd P c Q n a w)(hq:∀e a w,Q e a w->Q' e a w):Code.roundsIn F nd P c Q' n a w:=by
 induction n generalizing a w with
 |zero=>exact h
 |succ n ih =>
  refine wpIn_mono h fun e a' w' h'=>?_
  cases e<;>simp[Exit.then] at h' ⊢ <;> first|exact ih h'|exact hq _ _ _ h'
theorem oG{bM:Nat}{M:aK}(hb:bM<=M.length):(jO bM M).length=bM:=by grind [jO]
theorem kI{bM:Nat}{M:aK}{i:Nat}(hi:i<bM):(jO bM M)[i]?=(M[i]?).map (cA.back bM M):=by
 grind [jO]
theorem Pn(bM:Nat)(M:aK)(b:cA):(b.back bM M).tag=b.tag:=by cases b<;>rfl
def JA(bM:Nat)(M:aK)(b:cA):(b.back bM M).fixed=b.fixed:=by cases b<;>rfl
def JC{bM:Nat}{M:aK}{b:cA}(h:b.loose=true):b.back bM M=b:=by cases b<;>first|rfl|cases h
section
variable {bM:Nat} {M:aK} {j:J} {w:World} (hb:bM<=M.length)
include hb
def wu{b off:Nat}(h:nR j M w b off):nR j (jO bM M) w b off:=by
 refine⟨h.lt,fun id hid hj=>?_,h.nx⟩
 rw[oG hb] at hid;obtain⟨sz,n,h1,h2⟩:=h.ids _ (by omega) hj
 exact⟨sz,n,by rw[kI hid,h1]; rfl,h2⟩
def lX:∀b off,nR j M w b off->nR j (jO bM M) w b off/\w.cell? ⟨b,off,none⟩=w.cell? ⟨b,off,none⟩:=fun b off hs=>⟨wu hb hs,rfl⟩
def Lh{id:Nat}(cr:id<bM)(hM:∀bx,M[id]?=some bx->bx.loose=true):(jO bM M)[id]?=M[id]?:=by
 have h0:=aj (show id<M.length by omega)
 rw[kI cr,h0,cz,JC (hM _ h0)]
variable (hr:Rel j M w)
include hr
theorem zJ{x:ag}{v:Value}(h:fV j M w x v):fV j (jO bM M) w (x.jm bM M) v:=by
 cases h with
 |plain h =>
  have:x.jm bM M=x:=by cases h<;>rfl
  rw[this];exact .plain (h.mono (lX hb))
 |c0 A=>exact .c0 A
 | @own k xs v sz n hk hn hp ht =>
  simp only[ag.jm];split
  ·rename_i cr;exact .own (sz:=sz) (n:=n) (by rw[kI cr,hk]; rfl) hn (hp.mono (lX hb)) ht
  ·exact .plain (hp.mono (lX hb))
 |agg=>exact .any _
 |tuple=>exact .any _
 | @ptr id off b hid hc hj =>
  simp only[ag.jm];split
  ·rename_i cr;obtain⟨cs,hc⟩:=hc;exact .ptr (by rw[oG hb]; omega) ⟨_,by rw[kI cr,hc]; rfl⟩ hj
  ·exact .any _
 |jd h=>exact .jd fun k c hk=>⟨(h k c hk).1,wu hb (h k c hk).2.1,(h k c hk).2.2.mono (lX hb)⟩
 |func=>exact .any _
 | @gD id b hc hj =>
  simp only[ag.jm];split
  ·rename_i cr;obtain⟨ks,vs,hc⟩:=hc;exact .gD ⟨_,_,by rw[kI cr,hc]; rfl⟩ hj
  ·exact .any _
 | @jx id b hc hj =>
  simp only[ag.jm];split
  ·rename_i cr;obtain⟨ks,vs,hc⟩:=hc;exact .jx ⟨_,_,by rw[kI cr,hc]; rfl⟩ hj
  ·exact .any _
 |iB cr hf hx hw hk hv hks hvs =>
  exact .iB cr (fun i hi=>hf i (by rw[oG hb] at hi; omega)) hx hw hk hv (fun i k e h1 h2=>(hks i k e h1 h2).mono (lX hb)) (fun i k e h1 h2=>(hvs i k e h1 h2).mono (lX hb))
 | @jL t id off b hc hj =>
  simp only[ag.jm];split
  ·rename_i cr;obtain⟨cs,hc⟩:=hc;exact .jL ⟨_,by rw[kI cr,hc]; rfl⟩ hj
  ·exact .any _
 |rZ hl hd=>exact .rZ hl fun i c v h1 h2=>(hd i c v h1 h2).mono (lX hb)
 | @dg id ver sz0 lo hi v h0 hid hM hv =>
  simp only[ag.jm];split
  ·rename_i cr;have e:=Lh hb cr hM;exact .dg h0 (by rw[oG hb]; omega) (fun bx hbx=>hM bx (e▸hbx)) fun sz v' xs h=>hv sz v' xs (e▸h)
  ·rename_i hge;split
   ·rename_i sz v' xs hMi;split
    ·rename_i he;subst he;obtain⟨_,k2⟩:=hv sz v' xs hMi;obtain⟨rfl,l1,l2,⟨rfl,_,A,rfl⟩|⟨b,cap,vs,t,l3,rfl,l5,l6,l7⟩⟩:=k2 rfl
     ·simp only[List.take_nil,List.drop_nil];exact .plain (fF.nil _ _ _)
     obtain⟨b',vs',t',g1,g2,g3,g4,g5⟩:=hr.yb hMi l3;rw[l3] at g1; cases g1;refine .plain (xf g2 g4 g5 (fun b off h=>wu hb h) (fun off _=>⟨hr.lt id b hid l3,fun id' hid' hj'=>?_,hr.uC id b hid l3 off⟩) l1 l2 l5)
     rw[oG hb] at hid';have:=hr.inj id' id b (by omega) hid hj' l3
     omega
    ·exact .any _
   ·exact .any _
 | @im id ver i off v h0 hid hM hv =>
  simp only[ag.jm];split
  ·rename_i cr;have e:=Lh hb cr hM;exact .im h0 (by rw[oG hb]; omega) (fun bx hbx=>hM bx (e▸hbx)) fun sz v' xs h=>hv sz v' xs (e▸h)
  ·exact .any _
 |any v=>exact .any v
theorem iX{x:ag}{v:Value}(h:fV j M w x v):fV j (jO bM M) w (x.jz bM M) v:=by
 by_cases hag:∃f cs,x = .func f cs
 ·obtain⟨f,caps,rfl⟩:=hag;obtain⟨vs,rfl,hl,hc⟩:=h.si;refine .func (by grind) fun i c u hi hu=>?_
  rw[aY,aN] at hi;obtain⟨c0,hc0,rfl⟩:=hi
  grind [zJ]
 ·have e1:x.jz bM M=x.jm bM M:=by cases x<;>first|rfl|grind
  grind [zJ]
theorem zK{x:ag}{v:Value}(h:fV j M w x v):fV j (jO bM M) w (x.jN bM M) v:=by
 by_cases hag:∃cs,x = .agg cs
 ·obtain⟨cs,rfl⟩:=hag;obtain⟨vs,rfl,hl,hc⟩:=h.lY;refine .agg (by grind) fun i c u hi hu=>?_
  grind [iX]
 ·have e1:x.jN bM M=x.jz bM M:=by cases x<;>first|rfl|grind
  grind [iX]
theorem MT{x:ag}{v:Value}(h:fV j M w x v):fV j (jO bM M) w (x.nS bM M) v:=by
 by_cases hag:∃cs,x = .tuple cs
 ·obtain⟨cs,rfl⟩:=hag;obtain⟨vs,rfl,hl,hc⟩:=h.tq;refine .tuple (by grind) fun i c u hi hu=>?_
  grind [zK]
 ·have e1:x.nS bM M=x.jN bM M:=by cases x<;>first|rfl|grind
  grind [zK]
theorem MS{br:Env}{a:Act}(h:cu j M w br a):cu j (jO bM M) w (vL bM M br) a:=by
 refine⟨fun t=>?_,h.gl.gX fun b off hs=>wu hb hs⟩
 have:il (vL bM M br) t=(il br t).nS bM M:=by
  clear h hr hb;induction br with
  |nil=>rfl
  |cons p r ih =>
   grind [vL,il]
 rw[this];exact MT hb hr (h.at' t)
theorem Ce{x:ag}{v:Value}(h:fV j M w x v):fV j (jO bM M) w (x.jT bM M) v:=by
 cases x with
 |slice tk xs=>exact .plain (h.dD.mono (lX hb))
 |gD id =>
  simp only[ag.jT];split
  ·have:=zJ hb hr h;simp_all [ag.jm]
  ·split
   ·rename_i ks vs hM;split
    ·rename_i hp;simp only[bm,bu] at hp;obtain⟨b,_,hj,rfl⟩:=h.uY;obtain⟨b',hj',es,clock,g1,g2,g3,g4,g5⟩:=hr.fix id _ hM rfl;have:b'=b:=by grind
     subst this;have hid  := aF hM
     exact .iB (hr.lt id _ hid hj) (fun i hi he=>by
      rw[oG hb] at hi;have:=hr.inj i id _ (by omega) hid he hj
      omega) (hr.uC id _ hid hj) g1 g2 g3 (fun i k e h1 h2=>(g4 i k e h1 h2).mono (lX hb))
      fun i u e h1 h2=>(Bx.wS (g5 i u e h1 h2) (hp.1 u (aQ h1))).mono (lX hb)
    ·exact .any _
   ·exact .any _
 |func f caps=>exact iX hb hr h
 |agg cs=>exact iX hb hr h
 |tuple cs=>exact iX hb hr h
 |bool b=>exact iX hb hr h
 |int k n=>exact iX hb hr h
 |str s=>exact iX hb hr h
 |ptr id off=>exact iX hb hr h
 |jd cs=>exact iX hb hr h
 |jx id=>exact iX hb hr h
 |dg id v sz lo hi=>exact iX hb hr h
 |im id v i off=>exact iX hb hr h
 |rZ f fs=>exact iX hb hr h
 |jL t id off=>exact iX hb hr h
 |iB ks vs=>exact iX hb hr h
 |raw v=>exact iX hb hr h
 |oy v=>exact h.KA.elim
 |any=>exact .any _
theorem Cf{x:ag}{v:Value}(h:fV j M w x v):fV j (jO bM M) w (x.j9 bM M) v:=by
 by_cases hag:∃cs,x = .agg cs
 ·obtain⟨cs,rfl⟩:=hag;obtain⟨vs,rfl,hl,hc⟩:=h.lY;refine .agg (by grind) fun i c u hi hu=>?_
  grind [Ce]
 ·have e1:x.j9 bM M=x.jT bM M:=by cases x<;>first|rfl|grind
  grind [Ce]
theorem DT{x:ag}{v:Value}(h:fV j M w x v):fV j (jO bM M) w (x.mf bM M) v:=by
 by_cases hag:∃cs,x = .tuple cs
 ·obtain⟨cs,rfl⟩:=hag;obtain⟨vs,rfl,hl,hc⟩:=h.tq;refine .tuple (by grind) fun i c u hi hu=>?_
  grind [Cf]
 ·have e1:x.mf bM M=x.j9 bM M:=by cases x<;>first|rfl|grind
  grind [Cf]
theorem JB{b:Nat}{bx:cA}(h:Holds j M w b bx):Holds j (jO bM M) w b (bx.back bM M):=by
 cases bx with
 |cells cs =>
  obtain⟨vs,t,h1,h2,h3⟩:=h;refine⟨vs,t,h1,by grind,fun q c v hc hv=>?_⟩
  grind [iX]
 |tick=>trivial
 |map ks vs =>
  obtain⟨es,clock,h1,h2,h3,h4,h5⟩:=h;refine⟨es,clock,h1,h2,by grind,fun i k e hk he=>(h4 i k e hk he).mono (lX hb),fun i k e hk he=>?_⟩
  grind [zK]
 |nB s pos=>exact h
 |vm=>trivial
 |arr=>trivial
theorem yT:Rel j (jO bM M) w:=by
 have ln:=oG hb;refine⟨fun i i' b hi hi'=>hr.inj i i' b (by omega) (by omega),fun i b hi=>hr.lt i b (by omega),fun i bx h hf=>?_,fun i sz n b h hj=>?_,fun i sz ver xs h=>?_,fun i b hi=>hr.uC i b (by omega),hr.zG⟩
 ·have hi:i<bM:=by grind
  rw[kI hi,aN] at h;obtain⟨bx0,h1,rfl⟩:=h;obtain⟨b,g1,g2⟩:=hr.fix i bx0 h1 (by rw[<-JA bM M]; omega)
  grind [JB]
 ·have hi:i<bM:=by rw[<-ln]; grind
  rw[kI hi,aN] at h;obtain⟨bx,h1,h2⟩:=h;cases bx with
  |tick sz0 n0=>exact hr.tick i sz0 n0 b h1 hj
  |cells cs=>cases h2
  |map ks vs=>cases h2
  |nB s p=>cases h2
  |vm=>cases h2
  |arr sz v xs=>cases h2
 ·have hi:i<bM:=by rw[<-ln]; grind
  rw[kI hi,aN] at h;obtain⟨bx,h1,h2⟩:=h;cases bx with
  |arr sz0 v0 xs0 =>
   injection h2 with e1 e2 e3
   subst e1; subst e2; subst e3;obtain⟨g0,g1⟩|⟨b,vs,t,g1,g2,g3,g4,g5⟩:=hr.arr i _ _ _ h1
   ·grind
   exact .inr ⟨b,vs,t,g1,g2,g3,g4,fun q x k c hx hk=>(g5 q x k c hx hk).imp fun u hu=>⟨hu.1,hu.2.mono (lX hb)⟩⟩
  |cells cs=>cases h2
  |map ks vs=>cases h2
  |nB s p=>cases h2
  |vm=>cases h2
  |tick sz n=>cases h2
omit hr in
theorem wq{j0:J}{M0:aK}{w0:World}(h0:M0.length<=bM)(hx:Ext j0 M0 w0 j M w):Ext j0 M0 w0 j (jO bM M) w where
 len:=by rw[oG hb]; omega
 size:=hx.size
 os:=hx.os
 tape:=hx.tape
 output:=hx.output
 X:=hx.X
 fix:=fun i bx h hf=>by
  obtain⟨h1,bx',h2,h3⟩:=hx.fix i bx h hf
  grind [aF,kI,Pn,trans]
 tick:=fun i sz n h=>by
  obtain⟨n',h1,h2,h3⟩:=hx.tick i sz n h;have hi:i<bM:=by grind
  exact⟨n',h1,by rw[kI hi,h2]; rfl,h3⟩
 arr:=fun i sz v xs h=>by
  have hi:i<bM:=by grind
  rcases hx.arr i sz v xs h with ⟨n',g⟩|⟨v',xs',g1,g2⟩
  ·exact .inl ⟨n',by rw[kI hi,g]; rfl⟩
  ·exact .inr ⟨v',xs',by rw[kI hi,g1]; rfl,g2⟩
 tags:=hx.tags
 gX:=fun b off h=>⟨wu hb (hx.gX b off h).1,(hx.gX b off h).2⟩
 uk:=fun b cr h=>⟨(hx.uk b cr h).1,fun i hi=>(hx.uk b cr h).2 i (by rw[oG hb] at hi; omega)⟩
end
def UK(A:BZ)(j:J)(M:aK)(w:World)(a:Act)(o:Out):Exit->Act->World->Prop:=fun e a' w' =>
 e=rJ o.e/\a'.tmps.size=A.n/\a'.defers=a.defers/\∃j',Rel j' o.mem w'/\cu j' o.mem w' o.br a'/\Ext j M w j' o.mem w'
theorem AB{A:BZ}{j:J}{M:aK}{w:World}{a:Act}{o:Out}{live:List Nat}{a':Act}{w':World}{j':J}(h1:Rel j' o.mem w')(h2:cu j' o.mem w' o.br a')(h3:Ext j M w j' o.mem w')(h4:a'.tmps.size=A.n)
  (h5:a'.defers=a.defers):UK A j M w a (o.rb live) (rJ o.e) a' w':=by
 obtain⟨e,br,M'⟩:=o;cases e
 case normal=>exact⟨rfl,h4,h5,j',h1,h2.rb _,h3⟩
 all_goals exact⟨rfl,h4,h5,j',h1,h2,h3⟩
section
variable {P:Program} {C:eL} {A:BZ}
theorem mJ(hmix:P.follows .mixedOrders=true)(hC:pd P C){rd:Option Nat}{nd:Nat}:∀(c:Code){ac:cv},comp P A c=some ac->∀ {br:Env} {M:aK} {o:Out},fh C ac br M=some o->∀ {j:J} {w:World} {a:Act},Rel j M w->su j M w->cu j M w br a ->
  a.tmps.size=A.n->c.wpIn (Wd rd) nd P (UK A j M w a o) a w
 | .skip,ac,hc,br,M,o,h,j,w,a,hr,hG,he,hs=>by
  simp only[comp] at hc; cases hc;simp only[fh] at h; cases h;exact wpIn_skip ⟨rfl,hs,rfl,j,hr,he,Ext.refl j M w⟩
 | .exit id,ac,hc,br,M,o,h,j,w,a,hr,hG,he,hs=>by
  simp only[comp] at hc; cases hc;simp only[fh] at h; cases h;exact wpIn_exit ⟨rfl,hs,rfl,j,hr,he,Ext.refl j M w⟩
 | .ret,ac,hc,br,M,o,h,j,w,a,hr,hG,he,hs=>by
  simp only[comp] at hc; cases hc;simp only[fh] at h; cases h;exact wpIn_ret ⟨rfl,hs,rfl,j,hr,he,Ext.refl j M w⟩
 | .region id ops draw,ac,hc,br,M,o,h,j,w,a,hr,hG,he,hs=>by
  simp only[comp] at hc;cases draw with
  |true =>
   simp only[aE] at hc;obtain⟨l0,hl0,hc⟩:=a8 hc;obtain⟨l,hl,hc⟩:=a8 hc;cases hc;simp only[fh] at h;obtain⟨x,hx,h⟩:=bn h
   grind [IC,AB]
  |false =>
   simp only[af,aw] at hc;obtain⟨l,hl,hc⟩:=a8 hc;cases hc;simp only[fh] at h;obtain⟨x,hx,h⟩:=bn h;cases h;refine wpIn_region ?_;rw[nr];exact xy hC (grow:=[]) ops.toList 0 (by rfl) hl hx hr hG he hs fun a' w' j' h1 h2 h3 h4 h5=>AB h1 h2 h3 h4 h5
 | .seq x y,ac,hc,br,M,o,h,j,w,a,hr,hG,he,hs=>by
  simp only[comp] at hc;obtain⟨ax,hx,hc⟩:=a8 hc;obtain⟨ay,hy,hc⟩:=a8 hc;cases hc;simp only[fh] at h;obtain⟨o1,h1,h⟩:=bn h;refine wpIn_seq (wpIn_mono (mJ hmix hC x hx h1 hr hG he hs) ?_);rintro e a1 w1 ⟨he1,hs1,hd1,j1,r1,e1,x1⟩;rcases tF h with ⟨hn,h2⟩|⟨hn,h2⟩
  ·rw[hn] at he1;subst he1;refine wpIn_mono (mJ hmix hC y hy h2 r1 (hG.mono x1) e1 hs1) ?_;rintro e a2 w2 ⟨he2,hs2,hd2,j2,r2,e2,x2⟩;exact⟨he2,hs2,hd2.trans hd1,j2,r2,e2,x1.trans x2⟩
  ·subst h2;have:rJ o.e ≠ .normal:=by cases ho:o.e<;>simp_all [rJ]
   subst he1
   cases hx:rJ o.e<;>first
    |exact absurd hx this
    |(simp only[Exit.then]; exact⟨hx.symm,hs1,hd1,j1,r1,e1,x1⟩)
 | .cond c x y,ac,hc,br,M,o,h,j,w,a,hr,hG,he,hs=>by
  simp only[comp] at hc;obtain⟨cc,hcc,hc⟩:=a8 hc;obtain⟨ax,hx,hc⟩:=a8 hc;obtain⟨ay,hy,hc⟩:=a8 hc;cases hc;simp only[fh] at h;have h1:=cF he hcc;split at h
  ·rename_i t ht;rw[ht] at h1;rcases kM h with ⟨rfl,h⟩|⟨rfl,h⟩
   ·exact wpIn_cond_true h1.iY (mJ hmix hC x hx h hr hG he hs)
   ·exact wpIn_cond_false h1.iY (mJ hmix hC y hy h hr hG he hs)
  grind
 | .block id c,ac,hc,br,M,o,h,j,w,a,hr,hG,he,hs=>by
  simp only[comp] at hc;obtain⟨ax,hx,hc⟩:=a8 hc;cases hc;simp only[fh] at h;obtain⟨o1,h1,h⟩:=bn h;cases h;refine wpIn_block (wpIn_mono (mJ hmix hC c hx h1 hr hG he hs) ?_);rintro e a1 w1 ⟨he1,hs1,hd1,j1,r1,e1,x1⟩;subst he1;cases ho:o1.e with
  |normal=>simp only[rJ,Exit.inBlock]; refine⟨?_,hs1,hd1,j1,?_⟩<;>simp[zm,ho,rJ,r1,e1,x1]
  |ret=>simp only[rJ,Exit.inBlock]; refine⟨?_,hs1,hd1,j1,?_⟩<;>simp[zm,ho,rJ,r1,e1,x1]
  |oy v=>simp only[rJ,Exit.inBlock]; refine⟨?_,hs1,hd1,j1,?_⟩<;>simp[zm,ho,rJ,r1,e1,x1]
  |exit i =>
   simp only[rJ,Exit.inBlock]
   by_cases hi:i=id
   ·rw[az hi]; refine⟨?_,hs1,hd1,j1,?_⟩<;>simp[zm,ho,rJ,hi,r1,e1,x1]
   ·rw[ak hi]; refine⟨?_,hs1,hd1,j1,?_⟩<;>simp[zm,ho,rJ,hi,r1,e1,x1]
 | .loop c,ac,hc,br,M,o,h,j,w,a,hr,hG,he,hs=>by
  simp only[comp] at hc;obtain⟨ax,hx,hc⟩:=a8 hc;injection hc with hc
  obtain⟨g,hg,n,hn⟩:∃g:Nat->Nat->Nat,(∀p q,p<=q->p<=g p q/\g p q<=q)/\∃n,iter g (fh C ax) (find A.lp (lh c)) n br M=some o:=by
   unfold L5 at hc;split at hc<;>subst hc<;>simp only[fh] at h<;>obtain⟨n,hn⟩:=uw h
   ·exact⟨gR,fun p q h=>⟨h,ar _⟩,n,hn⟩
   ·exact⟨gL,fun p q h=>⟨ar _,h⟩,n,hn⟩
  refine wpIn_loop_rounds n ?_
  have key:∀n br M j1 w1 a1,iter g (fh C ax) (find A.lp (lh c)) n br M=some o->Rel j1 M w1->su j1 M w1->cu j1 M w1 br a1->a1.tmps.size=A.n ->
    Code.roundsIn (Wd rd) nd P c (UK A j1 M w1 a1 o) n a1 w1:=by
   intro n;induction n with
   |zero=>intro br M j1 w1 a1 h; cases h
   |succ n ih =>
    intro br M j1 w1 a1 h r1 hG1 e1 s1;rw[iter] at h;obtain⟨o1,h1,h⟩:=bn h;rw[roundsIn_succ];refine wpIn_mono (mJ hmix hC c hx h1 r1 hG1 (e1.rb _) s1) ?_;rintro e a2 w2 ⟨he2,hs2,hd2,j2,r2,e2,x2⟩;rcases tF h with ⟨hn,h2⟩|⟨hn,h2⟩
    ·rw[hn] at he2;subst he2;obtain⟨b1,b2⟩:=hg _ _ x2.len;have:=ih _ _ j2 w2 a2 h2 (yT b2 r2) (hG1.mono (wq b2 b1 x2)) (MS b2 r2 (e2.rb _)) hs2;simp only[rJ,Exit.then]
     exact IE this fun e a3 w3 ⟨g1,g2,g3,j3,g4,g5,g6⟩=>⟨g1,g2,g3.trans hd2,j3,g4,g5,(wq b2 b1 x2).trans g6⟩
    ·subst h2;have:rJ o.e ≠ .normal:=by cases ho:o.e<;>simp_all [rJ]
     subst he2
     cases hx:rJ o.e<;>first
      |exact absurd hx this
      |(simp only[Exit.then]; exact⟨hx.symm,hs2,hd2,j2,r2,e2,x2⟩)
  grind
 | .rangeFunc ..,ac,hc,br,M,o,h,j,w,a,hr,hG,he,hs=>by grind [comp]
 | .scope _,ac,hc,br,M,o,h,j,w,a,hr,hG,he,hs=>by grind [comp]
 | .label _,ac,hc,br,M,o,h,j,w,a,hr,hG,he,hs=>by grind [comp]
 | .goto _,ac,hc,br,M,o,h,j,w,a,hr,hG,he,hs=>by grind [comp]
 | .refuse _,ac,hc,br,M,o,h,j,w,a,hr,hG,he,hs=>by simp_all [comp]
theorem BS{br:Env}{M:aK}{j:J}{w:World}{a:Act}(hr:Rel j M w)(he:cu j M w br a):∀ {rs:List ResultVar} {ars:List sr} {l:List ag},G9 P rs=some ars->pO br M ars=some l ->
  ∃vs:List Value,(rs.mapM fun r=>(match r with | .tmp t=>pure (a.tmps.getD t undef) | .cell q t=>do loadVar t (<-asAddr (a.tmps.getD q undef)):Sem Value)).run P w = .ok vs w/\l.length=vs.length /\
   ∀(i:Nat)(c:ag)(v:Value),l[i]?=some c->vs[i]?=some v->fV j M w c v
 | [],ars,l,h1,h2=>by
  simp_all [G9,pO]
 | .tmp t::rs,ars,l,h1,h2=>by
  simp only[G9] at h1;obtain⟨ars',h3,h1⟩:=a8 h1;cases h1;simp only[pO,zq,bZ] at h2;obtain⟨l',h4,h2⟩:=bn h2;cases h2;obtain⟨vs,g1,g2,g3⟩:=BS hr he h3 h4
  refine⟨a.tmps.getD t undef::vs,by
   rw[List.mapM_cons,Sem.run_bind];simp_all,by simp[g2],fun i c v hc hv=>?_⟩
  cases i with
  |zero=>simp only[dU,iz] at hc hv; subst hc; subst hv; exact he.at' t
  |succ i=>grind
 | .cell q t::rs,ars,l,h1,h2=>by
  simp only[G9] at h1;obtain⟨g,hg,h1⟩:=a8 h1;obtain⟨n,hn,h1⟩:=a8 h1;obtain⟨ars',h3,h1⟩:=a8 h1;cases h1;simp only[pO] at h2;obtain⟨c0,hc0,h2⟩:=bn h2;obtain⟨l',h4,h2⟩:=bn h2;cases h2;obtain⟨vs,g1,g2,g3⟩:=BS hr he h3 h4;have hq:=he.at' q
  have hload:∃v,(do loadVar t (<-asAddr (a.tmps.getD q undef)):Sem Value).run P w = .ok v w/\fV j M w c0 v:=by
   cases g with
   |true =>
    simp only[aE,zq] at hc0;split at hc0
    ·rename_i id off e;rw[e] at hq;obtain⟨b,_,_,hj,hv⟩:=hq.pG;rw[eJ] at hc0;split at hc0
     ·rename_i cs hM;split at hc0
      ·rename_i hle;cases hc0;obtain⟨us,t0,hw,hl,hcs,hcell⟩:=wv hr hM hj
       have hrun:=oE (P:=P) (w:=w) b off n (fun k=>(us[off+k]?).getD undef) fun k hk=>by
        rw[hcell,ba (by omega)]; simp
       refine⟨_,by simp only[hv,asAddr,Sem.run_bind,Sem.run_pure,Result.andThen_ok,loadVar,kN hg,aE,ja hn,hrun]; rfl,.agg (by simp; omega) fun p c u hc hu=>?_⟩
       grind
      ·cases hc0
     ·cases hc0
    ·cases hc0
   |false =>
    simp only[af,aw,zq] at hc0;split at hc0
    ·rename_i id off e;rw[e] at hq;obtain⟨b,_,_,hj,hv⟩:=hq.pG;rw[eJ] at hc0;split at hc0
     ·rename_i cs hM;rw[eJ] at hc0;obtain⟨us,t0,hw,hl,hcs,hcell⟩:=wv hr hM hj;have cr:=aF hc0;have hu:us[off]?=some (us[off]'(by omega)):=ba (by omega)
      exact⟨_,by simp[hv,asAddr,loadVar,kN hg,hcell,hu],hcs _ _ _ hc0 hu⟩
     ·cases hc0
    ·cases hc0
  obtain⟨v0,hv0,hr0⟩:=hload;refine⟨v0::vs,?_,by simp[g2],fun i c v hc hv=>?_⟩
  ·rw[List.mapM_cons,Sem.run_bind,hv0];simp_all
  grind
def Ad:∀(args:List ag)(i t:Nat),il (jY i args) t=if i<=t then (args[t-i]?).getD .any else .any
 | [],i,t=>by simp[jY,il]
 |v::r,i,t=>by
  rw[jY,il,Ad r (i+1) t]
  by_cases h:i=t
  ·subst h; simp
  ·rw[ak h]
   by_cases h2:i<=t
   ·rw[az (by omega),az h2,show t-i=(t-(i+1))+1 by omega]; simp
   ·rw[ak (by omega),ak h2]
def Mg{j:J}{M:aK}{w:World}:∀ {l:List ag} {us:List Value},l.length=us.length->(∀(i:Nat)(c:ag)(v:Value),l[i]?=some c->us[i]?=some v->fV j M w c v) ->
  fV j M w (one l) (if h:us.toArray.size=1 then us.toArray[0] else .tuple us.toArray)
 | [c0],[v0],_,h=>by simpa[one] using h 0 c0 v0 rfl rfl
 | [],[],_,_=>by simpa[one] using(fV.tuple (j:=j) (M:=M) (w:=w) (cs:=[]) (vs := #[]) rfl fun i c v h=>by simp at h)
 |c0::c1::r,v0::v1::s,hl,h=>by
  have:¬(v0::v1::s).toArray.size=1:=by simp
  rw[dif_neg this];exact .tuple (by simpa using hl) fun i c v h1 h2=>h i c v h1 (by simpa using h2)
 | [],_::_,hl,_=>by simp at hl
 | [_],[],hl,_=>by simp at hl
 | [_],_::_::_,hl,_=>by simp at hl
 |_::_::_,[],hl,_=>by simp at hl
 |_::_::_,[_],hl,_=>by simp at hl
def Eb(hmix:P.follows .mixedOrders=true)(hC:pd P C){f:Nat}{fn:eP}{A:BZ}{func:Func}(hf:P.funcs[f]?=some func)(hc:oI P A func=some fn){args:List ag}{M:aK}{x:ag×aK}{B:Nat}(hB:M.length<=B)(hB2:B<=M.length\/B<=x.2.length)
  (hl:args.length=fn.nparams) (h:bI (fh C fn.body (jY 0 args) M) (finish fn.results B)=some x):kJ P f=true/\eM P f args M x:=by
 unfold oI at hc;split at hc
 ·cases hc
 ·rename_i c hbody;split at hc
  ·rename_i hcond;obtain⟨hname,hn,hle⟩:=hcond;obtain⟨b,hb,hc⟩:=a8 hc;obtain⟨rs,hrs,hc⟩:=a8 hc;cases hc;refine⟨by simp[kJ,hf,hbody,hname],fun j w vs hr hG eU hv=>?_⟩
   obtain⟨o,ho,hfin⟩:=bn h;simp only at hl;refine calls_of_wp hf hbody ?_;have hsz:(vs++Array.replicate (func.ntmps-vs.size) undef).size=A.n:=by simp; omega
   have he:cu j M w (jY 0 args) { tmps:=vs++Array.replicate (func.ntmps-vs.size) undef,defers:=[] }:=by
    refine⟨fun t=>?_,hG⟩
    rw[Ad,az (cy _),bU];rcases bG t args.length with ht|ht
    ·have h1:=aj ht;have cr:t<vs.size:=by omega
     have h2:=ba cr;rw[h1];have h3:=hv t _ _ h1 h2
     have:(vs++Array.replicate (func.ntmps-vs.size) undef).getD t undef=vs[t]:=by
      simp[cT,cp cr,h2]
     rw[this];exact h3
    ·rw[eG ht]; exact .any _
   refine wp_mono (wpIn_wide.1 (mJ (rd:=none) (nd:=0) hmix hC c hb ho hr hG he hsz)) ?_;rintro e a' w' ⟨he1,hs1,hd1,j1,r1,e1,x1⟩
   by_cases hpan:∃u,o.e = .oy u
   ·obtain⟨u,hu⟩:=hpan;rw[hu] at he1; subst he1;simp only[finish,hu] at hfin;cases hfin
    have hb:B<=o.mem.length:=by
     have:=x1.len;rcases hB2 with h|h
     ·omega
     ·simp[jO] at h; omega
    exact⟨hd1,.inr ⟨u,rfl,rfl,j1,yT hb r1,wq hb hB x1⟩⟩
   have hno:∀i,o.e ≠ .exit i:=by
    intro i hi;simp[finish,hi] at hfin
   have hfin':bI (pO o.br o.mem rs) (fun l=>some ((one l).mf B o.mem,jO B o.mem))=some x:=by
    unfold finish at hfin;split at hfin
    ·rename_i i hi; exact absurd hi (hno i)
    ·rename_i u hu; exact absurd ⟨u,hu⟩ hpan
    ·exact hfin
   obtain⟨l,hl',hfin'⟩:=bn hfin';cases hfin';obtain⟨us,u1,u2,u3⟩:=BS (P:=P) r1 e1 hrs hl'
   have hbase:B<=o.mem.length:=by
    have:=x1.len;rcases hB2 with h|h
    ·omega
    ·simp[jO] at h; omega
   have hres:(results func a'.tmps).run P w' = .ok (if h:us.toArray.size=1 then us.toArray[0] else .tuple us.toArray) w':=by
    unfold results;rw[kQ,Sem.run_bind,Sem.run_map];refine cW (congrArg (fun r:Result (List Value)=>Result.andThen (r.andThen fun a w' => .ok a.toArray w') _) (cW ?_ u1)) rfl
    rfl
   have hone:fV j1 o.mem w' (one l) (if h:us.toArray.size=1 then us.toArray[0] else .tuple us.toArray):=by
    exact Mg u2 u3
   have hfinal:∃v,(results func a'.tmps).run P w' = .ok v w'/\vn j M w ((one l).mf B o.mem,jO B o.mem) (.returned v) w' :=
    ⟨_,hres,.inl ⟨_,rfl,j1,yT hbase r1,wq hbase hB x1,DT hbase r1 hone⟩⟩
   cases hoe:o.e with
   |exit i=>exact absurd hoe (hno i)
   |oy u=>exact absurd ⟨u,hoe⟩ hpan
   |normal=>rw[hoe] at he1; subst he1; exact⟨hd1,hfinal⟩
   |ret=>rw[hoe] at he1; subst he1; exact⟨hd1,hfinal⟩
  ·cases hc
def Ql(hmix:P.follows .mixedOrders=true)(hC:pd P C){f:Nat}{fn:eP}{A:BZ}{func:Func}(hf:P.funcs[f]?=some func)(hc:oI P A func=some fn){args:List ag}{M:aK}{x:ag×aK}
  (hl:args.length=fn.nparams) (h:bI (fh C fn.body (jY 0 args) M) (finish fn.results M.length)=some x):kJ P f=true/\eM P f args M x :=
 Eb hmix hC hf hc (ar _) (.inl (ar _)) hl h
noncomputable def KN(C:eL)(fn:eP)(d:Nat)(args:List ag)(M:aK):Option (ag×aK) :=
 if args.length=fn.nparams then bI (bI (fh C fn.body (jY 0 args) M) (finish fn.results (M.length+d))) fun x=>if x.2.length=M.length+d then some x else none else none
def NG(hmix:P.follows .mixedOrders=true)(hC:pd P C){f:Nat}{fn:eP}{A:BZ}{func:Func}(hf:P.funcs[f]?=some func)(hc:oI P A func=some fn){d:Nat}{args:List ag}{M:aK}{x:ag×aK}
  (h:KN C fn d args M=some x):kJ P f=true/\eM P f args M x:=by
 unfold KN at h;split at h
 ·rename_i hl;obtain⟨y,hy,h⟩:=bn h;split at h
  ·rename_i eU;cases h;exact Eb hmix hC hf hc (Nat.le_add_right _ _) (.inr (by omega)) hl hy
  ·cases h
 ·cases h
def aaX{C:eL}{fn:eP}{d:Nat}{args:List ag}{M:aK}{x:ag×aK}(hl:args.length=fn.nparams)(h:bI (fh C fn.body (jY 0 args) M) (finish fn.results (M.length+d))=some x)(hx:x.2.length=M.length+d):KN C fn d args M=some x:=by
 unfold KN;rw[az hl,h,bZ,az hx]
structure xQ(P:Program)(T:Bz):Prop where
 code:∀f fn,T.code f=some fn->∃A func,P.funcs[f]?=some func/\oI P A func=some fn
 sK:∀f g,T.sK f=some g->∀args M x,g args M=some x->kJ P f=true/\eM P f args M x
def yQ(hmix:P.follows .mixedOrders=true){T:Bz}(hT:xQ P T):∀n,pd P (kP T n)
 |0,f,args,M,x,h=>by
  unfold kP at h;split at h
  ·rename_i g hg; exact hT.sK f g hg args M x h
  ·cases h
 |n+1,f,args,M,x,h=>by
  rw[kP] at h;split at h
  ·rename_i g hg; exact hT.sK f g hg args M x h
  ·split at h
   ·cases h
   ·rename_i fn hfn;split at h
    ·rename_i hl;obtain⟨A,func,h1,h2⟩:=hT.code f fn hfn;exact Ql hmix (yQ hmix hT n) h1 h2 hl h
    ·cases h
def ud(hmix:P.follows .mixedOrders=true){T:Bz}(hT:xQ P T):pd P (aq T):=fun f args M x h=>by
 obtain⟨n,hn⟩:=uw h;exact yQ hmix hT n f args M x hn
end
section
variable {j:J} {M:aK} {w w':World}
def nV(b:Nat):∀(l:List Value)(o:Nat)(w:World),w.setCells b o l=oQ w b o l
 | [],_,_=>rfl
 |v::r,o,w=>by rw[World.setCells,oQ,nV b r]
end
noncomputable def pN(sz bytes:Nat):List ag->aK->Option (ag×aK)
 | [.slice _ xs],M=>match xs with
  | []=>some (.slice .c0 [],M)
  |x::r=>ct (wid (x::r) sz/\dL (x::r).length bytes) (some (.dg M.length 0 sz 0 (x::r).length,M++[.arr sz 0 (x::r)]))
 |_,_=>none
noncomputable def Zf(sz bytes:Nat):List ag->aK->Option (ag×aK)
 | [.slice _ xs],M=>ct (wid xs sz/\dL xs.length bytes) (some (.slice .sh xs,M))
 |_,_=>none
noncomputable def xA(sz bytes:Nat):List ag->aK->Option (ag×aK)
 | [.slice _ xs],M=>ct (wid xs sz/\dL xs.length bytes) (some (.slice (.own M.length) xs,M++[.tick sz xs.length]))
 |_,_=>none
noncomputable def ou(sz:Nat):List ag->aK->Option (ag×aK)
 | [.dg id ver sz' lo hi,.int .i64 i,.int .i64 i'],M=>match nth M id with
  |some (.arr sz0 v xs)=>ct (v=ver/\sz'=sz/\lo=0/\hi=xs.length/\0<=i/\i.toNat<xs.length/\i'=i+1/\xs.length<=2 ^ 44)
    (some (.dg id (ver+1) sz 0 (xs.length-1),jZ M id (.arr sz0 (ver+1) (xs.take i.toNat++xs.drop (i.toNat+1)))))
  |_=>none
 |_,_=>none
noncomputable def ng(sz bytes:Nat):List ag->aK->Option (ag×aK)
 | [.dg id ver sz' lo hi,.int .i64 i,.slice _ [e]],M=>match nth M id with
  |some (.arr sz0 v xs)=>ct (v=ver/\sz'=sz/\lo=0/\hi=xs.length/\0<=i/\i.toNat<=xs.length/\e.cells.length=sz/\dL (xs.length+1) bytes)
    (some (.dg id (ver+1) sz 0 (xs.length+1),jZ M id (.arr sz0 (ver+1) (xs.take i.toNat++e::xs.drop i.toNat))))
  |_=>none
 | [.slice .c0 [],.int .i64 i,.slice _ [e]],M=>ct (i=0/\e.cells.length=sz) (some (.dg M.length 0 sz 0 1,M++[.arr sz 0 [e]]))
 |_,_=>none
def BH(P:Program)(f:Nat)(E:TypeId)(sz bytes:Nat):Prop:=∀(b off n c:Nat)(news:List Value)(w:World),news.length=n*sz->n<=maxLen->n*bytes<=140737488355328->(∀j u,news[j]?=some u->w.cell? ⟨b,off+j,none⟩=some u)->(∀u∈news,u.oneCell'=true) ->
 Calls P f #[.slice (some ⟨b,off,none⟩) n c] w fun e w'=>∃v',e = .returned v'/\w'.ownsRow w.heap.size E sz v' n news/\v' ≠ .slice none 0 0/\Below w.heap.size w w'
def yP(P:Program)(f:Nat):Prop:=∀(A:Option Addr)(c:Nat)(w:World),Calls P f #[.slice A 0 c] w fun e w'=>(∃B,e = .returned (.slice B 0 0))/\Below w.heap.size w w'
def Xv(P:Program)(f sz:Nat)(z:List Value):Prop:=∀(blk cap i i' n:Nat)(cs:List Value)(w:World),cs.length=n*sz->n<=cap->n<=9223372036854775807->i<n->i'=i+1 ->
 (∀p v,cs[p]?=some v->w.cell? ⟨blk,p,none⟩=some v/\w.frozen? ⟨blk,p,none⟩=false/\v.oneCell'=true) ->
 Calls P f #[.slice (some ⟨blk,0,none⟩) n cap,.int .i64 i,.int .i64 i'] w fun e w'=>e = .returned (.slice (some ⟨blk,0,none⟩) (n-1) cap) /\
  w'=(w.drew.setCells blk (i*sz) (cs.drop (i'*sz))).setCells blk ((n-1)*sz) z
def xa(sz:Nat)(w:World)(b:Nat)(row:Array Value)(t:TypeId)(n i:Nat)(cs vs:List Value)(e:Ending)(w':World):Prop :=
 ∃b' cap' row' t',e = .returned (.slice (some ⟨b',0,none⟩) (n+1) cap')/\n+1<=cap'/\w'.heap[b']?=some (.cells row' t' (0,0))/\cap'*sz<=row'.size /\
  (∀p,p<(n+1)*sz->row'[p]?=(cs.take (i*sz)++(vs++cs.drop (i*sz)))[p]?)/\Quiet w w' /\
  ((b'=b/\t'=t/\row'.size=row.size/\∀b0,b0≠b->b0<w.heap.size->w'.heap[b0]?=w.heap[b0]?)\/(w.heap.size<=b'/\∀b0,b0<w.heap.size->w'.heap[b0]?=w.heap[b0]?))
def O8(P:Program)(f sz bytes:Nat):Prop:=∀(b n c i vb voff vc:Nat)(cs vs:List Value)(w:World)(row:Array Value)(t:TypeId),i<=n->n<=c->(n+1)*bytes<=140737488355328->n+1<=9223372036854775807->vb≠b->cs.length=n*sz->vs.length=sz->w.heap[b]?=some (.cells row t (0,0))->c*sz<=row.size ->
 (∀(p:Nat)(v:Value),cs[p]?=some v->row[p]?=some v)->(∀(p:Nat)(v:Value),vs[p]?=some v->w.cell? ⟨vb,voff+p,none⟩=some v)->(∀v∈cs,v.oneCell'=true)->(∀v∈vs,v.oneCell'=true) ->
 Calls P f #[.slice (some ⟨b,0,none⟩) n c,.int .i64 i,.slice (some ⟨vb,voff,none⟩) 1 vc] w (xa sz w b row t n i cs vs)
def O9(P:Program)(f sz:Nat):Prop:=∀(A:Option Addr)(vb voff vc:Nat)(vs:List Value)(w:World)(row:Array Value),vs.length=sz->(∀(p:Nat)(v:Value),vs[p]?=some v->w.cell? ⟨vb,voff+p,none⟩=some v)->(∀v∈vs,v.oneCell'=true) ->
 Calls P f #[.slice A 0 0,.int .i64 0,.slice (some ⟨vb,voff,none⟩) 1 vc] w fun e w'=>xa sz w w.heap.size row 0 0 0 [] vs e w'
section
variable {P:Program} {f:Nat} {sz bytes:Nat} {E:TypeId}
def Dx{α:Type}{vs:Array α}{p q r:ag}(h:[p,q,r].length=vs.size):∃a b c,vs = #[a,b,c]:=by
 obtain⟨l⟩:=vs
 match l,h with
 | [a,b,c],_=>simp
def BP{α:Type}{vs:Array α}{p:ag}(h:[p].length=vs.size):∃a,vs = #[a]:=by
 obtain⟨l⟩:=vs
 match l,h with
 | [a],_=>simp
def fV.wX{j:J}{M:aK}{w:World}{tk:Tk}{xs:List ag}{v:Value}(h:fV j M w (.slice tk xs) v):fF w (nR j M w) (.slice .sh xs) v:=h.dD
theorem wy(hsz:0<sz)(hby:bytes*8<=2 ^ 20/\0<bytes)
  (hC:BH P f E sz bytes) (h0:yP P f)
  {args:List ag} {M:aK} {x:ag×aK} (h:pN sz bytes args M=some x):eM P f args M x:=by
 unfold pN at h;split at h
 ·refine nj.call ?_;intro j w vs hr hG hl hv;obtain⟨u,rfl⟩:=BP hl;have h1:=(hv 0 _ u rfl rfl).wX;split at h
  ·cases h;obtain⟨A,cap,rfl,_,_⟩:=nC (size:=sz) h1 (fun y hy=>by cases hy)
   refine(h0 A cap w).mono ?_;rintro e w' ⟨⟨B,rfl⟩,hb⟩;exact⟨_,j,rfl,hr.grow hb.size hb.os hb.tape hb.output hb.block,Ext.grow hb.size hb.os hb.tape hb.output hb.block,.c0 _⟩
  ·rename_i y r;obtain⟨⟨hw,hroom⟩,h⟩:=db h;cases h;obtain⟨A,cap,rfl,hcap,h2⟩:=nC h1 hw;obtain⟨b,off,rfl,us,hrl,hul,hone,hcell⟩:=h2.resolve_left (by simp)
   unfold dL at hroom;have hle:(y::r).length<=2 ^ 44:=bh (fq _ hby.2) hroom;refine(hC b off (y::r).length cap us w hul (by unfold maxLen; omega) (by omega) (fun p u hp=>(hcell p u hp).1) hone).mono ?_
   rintro e w' ⟨v',rfl,⟨_,hown⟩,hnn,hb⟩;obtain⟨g,cap',cur,rfl,hg,hg',hn1,_,hcs,htk⟩:=hown.resolve_left (fun h=>hnn h.1)
   have q:Quiet w w':=⟨hb.size,hb.os,hb.tape,hb.output⟩;have hob:∀b,some g=some b->w.heap.size<=b/\b<w'.heap.size:=fun b h=>by grind
   have hcl:∀p,p<us.length->cur[p]?=us[p]?:=fun p hp=>by
    rw[<-htk,bE (by rw[<-hul]; exact hp)]; simp
   have ext:Ext j M w (gv j M.length (some g)) (M++[.arr sz 0 (y::r)]) w':=Ext.push (fun b h=>(hob b h).1) q hb.block
   refine⟨_,gv j M.length (some g),rfl,hr.push hob q hb.block (fun h=>by cases h) (fun sz n b h _=>by cases h) (fun sz0 v0 xs0 he=>?_),ext,?_⟩
   ·injection he with e1 e2 e3
    subst e1; subst e3;have hat:∀j' M',Ext j M w j' M' w'->DM j' M' w' g sz (y::r):=fun j' M' hx=>lC hg' hw (hrl.mono hx.gX) hcl
    refine .inr ⟨g,cur,E,rfl,hg',by rw[hcs]; grind,hw,fun j' M' hx q x k c hx' hk=>?_⟩
    obtain⟨vs,t,a1,a2,a3,a4⟩:=hat j' M' hx;rw[hg'] at a1; injection a1 with a1; injection a1 with a1 a1'
    subst a1;exact a4 q x k c hx' hk
   ·refine .dg (.inl ⟨g,0,cap',rfl,by omega⟩) (by simp) (fun bx hbx=>by rw[lK] at hbx; cases hbx; rfl) fun sz' v' xs hx=>?_
    rw[lK] at hx; injection hx with hx; injection hx with e1 e2 e3
    subst e1; subst e2; subst e3;exact⟨ar _,fun _=>⟨rfl,cy _,ar _,.inr ⟨g,cap',cur,E,by simp[gv],by simp,by omega,hg',by rw[aP]; omega⟩⟩⟩
 ·cases h
theorem aaq(hsz:0<sz)(hby:bytes*8<=2 ^ 20/\0<bytes)
  (hC:BH P f E sz bytes) (h0:yP P f)
  {args:List ag} {M:aK} {x:ag×aK} (h:Zf sz bytes args M=some x):eM P f args M x:=by
 unfold Zf at h;split at h
 ·rename_i tk xs;refine nj.call ?_;intro j w vs hr hG hl hv;obtain⟨u,rfl⟩:=BP hl;have h1:=(hv 0 _ u rfl rfl).wX;obtain⟨⟨hw,hroom⟩,h⟩:=db h;cases h;obtain⟨A,cap,rfl,hcap,h2⟩:=nC h1 hw;rcases h2 with rfl|⟨b,off,rfl,us,hrl,hul,hone,hcell⟩
  ·refine(h0 A cap w).mono ?_;rintro e w' ⟨⟨B,rfl⟩,hb⟩;exact⟨_,j,rfl,hr.grow hb.size hb.os hb.tape hb.output hb.block,Ext.grow hb.size hb.os hb.tape hb.output hb.block,.plain (fF.nil _ _ _)⟩
  ·unfold dL at hroom;have hle  := bh (fq _ hby.2) hroom;refine(hC b off xs.length cap us w hul (by grind [maxLen]) (by omega) (fun p u hp=>(hcell p u hp).1) hone).mono ?_
   rintro e w' ⟨v',rfl,⟨_,hown⟩,hnn,hb⟩;obtain⟨g,cap',cur,rfl,hg,hg',hn1,_,hcs,htk⟩:=hown.resolve_left (fun h=>hnn h.1)
   have ext:Ext j M w j M w':=Ext.grow hb.size hb.os hb.tape hb.output hb.block;refine⟨_,j,rfl,hr.grow hb.size hb.os hb.tape hb.output hb.block,ext,.plain ?_⟩
   have hcl:∀p,p<us.length->cur[p]?=us[p]?:=fun p hp=>by
    rw[<-htk,bE (by omega)]; simp
   obtain⟨vs,t,a1,a2,a3,a4⟩:=lC (j':=j) hg' hw (hrl.mono ext.gX) hcl;rw[hg'] at a1; injection a1 with a1; injection a1 with a1 a1'
   subst a1;have:=xf hg' a3 a4 (fun b off h=>h) (fun off ho=>⟨lt_of_block hg',fun id hid hji=>by have:=hr.lt id g hid hji; omega,fun hx=>by have:=hr.zG g off hx; omega⟩) (cy _) (ar _) (by omega)
   simpa using this
 grind
theorem FV(hsz:0<sz)(hby:bytes*8<=2 ^ 20/\0<bytes)
  (hC:BH P f E sz bytes) (h0:yP P f)
  {args:List ag} {M:aK} {x:ag×aK} (h:xA sz bytes args M=some x):eM P f args M x:=by
 unfold xA at h;split at h
 ·rename_i tk xs;refine nj.call ?_;intro j w vs hr hG hl hv;obtain⟨u,rfl⟩:=BP hl;have h1:=(hv 0 _ u rfl rfl).wX;obtain⟨⟨hw,hroom⟩,h⟩:=db h;cases h;obtain⟨A,cap,rfl,hcap,h2⟩:=nC h1 hw;rcases h2 with rfl|⟨b,off,rfl,us,hrl,hul,hone,hcell⟩
  ·refine(h0 A cap w).mono ?_;rintro e w' ⟨⟨B,rfl⟩,hb⟩;have q:Quiet w w':=⟨hb.size,hb.os,hb.tape,hb.output⟩;refine⟨_,gv j M.length none,rfl,hr.push (fun b h=>by cases h) q hb.block (fun h=>by cases h) (fun _ _ _ _ h=>by cases h),Ext.push (fun b h=>by cases h) q hb.block,?_⟩
   refine .own (lK ..) (ar _) (fF.nil _ _ _) fun _ => .inl ⟨by simp[gv],rfl,B,rfl⟩
  ·unfold dL at hroom;have hle:xs.length<=2 ^ 44:=bh (fq _ hby.2) hroom;refine(hC b off xs.length cap us w hul (by grind [maxLen]) (by omega) (fun p u hp=>(hcell p u hp).1) hone).mono ?_
   rintro e w' ⟨v',rfl,⟨_,hown⟩,hnn,hb⟩;obtain⟨g,cap',cur,rfl,hg,hg',hn1,_,hcs,htk⟩:=hown.resolve_left (fun h=>hnn h.1)
   have q:Quiet w w':=⟨hb.size,hb.os,hb.tape,hb.output⟩;have hob:∀b,some g=some b->w.heap.size<=b/\b<w'.heap.size:=fun b h=>by grind
   have ext:Ext j M w (gv j M.length (some g)) (M++[.tick sz xs.length]) w':=Ext.push (fun b h=>(hob b h).1) q hb.block
   refine⟨_,gv j M.length (some g),rfl,hr.push hob q hb.block (fun h=>by cases h) (fun _ _ b _ h=>by grind),ext,?_⟩
   have hcl:∀p,p<us.length->cur[p]?=us[p]?:=fun p hp=>by
    rw[<-htk,bE (by rw[<-hul]; exact hp)]; simp
   obtain⟨vs,t,a1,a2,a3,a4⟩:=lC (j':=gv j M.length (some g)) (M':=M++[.tick sz xs.length]) hg' hw (hrl.mono ext.gX) hcl;rw[hg'] at a1; injection a1 with a1; injection a1 with a1 a1'
   subst a1
   have:=xf (lo:=0) (hi:=xs.length) (cap:=cap') hg' a3 a4 (fun b off h=>h) (fun off ho=>⟨lt_of_block hg',fun id hid hji=>by
    rcases bG id M.length with hid'|hid'
    ·have hj:j id=some g:=by simpa[gv,gm hid'] using hji
     have:=hr.lt id g hid' hj; omega
    grind,fun hx=>by have:=hr.zG g off hx; omega⟩) (cy _) (ar _) (by omega)
   refine .own (lK ..) (ar _) (by simpa using this) fun _ => .inr ⟨g,cap',cur,E,by simp[gv],by simp,hg',by omega,by omega⟩
 ·cases h
def vt(hsz:0<sz){z:List Value}(hz:z.length=sz)
  (hD:Xv P f sz z)
  {args:List ag} {M:aK} {x:ag×aK} (h:ou sz args M=some x):eM P f args M x:=by
 unfold ou at h;split at h
 ·rename_i id ver sz' lo hi i i';rw[eJ] at h;split at h
  ·rename_i sz0 v0 xs hM;obtain⟨hc,h⟩:=db h;cases h;obtain⟨rfl,rfl,rfl,rfl,hi0,hin,rfl,hbig⟩:=hc;refine nj.call ?_;intro j w vs hr hG hl hv;obtain⟨u1,u2,u3,rfl⟩:=Dx hl;have h2:=(hv 1 _ u2 rfl rfl).fM;have h3:=(hv 2 _ u3 rfl rfl).fM;subst h2; subst h3;obtain⟨_,hid,_,g⟩:=(hv 0 _ u1 rfl rfl).nw;obtain⟨e1,_,_,⟨rfl,l3,B,rfl⟩|⟨b,cap,row,t0,l3,l4,l5,l6,l7⟩⟩:=(g sz0 v0 xs hM).2 rfl
   ·exact absurd hin (by simp)
   subst e1; subst l4;obtain⟨b',row',t',k1,k2,k3,k4,k5⟩:=hr.yb hM l3;rw[l3] at k1; cases k1;rw[l6] at k2; injection k2 with k2; injection k2 with k2 k2'
   subst k2; subst k2';have hrow:=xe (b:=b) k3 k4 k5;rw[bU] at l5;rw[aP] at l7;generalize hcs:row.toList.take (xs.length*sz0)=cs at hrow;have hcl:cs.length=xs.length*sz0:=by rw[<-hcs]; simp; omega
   have hat:∀p v,cs[p]?=some v->row[p]?=some v:=fun p v hp=>by
    have cr:p<xs.length*sz0:=by rw[<-hcl]; exact aF hp
    rw[<-hcs,bE cr] at hp; simpa using hp
   obtain⟨m,rfl⟩:∃m:Nat,i=m:=⟨i.toNat,(nY (by assumption)).symm⟩
   simp only[bg] at hin ⊢;have e0:((m:Int)+1)=((m+1:Nat):Int):=rfl;rw[bU,jb,e0];refine(hD b cap m (m+1) xs.length cs w hcl l5 (by omega) hin rfl (fun p v hp=>⟨by simp[World.cell?,l6,hat p v hp],by simp[World.frozen?,l6],?_⟩)).mono ?_
   ·have hp':p<(jA xs).length:=by rw[hrow.1]; exact aF hp
    exact fF.one (hrow.2 p _ v (aj hp') hp)
   ·rintro e w' ⟨rfl,hw'⟩;rw[nV,nV] at hw';have hl1:(cs.drop ((m+1)*sz0)).length=(xs.length-(m+1))*sz0:=by rw[iQ,hcl,lz]
    have ha1:(m+1)*sz0=m*sz0+sz0:=by rw[bO,fH]
    have ha2:(xs.length-(m+1))*sz0=xs.length*sz0-(m*sz0+sz0):=by rw[lz,ha1]
    have ha3:(xs.length-1)*sz0=xs.length*sz0-sz0:=by rw[lz,fH]
    have ha4:m*sz0+sz0<=xs.length*sz0:=by rw[<-ha1]; exact bd _ hin
    have hd:w.drew.heap=w.heap:=rfl;obtain⟨s1,s2,s3,s4,s5,r1,s6,s7,s8,s9⟩:=lu (t:=t0) (cs.drop ((m+1)*sz0)) w.drew (m*sz0) row (by rw[hd]; exact l6) (by rw[hl1]; omega)
    obtain⟨q1,q2,q3,q4,q5,r2,q6,q7,q8,q9⟩:=lu (t:=t0) z _ ((xs.length-1)*sz0) r1 s6 (by rw[hz,s7]; omega)
    rw[<-hw'] at q1 q2 q3 q4 q5 q6;have hwd:wid (xs.take m++xs.drop (m+1)) sz0:=mQ (vk k4) (vj k4)
    have iq:RL w (nR j M w) (jA (xs.take m++xs.drop (m+1))) (cs.take (m*sz0)++cs.drop ((m+1)*sz0)):=by
     rw[om,rL m k4,tE (m+1) k4];exact(hrow.take _).append (hrow.drop _)
    have htk:(cs.take (m*sz0)).length=m*sz0:=by rw[gb,hcl]; omega
    have hput:=xd (ver':=v0+1) (xs':=xs.take m++xs.drop (m+1)) hr hM l3 (w':=w') ⟨by rw[q1,s1]; simp,q2.trans s2,q3.trans s3,q4.trans s4⟩ (fun b' hb' _=>(q5 b' hb').trans (s5 b' hb')) l6 q6 (q7.trans s7) (by omega) (fun h=>by omega) hwd iq (fun p hp=>by
     rw[aJ,htk,hl1] at hp;rw[q8 p (.inl (by omega))]
     rcases bG p (m*sz0) with c1|c1
     ·rw[s8 p (.inl c1),bj (by rw[htk]; exact c1),bE c1]
      have hp1:p<cs.length:=by omega
      rw[hat p _ (aj hp1),aj hp1]
     ·rw[bq (by rw[htk]; exact c1),htk]
      have:=s9 (p-m*sz0) (by rw[hl1]; omega)
      rw[cR c1] at this;exact this)
    rw[fN];refine⟨_,j,rfl,hput.1,hput.2,.dg (.inl ⟨b,0,cap,rfl,by omega⟩) (by simpa using hid) (fun bx hbx=>by rw[dC (aF hM)] at hbx; cases hbx; rfl) fun sz' v' ys hx=>?_⟩
    rw[dC (aF hM)] at hx; injection hx with hx; injection hx with e1 e2 e3
    subst e1; subst e2; subst e3;exact⟨ar _,fun _=>⟨rfl,cy _,by simp; omega,.inr ⟨b,cap,r2,t0,l3,by simp,by omega,q6,by rw[aP,q7,s7]; exact l7⟩⟩⟩
  ·cases h
 ·cases h
end
section
variable {sz:Nat} {w:World} {b n c i:Nat} {row:Array Value} {t:TypeId} {cs vs:List Value} {e:Ending} {w':World}
def rz(w:World)(o:Obj):(w.alloc o).heap=w.heap.push o:=rfl
def tj(w:World):w.drew.heap=w.heap:=rfl
def Bu{A B C:List Value}{p:Nat}:(A++(B++C))[p]?=if p<A.length then A[p]? else if p<A.length+B.length then B[p-A.length]? else C[p-A.length-B.length]?:=by
 split
 ·rw[bj (by assumption)]
 ·rw[bq (by omega)]
  split
  ·rw[bj (by omega)]
  ·rw[bq (by omega)]
def NH(hi:i<n)(hroom:n+1<=c)(hcl:cs.length=n*sz)(hvl:vs.length=sz)(hw:w.heap[b]?=some (.cells row t (0,0)))(hrow:c*sz<=row.size)(hat:∀(p:Nat)(v:Value),cs[p]?=some v->row[p]?=some v)
  (he:e = .returned (.slice (some ⟨b,0,none⟩) (n+1) c)) (hw':w'=(w.drew.setCells b ((i+1)*sz) (cs.drop (i*sz))).setCells b (i*sz) vs):xa sz w b row t n i cs vs e w':=by
 have a1:(i+1)*sz=i*sz+sz:=by rw[bO,fH]
 have a2:(n+1)*sz=n*sz+sz:=by rw[bO,fH]
 have a3:i*sz+sz<=n*sz:=by rw[<-a1]; exact bd _ hi
 have a4:(n+1)*sz<=row.size:=bh (bd _ hroom) hrow;have hdl:(cs.drop (i*sz)).length=n*sz-i*sz:=by rw[iQ,hcl]
 rw[nV,nV] at hw';obtain⟨s1,s2,s3,s4,s5,r1,s6,s7,s8,s9⟩:=lu (t:=t) (cs.drop (i*sz)) w.drew ((i+1)*sz) row hw (by omega)
 obtain⟨q1,q2,q3,q4,q5,r2,q6,q7,q8,q9⟩:=lu (t:=t) vs _ (i*sz) r1 s6 (by omega)
 rw[<-hw'] at q1 q2 q3 q4 q5 q6;have htk:(cs.take (i*sz)).length=i*sz:=by rw[gb,hcl]; omega
 refine⟨b,c,r2,t,he,hroom,q6,by rw[q7,s7]; exact hrow,fun p hp=>?_,⟨by rw[q1,s1]; exact ar _,q2.trans s2,q3.trans s3,q4.trans s4⟩,.inl ⟨rfl,rfl,q7.trans s7,fun b0 h0 _=>(q5 b0 h0).trans (s5 b0 h0)⟩⟩
 rw[Bu,htk,hvl];split
 ·rename_i c1;rw[q8 p (.inl c1),s8 p (.inl (by omega)),bE c1]
  have hp1:p<cs.length:=by omega
  rw[hat p _ (aj hp1),aj hp1]
 ·rename_i c1;split
  ·have:=q9 (p-i*sz) (by omega)
   rwa[cR (by omega)] at this
  ·rw[q8 p (.inr (by omega))]
   have:=s9 (p-(i+1)*sz) (by omega)
   rw[cR (by omega)] at this
   rw[this]; congr 1; omega
def Qu(hroom:n+1<=c)(hcl:cs.length=n*sz)(hvl:vs.length=sz)(hw:w.heap[b]?=some (.cells row t (0,0)))(hrow:c*sz<=row.size)(hat:∀(p:Nat)(v:Value),cs[p]?=some v->row[p]?=some v)
  (he:e = .returned (.slice (some ⟨b,0,none⟩) (n+1) c)) (hw':w'=w.setCells b (n*sz) vs):xa sz w b row t n n cs vs e w':=by
 have a2:(n+1)*sz=n*sz+sz:=by rw[bO,fH]
 have a4:(n+1)*sz<=row.size:=bh (bd _ hroom) hrow;rw[nV] at hw';obtain⟨q1,q2,q3,q4,q5,r2,q6,q7,q8,q9⟩:=lu (t:=t) vs w (n*sz) row hw (by omega)
 rw[<-hw'] at q1 q2 q3 q4 q5 q6;refine⟨b,c,r2,t,he,hroom,q6,by rw[q7]; exact hrow,fun p hp=>?_,⟨by rw[q1]; exact ar _,q2,q3,q4⟩,.inl ⟨rfl,rfl,q7,fun b0 h0 _=>q5 b0 h0⟩⟩
 rw[<-hcl,cQ,gH,bV];rcases bG p cs.length with c1|c1
 ·rw[q8 p (.inl (by omega)),bj c1,hat p _ (aj c1),aj c1]
 ·rw[bq c1];have:=q9 (p-n*sz) (by omega)
  rw[cR (by omega)] at this
  rw[this,hcl]
def zf{z:Value}{E:TypeId}(hsz:0<sz)(hz:z.cells.size=sz)(hcl:cs.length=n*sz)(hvl:vs.length=sz)(hG:n+1<=c)
  (he:e = .returned (.slice (some ⟨w.heap.size,0,none⟩) (n+1) c)) (hw':w'=w.drew.alloc (.cells ((cs++vs).toArray++Builtin.zeroCells z.cells (c-(n+1))) E)):xa sz w b row t n n cs vs e w':=by
 have a2:(n+1)*sz=n*sz+sz:=by rw[bO,fH]
 have hzl:(Builtin.zeroCells z.cells (c-(n+1))).size=(c-(n+1))*sz:=by simp[Builtin.zeroCells,hz]
 have a3:c*sz=(n+1)*sz+(c-(n+1))*sz:=by rw[<-bO,cR hG]
 subst hw';refine⟨w.heap.size,c,(cs++vs).toArray++Builtin.zeroCells z.cells (c-(n+1)),E,he,hG,by rw[rz,tj]; simp,by simp[hzl,hcl,hvl]; omega,fun p hp=>?_,⟨by rw[rz,tj]; simp,rfl,rfl,rfl⟩,.inr ⟨ar _,fun b0 h0=>by rw[rz,tj]; simp[fI,gm h0]⟩⟩
 rw[cp (by simp; omega),<-hcl,cQ,gH,bV]
 simp
def Qt{z:Value}{E:TypeId}(hsz:0<sz)(hz:z.cells.size=sz)(hi:i<n)(hcl:cs.length=n*sz)(hvl:vs.length=sz)(hG:n+1<=c)
  (he:e = .returned (.slice (some ⟨w.heap.size,0,none⟩) (n+1) c))
  (hw':w'=(((w.alloc (.cells ((cs.take (i*sz)).toArray++Builtin.zeroCells z.cells (n+1-i)++Builtin.zeroCells z.cells (c-(n+1))) E)).drew.setCells w.heap.size (i*sz) vs).drew).setCells w.heap.size ((i+1)*sz) (cs.drop (i*sz))):xa sz w b row t n i cs vs e w':=by
 have a1:(i+1)*sz=i*sz+sz:=by rw[bO,fH]
 have a2:(n+1)*sz=n*sz+sz:=by rw[bO,fH]
 have a3:i*sz+sz<=n*sz:=by rw[<-a1]; exact bd _ hi
 have hz1:(Builtin.zeroCells z.cells (n+1-i)).size=(n+1-i)*sz:=by simp[Builtin.zeroCells,hz]
 have hz2:(Builtin.zeroCells z.cells (c-(n+1))).size=(c-(n+1))*sz:=by simp[Builtin.zeroCells,hz]
 have a4:c*sz=(n+1)*sz+(c-(n+1))*sz:=by rw[<-bO,cR hG]
 have a5:(n+1)*sz=i*sz+(n+1-i)*sz:=by rw[<-bO,cR (by omega)]
 have htk:(cs.take (i*sz)).length=i*sz:=by rw[gb,hcl]; omega
 have hdl:(cs.drop (i*sz)).length=n*sz-i*sz:=by rw[iQ,hcl]
 generalize hR:(cs.take (i*sz)).toArray++Builtin.zeroCells z.cells (n+1-i)++Builtin.zeroCells z.cells (c-(n+1))=ROW at hw';have hRs:ROW.size=c*sz:=by rw[<-hR]; simp only[fQ,hz1,hz2,cH,htk]; omega
 have hR0:∀p,p<i*sz->ROW[p]?=cs[p]?:=fun p hp=>by
  rw[<-hR,cp (by simp only[fQ,hz1,cH,htk]; omega),cp (by simp only[cH,htk]; exact hp)]
  simp[bE hp]
 rw[nV,nV] at hw';have h0:((w.alloc (.cells ROW E)).drew).heap[w.heap.size]?=some (.cells ROW E (0,0)):=by rw[tj,rz]; simp
 obtain⟨s1,s2,s3,s4,s5,r1,s6,s7,s8,s9⟩:=lu (t:=E) vs _ (i*sz) ROW h0 (by omega)
 obtain⟨q1,q2,q3,q4,q5,r2,q6,q7,q8,q9⟩:=lu (t:=E) (cs.drop (i*sz)) (oQ ((w.alloc (.cells ROW E)).drew) w.heap.size (i*sz) vs).drew ((i+1)*sz) r1 s6 (by omega)
 rw[<-hw'] at q1 q2 q3 q4 q5 q6;have hpush:((w.alloc (.cells ROW E)).drew).heap.size=w.heap.size+1:=by rw[tj,rz]; simp
 refine⟨w.heap.size,c,r2,E,he,hG,q6,by omega,fun p hp=>?_,⟨?_,q2.trans s2,q3.trans s3,q4.trans s4⟩,.inr ⟨ar _,fun b0 hb0=>?_⟩⟩
 ·rw[Bu,htk,hvl];split
  ·rename_i c1;rw[q8 p (.inl (by omega)),s8 p (.inl c1),hR0 p c1,bE c1]
  ·rename_i c1;split
   ·rw[q8 p (.inl (by omega))]
    have:=s9 (p-i*sz) (by omega)
    rwa[cR (by omega)] at this
   ·have:=q9 (p-(i+1)*sz) (by omega)
    rw[cR (by omega)] at this
    rw[this]; congr 1; omega
 ·have e1:(oQ ((w.alloc (.cells ROW E)).drew) w.heap.size (i*sz) vs).drew.heap.size=(oQ ((w.alloc (.cells ROW E)).drew) w.heap.size (i*sz) vs).heap.size:=rfl;omega
 ·rw[q5 b0 (by omega)]
  refine(s5 b0 (by omega)).trans ?_
  rw[tj,rz]; simp[fI,gm hb0]
end
def vA{P:Program}{f sz bytes:Nat}(hsz:0<sz)(hby:0<bytes)
  (hI:O8 P f sz bytes) (h0:O9 P f sz)
  {args:List ag} {M:aK} {x:ag×aK} (h:ng sz bytes args M=some x):eM P f args M x:=by
 unfold ng at h;split at h
 ·rename_i id ver sz' lo hi i tk el;rw[eJ] at h;split at h
  ·rename_i sz0 v0 xs hM;obtain⟨hc,h⟩:=db h;cases h;obtain⟨rfl,rfl,rfl,rfl,hi0,hin,hel,hroom⟩:=hc;refine nj.call ?_;intro j w vs hr hG hl hv;obtain⟨u1,u2,u3,rfl⟩:=Dx hl;have h2:=(hv 1 _ u2 rfl rfl).fM;subst h2;have h3:=(hv 2 _ u3 rfl rfl).wX;have hwe:wid [el] sz':=fun y hy=>by rw[eO.1 hy]; exact hel
   obtain⟨A,vc,rfl,_,h4⟩:=nC h3 hwe;obtain⟨vb,voff,rfl,us,hrl,hul,hone,hcell⟩:=h4.resolve_left (by simp)
   obtain⟨_,hid,_,g⟩:=(hv 0 _ u1 rfl rfl).nw;obtain⟨e1,_,_,⟨rfl,l3,B,rfl⟩|⟨b,cap,row,t0,l3,l4,l5,l6,l7⟩⟩:=(g sz0 v0 xs hM).2 rfl
   ·subst e1;have hm0:i=0:=by simp at hin; omega
    subst hm0;have hvl:us.length=sz0:=by simpa using hul
    refine(h0 B vb voff vc us w #[] hvl (fun p v hp=>(hcell p v hp).1) hone).mono ?_
    rintro e w' ⟨b',cap',row',t',rfl,d1,d2,d3,d4,q,d5⟩
    have hbk:w.heap.size<=b'/\∀b0,b0<w.heap.size->w'.heap[b0]?=w.heap[b0]?:=by
     rcases d5 with ⟨rfl,_,_,d7⟩|d5
     ·exact⟨ar _,fun b0 hb0=>d7 b0 (gm hb0) hb0⟩
     ·exact d5
    have hrel:=Rel.uq (ver':=v0+1) (xs':=[el]) hM hr q hbk.2 hbk.1 (lt_of_block d2) (by omega) (fun j' M' hx=>lC d2 hwe (hrl.mono hx.gX) (fun p hp=>by have:=d4 p (by omega); simpa using this))
    have hext:=Ext.uq (j:=j) (ver':=v0+1) (xs':=[el]) hM q hbk.2 hbk.1 (by omega)
    rw[fN];refine⟨_,_,rfl,by simpa using hrel,by simpa using hext,.dg (.inl ⟨b',0,cap',rfl,by simpa using d1⟩) (by simpa using hid) (fun bx hbx=>by rw[dC (aF hM)] at hbx; cases hbx; rfl) fun sz' v' ys hx=>?_⟩
    rw[dC (aF hM)] at hx; injection hx with hx; injection hx with e1 e2 e3
    subst e1; subst e2; subst e3;exact⟨ar _,fun _=>⟨rfl,cy _,by simp,.inr ⟨b',cap',row',t',by simp[gv],by simp,by simpa using d1,d2,by rw[aP]; exact d3⟩⟩⟩
   subst e1; subst l4;obtain⟨b',row',t',k1,k2,k3,k4,k5⟩:=hr.yb hM l3;rw[l3] at k1; cases k1;rw[l6] at k2; injection k2 with k2; injection k2 with k2 k2'
   subst k2; subst k2';have hrow:=xe (b:=b) k3 k4 k5;rw[bU] at l5;rw[aP] at l7;generalize hcs:row.toList.take (xs.length*sz0)=cs at hrow;have hcl:cs.length=xs.length*sz0:=by rw[<-hcs]; simp; omega
   have hat:∀p v,cs[p]?=some v->row[p]?=some v:=fun p v hp=>by
    have cr:p<xs.length*sz0:=by rw[<-hcl]; exact aF hp
    rw[<-hcs,bE cr] at hp; simpa using hp
   obtain⟨m,rfl⟩:∃m:Nat,i=m:=⟨i.toNat,(nY (by assumption)).symm⟩
   simp only[bg] at hin ⊢;unfold dL at hroom;have hbig:xs.length+1<=2 ^ 44:=bh (fq _ hby) hroom;have hvl:us.length=sz0:=by simpa using hul
   have hvb:vb≠b:=by
    rintro rfl;obtain⟨s,n,hs1,_⟩:=(hcell 0 _ (aj (by omega))).2.ids id hid l3
    rw[hM] at hs1; cases hs1
   rw[bU,jb];refine(hI b xs.length cap m vb voff vc cs us w row t0 hin l5 (by omega) (by omega) hvb hcl hvl l6 l7 hat (fun p v hp=>(hcell p v hp).1) (fun v hv=>?_) hone).mono ?_
   ·obtain⟨p,hp⟩:=bN hv;have hp':p<(jA xs).length:=by rw[hrow.1]; exact aF hp
    exact fF.one (hrow.2 p _ v (aj hp') hp)
   ·rintro e w' ⟨b',cap',row',t',rfl,d1,d2,d3,d4,q,d5⟩
    have hwd:wid (xs.take m++el::xs.drop m) sz0:=mQ (vk k4) (fun y hy=>by
     rcases bb.1 hy with rfl|hy
     ·exact hel
     ·exact vj k4 y hy)
    have iq:RL w (nR j M w) (jA (xs.take m++el::xs.drop m)) (cs.take (m*sz0)++(us++cs.drop (m*sz0))):=by
     rw[om,oo,rL m k4,tE m k4];have hrl':RL w (nR j M w) el.cells us:=by simpa[jA] using hrl
     exact(hrow.take _).append (hrl'.append (hrow.drop _))
    have eU:(xs.take m++el::xs.drop m).length=xs.length+1:=by simp; omega
    have hpl:(cs.take (m*sz0)++(us++cs.drop (m*sz0))).length=(xs.length+1)*sz0:=by rw[<-iq.1,ij hwd,eU]
    rw[fN];rcases d5 with ⟨rfl,rfl,d6,d7⟩|⟨d6,d7⟩
    ·have hput:=xd (ver':=v0+1) (xs':=xs.take m++el::xs.drop m) hr hM l3 q d7 l6 d2 d6 (by omega) (fun h=>by omega) hwd iq (fun p hp=>d4 p (by rw[<-hpl]; exact hp))
     refine⟨_,j,rfl,hput.1,hput.2,.dg (.inl ⟨b',0,cap',rfl,by omega⟩) (by simpa using hid) (fun bx hbx=>by rw[dC (aF hM)] at hbx; cases hbx; rfl) fun sz' v' ys hx=>?_⟩
     rw[dC (aF hM)] at hx; injection hx with hx; injection hx with e1 e2 e3
     subst e1; subst e2; subst e3;exact⟨ar _,fun _=>⟨rfl,cy _,by omega,.inr ⟨b',cap',row',t',l3,by simp,by omega,d2,by rw[aP]; exact d3⟩⟩⟩
    ·have hrel:=Rel.uq (ver':=v0+1) (xs':=xs.take m++el::xs.drop m) hM hr q d7 d6 (lt_of_block d2) (by omega) (fun j' M' hx=>lC d2 hwd (iq.mono hx.gX) (fun p hp=>d4 p (by rw[<-hpl]; exact hp)))
     have hext:=Ext.uq (j:=j) (ver':=v0+1) (xs':=xs.take m++el::xs.drop m) hM q d7 d6 (by omega)
     refine⟨_,_,rfl,hrel,hext,.dg (.inl ⟨b',0,cap',rfl,by omega⟩) (by simpa using hid) (fun bx hbx=>by rw[dC (aF hM)] at hbx; cases hbx; rfl) fun sz' v' ys hx=>?_⟩
     rw[dC (aF hM)] at hx; injection hx with hx; injection hx with e1 e2 e3
     subst e1; subst e2; subst e3;exact⟨ar _,fun _=>⟨rfl,cy _,by omega,.inr ⟨b',cap',row',t',by simp[gv],by simp,by omega,d2,by rw[aP]; exact d3⟩⟩⟩
  ·cases h
 ·rename_i i tk el;obtain⟨hc,h⟩:=db h;cases h;obtain⟨rfl,hel⟩:=hc;refine nj.call ?_;intro j w vs hr hG hl hv;obtain⟨u1,u2,u3,rfl⟩:=Dx hl;have h2:=(hv 1 _ u2 rfl rfl).fM;subst h2;have h3:=(hv 2 _ u3 rfl rfl).wX;have hwe:wid [el] sz:=fun y hy=>by rw[eO.1 hy]; exact hel
  obtain⟨A,vc,rfl,_,h4⟩:=nC h3 hwe;obtain⟨vb,voff,rfl,us,hrl,hul,hone,hcell⟩:=h4.resolve_left (by simp)
  obtain⟨B,rfl⟩:=(hv 0 _ u1 rfl rfl).Cj;have hvl:us.length=sz:=by simpa using hul
  refine(h0 B vb voff vc us w #[] hvl (fun p v hp=>(hcell p v hp).1) hone).mono ?_
  rintro e w' ⟨b',cap',row',t',rfl,d1,d2,d3,d4,q,d5⟩
  have hbk:w.heap.size<=b'/\∀b0,b0<w.heap.size->w'.heap[b0]?=w.heap[b0]?:=by
   rcases d5 with ⟨rfl,_,_,d7⟩|d5
   ·exact⟨ar _,fun b0 hb0=>d7 b0 (gm hb0) hb0⟩
   ·exact d5
  have hob:∀b,some b'=some b->w.heap.size<=b/\b<w'.heap.size:=fun b h=>by cases h; exact⟨hbk.1,lt_of_block d2⟩
  have ext:Ext j M w (gv j M.length (some b')) (M++[.arr sz 0 [el]]) w':=Ext.push (fun b h=>(hob b h).1) q hbk.2
  refine⟨_,gv j M.length (some b'),rfl,hr.push hob q hbk.2 (fun h=>by cases h) (fun sz n b h _=>by cases h) (fun sz0 v0 xs0 he=>?_),ext,?_⟩
  ·injection he with e1 e2 e3
   subst e1; subst e3;refine .inr ⟨b',row',t',rfl,d2,by simp at d1 d3 ⊢; exact bh (Nat.le_mul_of_pos_left _ (by omega)) d3,hwe,fun j' M' hx q x k c hx' hk=>?_⟩
   obtain⟨vs,t,a1,a2,a3,a4⟩:=lC (j':=j') (M':=M') d2 hwe (hrl.mono hx.gX) (fun p hp=>by have:=d4 p (by omega); simpa using this)
   rw[d2] at a1; injection a1 with a1; injection a1 with a1 a1'
   subst a1;exact a4 q x k c hx' hk
  ·refine .dg (.inl ⟨b',0,cap',rfl,by omega⟩) (by simp) (fun bx hbx=>by rw[lK] at hbx; cases hbx; rfl) fun sz' v' xs hx=>?_
   rw[lK] at hx; injection hx with hx; injection hx with e1 e2 e3
   subst e1; subst e2; subst e3;exact⟨ar _,fun _=>⟨rfl,cy _,ar _,.inr ⟨b',cap',row',t',by simp[gv],by simp,by omega,d2,by rw[aP]; exact d3⟩⟩⟩
 ·cases h
end Go.Abs
namespace Go.Proofs.YtcbopkblmebjiaaGreatDoor
open Go Go.Abs
open Go.RowKit Go.Lib
def Fu{P:Program}(w:World){o:Oper}{a:Act}{K:Act->World->Prop}{Q:Exit->Act->World->Prop}(d s:Operand)(t t':TypeId)
  (ho:o.op = .call { callee := .builtin .copy,args := #[d,s],argTypes := #[t,t'] }) (v u:Value) (hd:a.eval d=v) (hs:a.eval s=u) {v':Value} {w':World}
  (hr:(Builtin.copy_ #[t,t'] o.type #[v,u]).run P w = .ok v' w') (h:K (a.put o.dst v') w'):o.wp P a w K Q:=by
 unfold Oper.wp execOp;simp only[ho,resolve,invoke,builtin,Sem.run_bind,Sem.run_pure,Result.andThen_ok,List.map_toArray,aV,bo,hd,hs,hr];exact h
def ko{P:Program}(w:World){ops:Array Oper}{rest:List Oper}{o:Oper}{a:Act}{Q:Exit->Act->World->Prop}(hgd:o.guard=none)(d s:Operand)(t t':TypeId)
  (ho:o.op = .call { callee := .builtin .copy,args := #[d,s],argTypes := #[t,t'] }) (v u:Value) (hd:a.eval d=v) (hs:a.eval s=u) {v':Value} {w':World}
  (hr:(Builtin.copy_ #[t,t'] o.type #[v,u]).run P w = .ok v' w') (h:wpList P ops Q rest (a.put o.dst v') w'):wpList P ops Q (o::rest) a w :=
 wpList_plain hgd fun _ hK=>Fu w d s t t' ho v u hd hs hr (hK _ _ h)
def qy{P:Program}{ops:Array Oper}{o:Oper}{a:Act}{w:World}{K:Act->World->Prop}{Q:Exit->Act->World->Prop}{E:Prop}
  (hg:o.guard=none) (d x:Operand) (dT sT:TypeId) (hop:o.op=Op.call { callee:=Callee.builtin Builtin.copy,args := #[d,x],argTypes := #[dT,sT] })
  (v u:Value) (hd:a.eval d=v) (hx:a.eval x=u) {v':Value} {w':World} (hr:(Builtin.copy_ #[dT,sT] o.type #[v,u]).run P w = .ok v' w') (hK:K (a.put o.dst v') w') :
  if Region.wanted o (yielded ops a.tmps) then Oper.wp P o a w K Q else E:=by
 rw[az (show Region.wanted o (yielded ops a.tmps)=true by simp[Region.wanted,hg])]
 exact Fu w d x dT sT hop v u hd hx hr hK
def uA{P:Program}{ops:Array Oper}{o:Oper}{a:Act}{w:World}{K:Act->World->Prop}{Q:Exit->Act->World->Prop}{E:Prop}
  (hg:o.guard=none) (d x:Operand) (dT sT:TypeId) (hop:o.op=Op.call { callee:=Callee.builtin Builtin.append,args := #[d,x],argTypes := #[dT,sT] })
  (v u:Value) (hd:a.eval d=v) (hx:a.eval x=u) {v':Value} {w':World} (hr:(Builtin.append_ #[dT,sT] o.type #[v,u]).run P w = .ok v' w') (hK:K (a.put o.dst v') w') :
  if Region.wanted o (yielded ops a.tmps) then Oper.wp P o a w K Q else E:=by
 rw[az (show Region.wanted o (yielded ops a.tmps)=true by simp[Region.wanted,hg])]
 exact wp_append_run w d x dT sT hop v u hd hx v' w' hr hK
section
variable {P:Program} {S E:TypeId} {k by' f fo:Nat} {z:Value}
def xC(w:World)(dT sT ty elem:TypeId)(k b o dLen dCap:Nat)(a:Addr)(sLen sCap:Nat)(cs:List Value)(m:Nat)
  (hu:P.underlying dT=some (.slice elem)) (hs:(P.info? elem).map (·.size)=some k) (hm:m=Nat.min sLen dLen) (hn:cs.length=m*k)
  (hsrc:∀j v,cs[j]?=some v->w.cell? (a.add j)=some v) (hc:∀j,j<cs.length->(w.cell? ⟨b,o+j,none⟩).isSome=true) (hf:∀j,j<cs.length->w.frozen? ⟨b,o+j,none⟩=false) (h1:∀v∈cs,v.oneCell'=true) :
  (Builtin.copy_ #[dT,sT] ty #[.slice (some ⟨b,o,none⟩) dLen dCap,.slice (some a) sLen sCap]).run P w = .ok (goInt m) (w.setCells b o cs):=by
 have hl:=run_loadCells_list (P:=P) w a cs hsrc;have hst:=run_storeCells_cells (P:=P) b o cs 0 w (by simpa using hc) (by simpa using hf) h1
 cases hq:P.info? elem with
 |none=>simp[hq] at hs
 |some i =>
  have hi:i.size=k:=by simpa[hq] using hs
  simp only[cS] at hst;rw[hn] at hl;subst hm;simp[Builtin.copy_,run_underlying hu,Builtin.lenOf,Builtin.firstCells,sizeOf,typeInfo,hq,hi,hl,hst]
def Dm(w:World)(tS tR e:TypeId)(ht:P.underlying tS=some (.slice e))(size:Nat)(hz:∀w,(Go.sizeOf e).run P w = .ok size w)
  (a b:Addr) (la ca lb cb:Nat) (hne:a.block≠b.block) (tA tB:TypeId) (kA:Nat) (vs:Array Value) (hsa:w.shape? a.block=some (tA,kA+1)) (hb:w.heap[b.block]?=some (.cells vs tB (0,0))) :
  (Extern.SlicesOverlaps.overlaps #[tS,tS] #[tR] #[.slice (some a) la ca,.slice (some b) lb cb]).run P w = .ok (.bool false) w:=by
 have hnb:(a.block != b.block)=true:=by simpa using hne
 have hnb':(a.block==b.block)=false:=by simpa using hne
 have hsb:w.shape? b.block=some (tB,vs.size):=by simp[World.shape?,hb]
 have hfb:∀o s,w.frozen? ⟨b.block,o,s⟩=false:=fun o s=>by simp[World.frozen?,hb]
 have hfb':w.frozen? b=false:=by simp[World.frozen?,hb]
 rw[show Extern.SlicesOverlaps.overlaps #[tS,tS] #[tR] #[.slice (some a) la ca,.slice (some b) lb cb]=(underlying tS >>= _) from rfl]
 by_cases h0:la=0\/lb=0\/size=0
 ·simp[run_underlying ht,hz,h0]
 ·cases hfa:w.frozen? a with
  |true=>simp[run_underlying ht,hz,h0,hnb,hnb',frozen,noView,viewAt,mayBeOne,stringish,shape,Sem.run,hsa,hsb,hfa,hfb,hfb']
  |false =>
   cases hfe:w.frozen? { block:=a.block,off:=kA+1 } <;>
   simp[run_underlying ht,hz,h0,hnb,hnb',frozen,noView,viewAt,mayBeOne,stringish,shape,Sem.run,hsa,hsb,hfa,hfb,hfb',hfe]
def BF(w:World)(t e ty:TypeId)(ht:P.underlying t=some (.slice e)){i:TypeInfo}(hi:P.info? e=some i){z:Value}(hz:i.zero=some z)(b o n c:Nat)(hn:0<n)
  (zs:List Value) (hzs:zs=(Builtin.zeroCells z.cells n).toList) (hc:∀j,j<zs.length->(w.cell? ⟨b,o+j,none⟩).isSome=true) (hf:∀j,j<zs.length->w.frozen? ⟨b,o+j,none⟩=false) (h1:∀v∈zs,v.oneCell'=true) :
  (Builtin.clear_ #[t] ty #[.slice (some ⟨b,o,none⟩) n c]).run P w = .ok (.tuple #[]) (w.setCells b o zs):=by
 have hst:=run_storeCells_cells (P:=P) b o zs 0 w (by simpa using hc) (by simpa using hf) h1
 simp only[cS] at hst;rw[hzs] at hst;obtain⟨m,rfl⟩:∃m,n=m+1:=⟨n-1,by omega⟩
 rw[hzs];simp[Builtin.clear_,run_underlying ht,zeroValue,typeInfo,hi,hz,hst]
def qg(b:Nat)(vs:List Value)(o:Nat)(w:World)(h:∀j,j<vs.length->(w.cell? ⟨b,o+j,none⟩).isSome=true)(k:Nat)(hk:(w.cell? ⟨b,k,none⟩).isSome=true):((w.setCells b o vs).cell? ⟨b,k,none⟩).isSome=true:=by
 by_cases hin:o<=k/\k<o+vs.length
 ·have:=World.cell?_setCells_in b vs o w h (k-o) (by omega)
  rw[show o+(k-o)=k by omega] at this
  rw[this];simp
 ·rw[World.cell?_setCells_out b vs o w ⟨b,k,none⟩ (fun _ _=>by show k<o\/o+vs.length<=k; omega)]
  exact hk
structure El(P:Program)(S E:TypeId)(k by':Nat)(z:Value):Prop where
 u:P.underlying S=some (.slice E)
 i:∃i0,P.info? E=some i0/\i0.size=k/\i0.zero=some z/\i0.bytes=by'
 c:z.cells.size=k
 o:∀v∈z.cells.toList,v.oneCell'=true
 p:0<k
 b:0<by'
def El.of(hu:P.underlying S=some (.slice E))(hi:(P.info? E).map (fun i=>(i.size,i.zero,i.bytes))=some (k,some z,by'))(hc:z.cells.size=k/\z.cells.toList.all (·.oneCell')=true)(hp:0<k)(hb:0<by'):El P S E k by' z:=by
 obtain⟨i0,h1,h2⟩:=aN.1 hi;injection h2 with h2 h3
 injection h3 with h3 h4
 exact⟨hu,⟨i0,h1,h2,h3,h4⟩,hc.1,bu.1 hc.2,hp,hb⟩
def El.s(h:El P S E k by' z):(P.info? E).map (·.size)=some k:=by
 obtain⟨i0,h1,h2,_⟩:=h.i;rw[h1]; simp[h2]
def El.so(h:El P S E k by' z)(w:World):(Go.sizeOf E).run P w = .ok k w:=by
 obtain⟨i0,h1,h2,_⟩:=h.i;simp[sizeOf,typeInfo,h1,h2]
def El.q(h:El P S E k by' z):(∀(w:World)(a:Option Addr)(n c n' c':Nat),(binOp .eql S (.slice a n c) (.slice none n' c')).run P w = .ok (.bool a.isNone) w)/\∀w,Sem.run P (underlying S) w = .ok (TypeDesc.slice E) w :=
 ⟨fun w a n c n' c'=>Lib.run_eql_slice_nil w _ _ a n c n' c' h.u,run_underlying h.u⟩
def B3(P:Program)(f:Nat)(S E:TypeId):Prop:=∀(b off n c:Nat)(w:World)(K:Value->World->Prop),
 (∀ {ops:Array Oper} {rest:List Oper} {o:Oper} {a:Act} {Q:Exit->Act->World->Prop},o.guard=none->∀s x,o.op = .call { callee := .builtin .append,args := #[s,x],argTypes := #[S,S] }->a.eval s = .slice (some ⟨w.heap.size,0,none⟩) 0 0 ->
  a.eval x = .slice (some ⟨b,off,none⟩) n c->(∀v' w1,K v' w1->wpList P ops Q rest (a.put o.dst v') w1)->wpList P ops Q (o::rest) a (w.alloc (.cells #[] E))) ->
 Calls P f #[.slice (some ⟨b,off,none⟩) n c] w fun e w'=>∃v',e = .returned v'/\K v' w'
def B1(P:Program)(f:Nat)(S E:TypeId):Prop:=∀(A:Option Addr)(c:Nat)(w:World),
 (∀ty a,(Builtin.append_ #[S,S] ty #[.slice (some ⟨w.heap.size,0,none⟩) 0 0,.slice (some a) 0 c]).run P (w.alloc (.cells #[] E)) = .ok (.slice (some ⟨w.heap.size,0,none⟩) 0 0) (w.alloc (.cells #[] E))) ->
 Calls P f #[.slice A 0 c] w fun e w'=>(∃B,e = .returned (.slice B 0 0))/\(w'=w\/w'=w.alloc (.cells #[] E))
def yX(h:El P S E k by' z)(hw:B3 P f S E):BH P f E k by':=by
 intro b off n c news w hl hn hbig hc h1;obtain⟨i0,g1,g2,g3,g4⟩:=h.i;refine(hw b off n c w (fun v' w'=>w'.ownsRow w.heap.size E k v' n news/\v' ≠ .slice none 0 0/\Below w.heap.size w w') ?_).mono fun e w' ⟨v',e1,e2⟩=>⟨v',e1,e2⟩
 intro ops rest o a Q hg s x ho hs hx hK;refine wpList_append_own _ hg s x S ho w.heap.size E i0 z k by' h.u g1 g3 g2 g4 h.c h.p _ _ _ hs (World.ownsRow_made w #[] 0 (ar _) (cy _) (by simp)) ⟨b,off,none⟩ n c news hx hl (fun j u hj=>?_) h1 (by rw[aP]; exact hn) (by rw[aP]; exact hbig) (by simp) ?_
 ·rw[Addr.add_lit];exact Lib.cell?_alloc_some _ (hc j u hj)
 ·intro v' w1 hown hgrow hnil;refine hK v' w1 ⟨by simpa using hown,by simpa using hnil,?_⟩
  exact((Below.refl _ w).alloc (ar _) _).grown hgrow (by simp) (by intro k hk; simp[Value.ownBlock] at hk; omega)
def xj(h:El P S E k by' z)(hw:B1 P f S E):yP P f:=by
 intro A c w;refine(hw A c w fun ty a=>?_).mono fun e w' ⟨h1,h2⟩=>⟨h1,?_⟩
 ·simp[Builtin.append_,run_underlying h.u,h.so,Builtin.lenOf,Builtin.firstCells,loadCells,loadCellsFrom,storeCells]
 ·rcases h2 with rfl|rfl
  ·exact Below.refl _ _
  ·exact(Below.refl _ w).alloc (ar _) _
def Us(P:Program)(f:Nat)(S:TypeId)(k:Nat):Prop:=∀(blk cap i j n:Nat)(A:Addr)(w W1 W2:World),(if cap=j then some (⟨blk,0,none⟩:Addr) else some ⟨blk,j*k,none⟩)=some A ->
 (∀ty,(Builtin.append_ #[S,S] ty #[.slice (some ⟨blk,0,none⟩) i cap,.slice (some A) (n-j) (cap-j)]).run P w.drew = .ok (.slice (some ⟨blk,0,none⟩) (i+(n-j)) cap) W1) ->
 (∀ty,(Builtin.clear_ #[S] ty #[.slice (some ⟨blk,(i+(n-j))*k,none⟩) (n-(i+(n-j))) (cap-(i+(n-j)))]).run P W1 = .ok (.tuple #[]) W2) ->
 n<=cap->n<=9223372036854775807->i<n->i<=cap->i<j->j<=cap->j<=n ->
 Calls P f #[.slice (some ⟨blk,0,none⟩) n cap,.int .i64 i,.int .i64 j] w fun e w'=>e = .returned (.slice (some ⟨blk,0,none⟩) (i+(n-j)) cap)/\w'=W2
def JO(h:El P S E k by' z)(hw:Us P f S k):Xv P f k z.cells.toList:=by
 intro blk cap i j n cs w hl hcap hm hi hj hH;obtain⟨i0,g1,g2,g3,g4⟩:=h.i;have a1:j*k=i*k+k:=by rw[hj,lV]
 have a2:j*k<=n*k:=bd _ (by omega)
 have a3:(n-j)*k=n*k-j*k:=lz ..;have a4:(n-1)*k=n*k-k:=by rw[lz,fH]
 obtain⟨news,hnews⟩:∃news,news=cs.drop (j*k):=⟨_,rfl⟩;have eU:news.length=(n-j)*k:=by rw[hnews,iQ,hl,a3]
 have hsome:∀p,p<n*k->(w.cell? ⟨blk,p,none⟩).isSome=true/\w.frozen? ⟨blk,p,none⟩=false:=fun p hp=>by
  obtain⟨h1,h2,_⟩:=hH p _ (aj (by omega))
  exact⟨by rw[h1]; rfl,h2⟩
 obtain⟨A,hA,hsrc⟩:∃A:Addr,(if cap=j then some (⟨blk,0,none⟩:Addr) else some ⟨blk,j*k,none⟩)=some A/\∀t u,news[t]?=some u->w.drew.cell? (A.add t)=some u:=by
  by_cases hc:cap=j
  ·refine⟨⟨blk,0,none⟩,by simp[hc],fun t u hu=>?_⟩
   have e0:n-j=0:=by omega
   have h0:news.length=0:=by rw[eU,e0,jb]
   rw[cq.1 h0] at hu;simp at hu
  ·refine⟨⟨blk,j*k,none⟩,by simp[hc],fun t u hu=>?_⟩
   rw[hnews,cG] at hu;rw[Addr.add_lit];exact(hH _ _ hu).1
 have s2:∀u∈news,u.oneCell'=true:=by
  intro u hu;rw[hnews] at hu;obtain⟨p,hp⟩:=bN (dv hu);exact(hH p u hp).2.2
 have hW1c:∀p,p<n*k->((w.drew.setCells blk (i*k) news).cell? ⟨blk,p,none⟩).isSome=true:=fun p hp =>
  qg blk news _ w.drew (fun q hq=>(hsome (i*k+q) (by rw[eU] at hq; omega)).1) p (hsome p hp).1
 have hW1f:∀p,p<n*k->(w.drew.setCells blk (i*k) news).frozen? ⟨blk,p,none⟩=false:=fun p hp=>by
  rw[World.frozen?_setCells];exact(hsome p hp).2
 have hin:i+(n-j)=n-1:=by omega
 have hzl:z.cells.toList.length=k:=by simp[h.c]
 have hzz:∀q,q<z.cells.toList.length->(n-1)*k+q<n*k:=fun q hq=>by
  have:k<=n*k:=Nat.le_mul_of_pos_left _ (by omega)
  omega
 refine(hw blk cap i j n A w (w.drew.setCells blk (i*k) news) ((w.drew.setCells blk (i*k) news).setCells blk ((n-1)*k) z.cells.toList) hA (fun ty=>?_) (fun ty=>?_) hcap hm hi (by omega) (by omega) (by omega) (by omega)).mono ?_
 ·have hr:=run_append_room_cells (P:=P) w.drew S ty E i0 h.u g1 blk 0 i cap A (n-j) (cap-j) news (by rw[g2,eU]) hsrc s2 (by omega) (fun q hq=>by rw[g2,aP]; exact(hsome _ (by omega)).1) (fun q hq=>by rw[g2,aP]; exact(hsome _ (by omega)).2)
  rw[g2,aP] at hr;exact hr
 ·rw[hin];exact BF _ _ _ ty h.u g1 g3 blk _ _ _ (by omega) _ (by rw[show n-(n-1)=1 by omega,rm]; simp) (fun q hq=>hW1c _ (hzz q hq)) (fun q hq=>hW1f _ (hzz q hq)) h.o
 ·rintro e w' ⟨rfl,rfl⟩;exact⟨by rw[hin],by rw[hnews]⟩
def FO(P:Program)(f fo:Nat)(S:TypeId)(k:Nat):Prop:=∀(b n c i vb voff vc:Nat)(vs:List Value)(w W1:World),
 (∀lb cb,(callFunc fo #[.slice (some ⟨vb,voff,none⟩) 1 vc,.slice (some ⟨b,(i+1)*k,none⟩) lb cb]).run P w = .ok (.value (.bool false)) w) ->
 (∀ty dc sc,(Builtin.copy_ #[S,S] ty #[.slice (some ⟨b,(i+1)*k,none⟩) (n-i) dc,.slice (some ⟨b,i*k,none⟩) (n+1-i) sc]).run P w.drew = .ok (goInt ((n-i:Nat):Int)) W1) ->
 (∀W:World,(∀x,W.cell? x=W1.cell? x)->(∀x,W.frozen? x=W1.frozen? x)->∀ty dc,(Builtin.copy_ #[S,S] ty #[.slice (some ⟨b,i*k,none⟩) (n+1-i) dc,.slice (some ⟨vb,voff,none⟩) 1 vc]).run P W = .ok (goInt 1) (W.setCells b (i*k) vs)) ->
 i<n->n+1<=c->n+1<=9223372036854775807->¬((i:Int)=(n:Int))->IntKind.i64.wrap ((i:Int)+1)=(i:Int)+1->(0:Int)<=(i:Int)+1->i<=n->((i:Int)+1).toNat=i+1->¬(c=i+1)->(i:Int)<=(n:Int)+1->¬(c=i) ->
 Calls P f #[.slice (some ⟨b,0,none⟩) n c,.int .i64 i,.slice (some ⟨vb,voff,none⟩) 1 vc] w fun e w'=>e = .returned (.slice (some ⟨b,0,none⟩) (n+1) c)/\w'=W1.setCells b (i*k) vs
def O7(P:Program)(f:Nat)(S:TypeId):Prop:=∀(bM:Option Addr)(n c vb voff vc:Nat)(V:Value)(w W:World),
 (∀ty,(Builtin.append_ #[S,S] ty #[.slice bM n c,.slice (some ⟨vb,voff,none⟩) 1 vc]).run P w = .ok V W)->n<=c->n+1<=9223372036854775807->(bM=none->n=0) ->
 Calls P f #[.slice bM n c,.int .i64 n,.slice (some ⟨vb,voff,none⟩) 1 vc] w fun e w'=>e = .returned V/\w'=W
def K7(P:Program)(f:Nat)(S E:TypeId)(k:Nat):Prop:=∀(b n c i G vb voff vc:Nat)(ROW:Array Value)(vs ds:List Value)(w:World),
 (∀ty,(Builtin.append_ #[S,3] ty #[.slice (some ⟨b,0,none⟩) i c,.int .i64 ((n:Int)+1-(i:Int))]).run P w = .ok (.slice (some ⟨w.heap.size,0,none⟩) (n+1) G) (w.drew.alloc (.cells ROW E))) ->
 (∀W:World,(∀x,W.cell? x=(w.drew.alloc (.cells ROW E)).cell? x)->(∀x,W.frozen? x=(w.drew.alloc (.cells ROW E)).frozen? x)->∀ty dc,(Builtin.copy_ #[S,S] ty #[.slice (some ⟨w.heap.size,i*k,none⟩) (n+1-i) dc,.slice (some ⟨vb,voff,none⟩) 1 vc]).run P W = .ok (goInt 1) (W.setCells w.heap.size (i*k) vs)) ->
 (∀W:World,(∀x,W.cell? x=((w.drew.alloc (.cells ROW E)).setCells w.heap.size (i*k) vs).cell? x)->(∀x,W.frozen? x=((w.drew.alloc (.cells ROW E)).setCells w.heap.size (i*k) vs).frozen? x)->∀ty dc sc,
  (Builtin.copy_ #[S,S] ty #[.slice (some ⟨w.heap.size,(i+1)*k,none⟩) (n+1-(i+1)) dc,.slice (some ⟨b,i*k,none⟩) (n-i) sc]).run P W = .ok (goInt ((n-i:Nat):Int)) (W.setCells w.heap.size ((i+1)*k) ds)) ->
 (∀x,((w.alloc (.cells ROW E)).drew).cell? x=(w.drew.alloc (.cells ROW E)).cell? x)->(∀x,((w.alloc (.cells ROW E)).drew).frozen? x=(w.drew.alloc (.cells ROW E)).frozen? x) ->
 (∀x,(((w.alloc (.cells ROW E)).drew.setCells w.heap.size (i*k) vs).drew).cell? x=((w.drew.alloc (.cells ROW E)).setCells w.heap.size (i*k) vs).cell? x) ->
 (∀x,(((w.alloc (.cells ROW E)).drew.setCells w.heap.size (i*k) vs).drew).frozen? x=((w.drew.alloc (.cells ROW E)).setCells w.heap.size (i*k) vs).frozen? x) ->
 i<n->n<=c->c<n+1->¬((i:Int)=(n:Int))->(c:Int)<(n:Int)+1->n+1<=G->G<=9223372036854775807->¬(G=i)->¬(G=i+1)->¬(c=i)->IntKind.i64.wrap ((i:Int)+1)=(i:Int)+1->(0:Int)<=(i:Int)+1->i<=n->((i:Int)+1).toNat=i+1->(i:Int)<=(n:Int)->n+1<=140737488355328 ->
 Calls P f #[.slice (some ⟨b,0,none⟩) n c,.int .i64 i,.slice (some ⟨vb,voff,none⟩) 1 vc] w fun e w'=>e = .returned (.slice (some ⟨w.heap.size,0,none⟩) (n+1) G) /\
  w'=(((w.alloc (.cells ROW E)).drew.setCells w.heap.size (i*k) vs).drew).setCells w.heap.size ((i+1)*k) ds
def T6{w:World}{vb voff:Nat}{v:Value}(h0:w.cell? ⟨vb,voff,none⟩=some v):∃tA kA,w.shape? vb=some (tA,kA+1):=by
 unfold World.cell? at h0;unfold World.shape?;split at h0
 ·rename_i cc ee ff hb;simp only[hb];simp at h0;have:=(fj.1 h0).1;exact⟨ee,cc.size-1,by simp; omega⟩
 ·cases h0
def F4(h:El P S E k by' z)(h3:P.underlying 3=some (.int .i64))(ho:∀args w,(callFunc fo args).run P w=((Extern.SlicesOverlaps.overlaps #[S,S] #[4] args).run P w).andThen fun v w' => .ok (.value v) w')
  (hS:FO P f fo S k) (hE:O7 P f S) (hG:K7 P f S E k):O8 P f k by':=by
 intro b n c i vb voff vc cs vs w row tB hi hnc hbig h63 hvb hcl hvl hw hrow hat hvs h1c h1v;obtain⟨i0,hi0,hzs,hz0,hzb⟩:=h.i;have hk:=h.p;have hcs:∀(p:Nat)(v:Value),cs[p]?=some v->w.cell? ⟨b,p,none⟩=some v:=fun p v hp=>by simp[World.cell?,hw,hat p v hp]
 have hfz:∀j,w.frozen? ⟨b,j,none⟩=false:=fun j=>by simp[World.frozen?,hw]
 have a1:(n+1)*k=n*k+k:=lV ..;have a2:(i+1)*k=i*k+k:=lV ..;have a3:(n-i)*k=n*k-i*k:=lz ..;have a4:i*k<=n*k:=bd _ hi;have hdl:(cs.drop (i*k)).length=(n-i)*k:=by rw[iQ,hcl,a3]
 have hv0:=hvs 0 _ (aj (by omega))
 have hle:n+1<=140737488355328:=bh (fq _ h.b) hbig;have hw1:IntKind.i64.wrap ((i:Int)+1)=(i:Int)+1:=by rw[IntKind.wrap_i64]; omega
 have hmin:1=Nat.min 1 (n+1-i):=by simp only[Nat.min_def]; split<;>omega
 by_cases hroom:n+1<=c
 ·have hr0:(n+1)*k<=row.size:=bh (bd _ hroom) hrow
  have hsp:∀j,j<(n+1)*k->(w.cell? ⟨b,j,none⟩).isSome=true:=fun j hj=>by
   simp[World.cell?,hw,ba (show j<row.size by omega)]
  by_cases hin:i<n
  ·have a5:(i+1)*k<=n*k:=bd _ hin;obtain⟨tA,kA,hsa⟩:=T6 hv0;refine(hS b n c i vb voff vc vs w (w.drew.setCells b ((i+1)*k) (cs.drop (i*k))) (fun lb cb=>?_) (fun ty dc sc=>?_) (fun W hWc hWf ty dc=>?_) hin hroom h63 (by omega) hw1 (by omega) (by omega) (by omega) (by omega) (by omega) (by omega)).mono ?_
   ·rw[ho,Dm w S 4 E h.u k h.so ⟨vb,voff,none⟩ ⟨b,(i+1)*k,none⟩ 1 vc lb cb hvb tA tB kA row hsa hw];rfl
   ·exact xC w.drew _ _ ty E k b ((i+1)*k) (n-i) dc ⟨b,i*k,none⟩ (n+1-i) sc (cs.drop (i*k)) (n-i) h.u h.s (by simp only[Nat.min_def]; split<;>omega) hdl
     (fun j v hj=>by rw[Addr.add_lit]; exact hcs (i*k+j) v (by rwa[cG] at hj))
     (fun j hj=>hsp ((i+1)*k+j) (by omega)) (fun j hj=>hfz _) (fun v hv=>h1c v (dv hv))
   ·exact xC W _ _ ty E k b (i*k) (n+1-i) dc ⟨vb,voff,none⟩ 1 vc vs 1 h.u h.s hmin (by rw[hvl,fH])
     (fun j v hj=>by
      rw[Addr.add_lit,hWc,World.cell?_setCells_out b _ _ _ _ (fun h _=>absurd h hvb)]
      exact hvs j v hj)
     (fun j hj=>by rw[hWc]; exact qg b _ _ w.drew (fun j hj=>hsp ((i+1)*k+j) (by omega)) _ (hsp (i*k+j) (by omega)))
     (fun j hj=>by rw[hWf,World.frozen?_setCells]; exact hfz _) h1v
   ·rintro e w' ⟨he,hw'⟩;exact NH hin hroom hcl hvl hw hrow hat he hw'
  ·obtain rfl:i=n:=by omega
   refine(hE (some ⟨b,0,none⟩) i c vb voff vc (.slice (some ⟨b,0,none⟩) (i+1) c) w (w.setCells b (i*k) vs) (fun ty=>?_) hnc h63 (by simp)).mono ?_
   ·have hr:=run_append_room_cells (P:=P) w S ty E i0 h.u hi0 b 0 i c ⟨vb,voff,none⟩ 1 vc vs (by rw[hzs,hvl,fH]) (fun j u hj=>by rw[Addr.add_lit]; exact hvs j u hj) h1v hroom
     (fun j hj=>by rw[hzs,aP]; exact hsp _ (by omega)) (fun j hj=>hfz _)
    rw[hzs,aP] at hr;exact hr
   ·rintro e w' ⟨he,hw'⟩;exact Qu hroom hcl hvl hw hrow hat he hw'
 ·have hGc:=grownCap_ge w (n+1) c E
  by_cases hin:i<n
  ·have a5:(i+1)*k<=n*k:=bd _ hin;have hbw:b<w.heap.size:=lt_of_block hw;have hvw:vb<w.heap.size:=block_lt_of_cell hv0;have hik:i+(n+1-i)=n+1:=by omega
   have hold:(Builtin.firstCells i0.size i (.slice (some ⟨b,0,none⟩) i c)).run P w.drew = .ok (cs.take (i*k)).toArray w.drew:=by
    rw[hzs]
    exact run_firstCells_some w.drew k i ⟨b,0,none⟩ i c (cs.take (i*k)) (by rw[gb]; omega) (fun j v hj=>by
     rw[Addr.add_lit,aP];rw[gF] at hj;split at hj
     ·exact hcs j v hj
     ·cases hj)
   obtain⟨ROW,hROW⟩:∃ROW:Array Value,ROW=(cs.take (i*k)).toArray++Builtin.zeroCells z.cells (n+1-i)++Builtin.zeroCells z.cells (grownCap w (n+1) c E-(n+1)):=⟨_,rfl⟩
   have hRl:(n+1)*k<=ROW.size:=by
    have e1:(n+1-i)*k=(n+1)*k-i*k:=lz ..;rw[hROW];simp only[Builtin.zeroCells,fQ,Array.size_map,Array.size_range,h.c,cH,gb,hcl];omega
   have hN:∀j,j<(n+1)*k->((w.drew.alloc (.cells ROW E)).cell? ⟨w.heap.size,j,none⟩).isSome=true:=fun j hj=>by
    rw[World.cell?_alloc_at (w:=w.drew) ROW _ w.heap.size j rfl,ba (by omega)]; rfl
   have hNf:∀j,(w.drew.alloc (.cells ROW E)).frozen? ⟨w.heap.size,j,none⟩=false:=fun j=>World.frozen?_alloc_at (w:=w.drew) ROW _ w.heap.size j rfl
   have hG63:grownCap w (n+1) c E<=9223372036854775807:=by
    have:=grownCap_le_maxLen w (n+1) c E (by unfold maxLen; omega)
    unfold maxLen at this;omega
   refine(hG b n c i (grownCap w (n+1) c E) vb voff vc ROW vs (cs.drop (i*k)) w (fun ty=>?_) (fun W hWc hWf ty dc=>?_) (fun W hWc hWf ty dc sc=>?_) (fun _=>rfl) (fun _=>rfl) (fun _=>rfl) (fun _=>rfl)
    hin hnc (by omega) (by omega) (by omega) hGc hG63 (by omega) (by omega) (by omega) hw1 (by omega) (by omega) (by omega) (by omega) hle).mono ?_
   ·have hr:=Lib.run_append_grow_zeros w S 3 ty E i0 _ .i64 .i64 h.u h3 hi0 hz0 (some ⟨b,0,none⟩) i c (cs.take (i*k)) hold (n+1-i) (by omega) (by omega) (by omega) (by omega)
     (by rw[hzb]; exact bh (bd _ (by omega:n+1-i<=n+1)) (by omega)) (by rw[hzb,hik]; exact growslice_fits (by omega) hbig)
    rw[hik] at hr;rw[show(n:Int)+1-(i:Int)=((n+1-i:Nat):Int) by omega,hROW]
    exact hr
   ·exact xC W _ _ ty E k w.heap.size (i*k) (n+1-i) dc ⟨vb,voff,none⟩ 1 vc vs 1 h.u h.s hmin (by rw[hvl,fH])
     (fun j v hj=>by rw[Addr.add_lit,hWc,World.cell?_alloc_past (w:=w.drew) _ vb _ hvw]; exact hvs j v hj)
     (fun j hj=>by rw[hWc]; exact hN (i*k+j) (by omega)) (fun j hj=>by rw[hWf]; exact hNf _) h1v
   ·exact xC W _ _ ty E k w.heap.size ((i+1)*k) (n+1-(i+1)) dc ⟨b,i*k,none⟩ (n-i) sc (cs.drop (i*k)) (n-i) h.u h.s (by simp only[Nat.min_def]; split<;>omega) hdl
     (fun j v hj=>by
      rw[Addr.add_lit,hWc,World.cell?_setCells_out _ _ _ _ _ (fun h _=>absurd h (by show b≠w.heap.size; omega)),World.cell?_alloc_past (w:=w.drew) _ b _ hbw]
      exact hcs (i*k+j) v (by rwa[cG] at hj))
     (fun j hj=>by rw[hWc]; exact qg _ _ _ _ (fun t ht=>hN (i*k+t) (by omega)) _ (hN ((i+1)*k+j) (by omega)))
     (fun j hj=>by rw[hWf,World.frozen?_setCells]; exact hNf _) (fun v hv=>h1c v (dv hv))
   ·rintro e w' ⟨he,hw'⟩;rw[hROW] at hw';exact Qt hk h.c hin hcl hvl hGc he hw'
  ·obtain rfl:i=n:=by omega
   refine(hE (some ⟨b,0,none⟩) i c vb voff vc _ w _ (fun ty=>run_append_grow_src w S S ty E i0 z h.u hi0 hz0 (some ⟨b,0,none⟩) i c cs ?_ _ 1 vs ?_ (by omega) (by omega) (by rw[hzb]; exact growslice_fits (by omega) hbig)) hnc h63 (by simp)).mono ?_
   ·rw[hzs];exact run_firstCells_some w.drew k i _ i c cs hcl (fun j v hj=>by rw[Addr.add_lit,aP]; exact hcs j v hj)
   ·rw[hzs];exact Src.ofSlice w h.u ⟨vb,voff,none⟩ 1 vc vs (by rw[hvl,fH]) (fun j u hj=>by rw[Addr.add_lit]; exact hvs j u hj) h1v
   ·rintro e w' ⟨he,hw'⟩;exact zf hk h.c hcl hvl hGc he hw'
def F5(h:El P S E k by' z)(hby:by'<=140737488355328)(hE:O7 P f S):O9 P f k:=by
 intro A vb voff vc vs w row hvl hvs h1v;obtain⟨i0,hi0,hzs,hz0,hzb⟩:=h.i;refine(hE A 0 0 vb voff vc _ w _ (fun ty=>run_append_grow_src w S S ty E i0 z h.u hi0 hz0 A 0 0 [] ?_ _ 1 vs ?_ (by omega) (by omega) (by rw[hzb]; exact growslice_fits (by omega) (by omega))) (ar _) (by omega) (fun _=>rfl)).mono ?_
 ·rw[hzs];cases A with
  |none=>exact run_firstCells_none w.drew k 0 0 0
  |some a=>exact run_firstCells_some w.drew k 0 a 0 0 [] (by simp) (fun j v hj=>by simp at hj)
 ·rw[hzs];exact Src.ofSlice w h.u ⟨vb,voff,none⟩ 1 vc vs (by rw[hvl,fH]) (fun j u hj=>by rw[Addr.add_lit]; exact hvs j u hj) h1v
 ·rintro e w' ⟨he,hw'⟩;exact zf h.p h.c (by simp) hvl (grownCap_ge w 1 0 E) he hw'
end
section
set_option maxHeartbeats 4000000
set_option maxRecDepth 1000000
def mix:Tryz.prog.follows .mixedOrders=true:=by kernel_rfl
def JW:El Tryz.prog 58 129 3 32 (.agg #[.string ⟨#[]⟩,.int .i64 0,.int .i64 0]) := .of underlying58 (by kernel_rfl) ⟨rfl,rfl⟩ (by omega) (by omega)
def JV:El Tryz.prog 40 60 6 80 (.agg #[.int .i64 0,.int .i64 0,.int .i64 0,.slice none 0 0,.slice none 0 0,.int .i64 0]) := .of underlying40 (by kernel_rfl) ⟨rfl,rfl⟩ (by omega) (by omega)
def JU:El Tryz.prog 29 65 3 32 (.agg #[.string ⟨#[]⟩,.int .i64 0,.int .i64 0]) := .of underlying29 (by kernel_rfl) ⟨rfl,rfl⟩ (by omega) (by omega)
def Ve:El Tryz.prog 35 9 1 16 (.string ⟨#[]⟩) := .of underlying35 (by kernel_rfl) ⟨rfl,rfl⟩ (by omega) (by omega)
def afP:B3 Tryz.prog 218 58 129:=by
 intro b off n c w K hap;have mixed:=mix;have t25:=underlying58;obtain⟨q22,u22⟩:=JW.q
 go_enter func218,ntmps218
 go_wp2_with (at_builtin; refine hap rfl _ _ rfl rfl rfl ?_)
 intro v' w1 hK
 go_wp2
 go_ret
 exact⟨v',rfl,hK⟩
def afJ:B1 Tryz.prog 218 58 129:=by
 intro A c w hrun;have mixed:=mix;have t25:=underlying58;obtain⟨q22,u22⟩:=JW.q;cases A with
 |none =>
  go_enter func218,ntmps218
  go_wp2
  go_ret
  exact⟨⟨_,rfl⟩,.inl rfl⟩
 |some a =>
  go_enter func218,ntmps218
  go_wp2_with (at_builtin; refine Lib.wpList_append_run _ rfl _ _ _ _ rfl _ _ rfl rfl _ _ (hrun _ _) ?_)
  go_ret
  exact⟨⟨_,rfl⟩,.inr rfl⟩
def afQ:B3 Tryz.prog 234 40 60:=by
 intro b off n c w K hap;have mixed:=mix;have t25:=underlying40;obtain⟨q22,u22⟩:=JV.q
 go_enter func234,ntmps234
 go_wp2_with (at_builtin; refine hap rfl _ _ rfl rfl rfl ?_)
 intro v' w1 hK
 go_wp2
 go_ret
 exact⟨v',rfl,hK⟩
def afK:B1 Tryz.prog 234 40 60:=by
 intro A c w hrun;have mixed:=mix;have t25:=underlying40;obtain⟨q22,u22⟩:=JV.q;cases A with
 |none =>
  go_enter func234,ntmps234
  go_wp2
  go_ret
  exact⟨⟨_,rfl⟩,.inl rfl⟩
 |some a =>
  go_enter func234,ntmps234
  go_wp2_with (at_builtin; refine Lib.wpList_append_run _ rfl _ _ _ _ rfl _ _ rfl rfl _ _ (hrun _ _) ?_)
  go_ret
  exact⟨⟨_,rfl⟩,.inr rfl⟩
def afO:B3 Tryz.prog 145 29 65:=by
 intro b off n c w K hap;have mixed:=mix;have t25:=underlying29;obtain⟨q22,u22⟩:=JU.q
 go_enter func145,ntmps145
 go_wp2_with (at_builtin; refine hap rfl _ _ rfl rfl rfl ?_)
 intro v' w1 hK
 go_wp2
 go_ret
 exact⟨v',rfl,hK⟩
def afI:B1 Tryz.prog 145 29 65:=by
 intro A c w hrun;have mixed:=mix;have t25:=underlying29;obtain⟨q22,u22⟩:=JU.q;cases A with
 |none =>
  go_enter func145,ntmps145
  go_wp2
  go_ret
  exact⟨⟨_,rfl⟩,.inl rfl⟩
 |some a =>
  go_enter func145,ntmps145
  go_wp2_with (at_builtin; refine Lib.wpList_append_run _ rfl _ _ _ _ rfl _ _ rfl rfl _ _ (hrun _ _) ?_)
  go_ret
  exact⟨⟨_,rfl⟩,.inr rfl⟩
def afN:B3 Tryz.prog 107 35 9:=by
 intro b off n c w K hap;have mixed:=mix;have t25:=underlying35;obtain⟨q22,u22⟩:=Ve.q
 go_enter func107,ntmps107
 go_wp2_with (at_builtin; refine hap rfl _ _ rfl rfl rfl ?_)
 intro v' w1 hK
 go_wp2
 go_ret
 exact⟨v',rfl,hK⟩
def afH:B1 Tryz.prog 107 35 9:=by
 intro A c w hrun;have mixed:=mix;have t25:=underlying35;obtain⟨q22,u22⟩:=Ve.q;cases A with
 |none =>
  go_enter func107,ntmps107
  go_wp2
  go_ret
  exact⟨⟨_,rfl⟩,.inl rfl⟩
 |some a =>
  go_enter func107,ntmps107
  go_wp2_with (at_builtin; refine Lib.wpList_append_run _ rfl _ _ _ _ rfl _ _ rfl rfl _ _ (hrun _ _) ?_)
  go_ret
  exact⟨⟨_,rfl⟩,.inr rfl⟩
def afT:Us Tryz.prog 233 40 6:=by
 intro blk cap i j n A w W1 W2 hA hap hcl hcap hm hi hic hij hjc hjn;have mixed:=mix;have t25:=underlying40
 go_enter func233,ntmps233
 go_wp2_with fail
 go_region_law_o (refine uA rfl _ _ 40 40 rfl _ _ (by simp[Act.eval,Act.put]) (by simp[Act.eval,Act.put]) (hap _) ?_)
 go_wp2
 go_ret
 exact⟨rfl,rfl⟩
def afU:Us Tryz.prog 252 58 3:=by
 intro blk cap i j n A w W1 W2 hA hap hcl hcap hm hi hic hij hjc hjn;have mixed:=mix;have t25:=underlying58
 go_enter func252,ntmps252
 go_wp2_with fail
 go_region_law_o (refine uA rfl _ _ 58 58 rfl _ _ (by simp[Act.eval,Act.put]) (by simp[Act.eval,Act.put]) (hap _) ?_)
 go_wp2
 go_ret
 exact⟨rfl,rfl⟩
def afS:Us Tryz.prog 163 29 3:=by
 intro blk cap i j n A w W1 W2 hA hap hcl hcap hm hi hic hij hjc hjn;have mixed:=mix;have t25:=underlying29
 go_enter func163,ntmps163
 go_wp2_with fail
 go_region_law_o (refine uA rfl _ _ 29 29 rfl _ _ (by simp[Act.eval,Act.put]) (by simp[Act.eval,Act.put]) (hap _) ?_)
 go_wp2
 go_ret
 exact⟨rfl,rfl⟩
def ah6:FO Tryz.prog 249 274 40 6:=by
 intro b n c i vb voff vc vs w W1 hov hcp1 hcp2 hi hroom hc63 hz2 hw1 hb1 hin htn hb2 hb3 hb4;have mixed:=mix;have t25:=underlying40
 go_enter func249,ntmps249
 go_wp2_with (simp only[hov])
 go_region_law_o (refine qy rfl _ _ 40 40 rfl _ _ (by simp[Act.eval,Act.put]) (by simp[Act.eval,Act.put]) (hcp1 _ _ _) ?_)
 go_wp2_with (at_builtin; refine ko _ rfl _ _ 40 40 rfl _ _ rfl rfl (hcp2 _ (fun _=>rfl) (fun _=>rfl) _ _) ?_)
 go_ret
 exact⟨rfl,rfl⟩
def XM:O7 Tryz.prog 249 40:=by
 intro bM n c vb voff vc V w W hrun hnc hroom hnil;have t25:=underlying40
 go_enter func249,ntmps249
 cases bM with
 |none =>
  have h0:=hnil rfl;subst h0
  go_wp2_with (at_builtin; refine Lib.wpList_append_run _ rfl _ _ _ _ rfl _ _ rfl rfl _ _ (hrun _) ?_)
  go_ret
  exact⟨rfl,rfl⟩
 |some a =>
  obtain⟨ab,ao,asp⟩:=a
  go_wp2_with (at_builtin; refine Lib.wpList_append_run _ rfl _ _ _ _ rfl _ _ rfl rfl _ _ (hrun _) ?_)
  all_goals (go_ret; exact⟨rfl,rfl⟩)
def agR:K7 Tryz.prog 249 40 60 6:=by
 intro b n c i G vb voff vc ROW vs ds w hrz hcpA hcpB hE1 hE2 hF1 hF2 hi hnc hroom hz2 hz3 hGn hG63 hGi hGim hci hw1 hb1 hin htn hb3 hle;have mixed:=mix;have t25:=underlying40
 go_enter func249,ntmps249
 go_wp2_with (first
  |(at_builtin; refine Lib.wpList_append_run _ rfl _ _ _ _ rfl _ _ rfl rfl _ _ (hrz _) ?_)
  |(at_builtin; refine ko _ rfl _ _ 40 40 rfl _ _ rfl rfl (hcpA _ hE1 hE2 _ _) ?_)
  |(at_builtin; refine ko _ rfl _ _ 40 40 rfl _ _ rfl rfl (hcpB _ (fun _=>rfl) (fun _=>rfl) _ _ _) ?_))
 go_region_law_o (refine qy rfl _ _ 40 40 rfl (.slice (some ⟨w.heap.size,(i+1)*6,none⟩) (n+1-(i+1)) (G-(i+1))) (.slice (some ⟨b,i*6,none⟩) (n-i) (c-i)) (by simp[Act.eval,Act.put]) (by simp[Act.eval,Act.put]) (hcpB _ hF1 hF2 3 (G-(i+1)) (c-i)) ?_)
 go_wp2
 go_ret
 exact⟨rfl,rfl⟩
def ah7:FO Tryz.prog 250 276 58 3:=by
 intro b n c i vb voff vc vs w W1 hov hcp1 hcp2 hi hroom hc63 hz2 hw1 hb1 hin htn hb2 hb3 hb4;have mixed:=mix;have t25:=underlying58
 go_enter func250,ntmps250
 go_wp2_with (simp only[hov])
 go_region_law_o (refine qy rfl _ _ 58 58 rfl _ _ (by simp[Act.eval,Act.put]) (by simp[Act.eval,Act.put]) (hcp1 _ _ _) ?_)
 go_wp2_with (at_builtin; refine ko _ rfl _ _ 58 58 rfl _ _ rfl rfl (hcp2 _ (fun _=>rfl) (fun _=>rfl) _ _) ?_)
 go_ret
 exact⟨rfl,rfl⟩
def XN:O7 Tryz.prog 250 58:=by
 intro bM n c vb voff vc V w W hrun hnc hroom hnil;have t25:=underlying58
 go_enter func250,ntmps250
 cases bM with
 |none =>
  have h0:=hnil rfl;subst h0
  go_wp2_with (at_builtin; refine Lib.wpList_append_run _ rfl _ _ _ _ rfl _ _ rfl rfl _ _ (hrun _) ?_)
  go_ret
  exact⟨rfl,rfl⟩
 |some a =>
  obtain⟨ab,ao,asp⟩:=a
  go_wp2_with (at_builtin; refine Lib.wpList_append_run _ rfl _ _ _ _ rfl _ _ rfl rfl _ _ (hrun _) ?_)
  all_goals (go_ret; exact⟨rfl,rfl⟩)
def agS:K7 Tryz.prog 250 58 129 3:=by
 intro b n c i G vb voff vc ROW vs ds w hrz hcpA hcpB hE1 hE2 hF1 hF2 hi hnc hroom hz2 hz3 hGn hG63 hGi hGim hci hw1 hb1 hin htn hb3 hle;have mixed:=mix;have t25:=underlying58
 go_enter func250,ntmps250
 go_wp2_with (first
  |(at_builtin; refine Lib.wpList_append_run _ rfl _ _ _ _ rfl _ _ rfl rfl _ _ (hrz _) ?_)
  |(at_builtin; refine ko _ rfl _ _ 58 58 rfl _ _ rfl rfl (hcpA _ hE1 hE2 _ _) ?_)
  |(at_builtin; refine ko _ rfl _ _ 58 58 rfl _ _ rfl rfl (hcpB _ (fun _=>rfl) (fun _=>rfl) _ _ _) ?_))
 go_region_law_o (refine qy rfl _ _ 58 58 rfl (.slice (some ⟨w.heap.size,(i+1)*3,none⟩) (n+1-(i+1)) (G-(i+1))) (.slice (some ⟨b,i*3,none⟩) (n-i) (c-i)) (by simp[Act.eval,Act.put]) (by simp[Act.eval,Act.put]) (hcpB _ hF1 hF2 3 (G-(i+1)) (c-i)) ?_)
 go_wp2
 go_ret
 exact⟨rfl,rfl⟩
def ah5:FO Tryz.prog 160 211 29 3:=by
 intro b n c i vb voff vc vs w W1 hov hcp1 hcp2 hi hroom hc63 hz2 hw1 hb1 hin htn hb2 hb3 hb4;have mixed:=mix;have t25:=underlying29
 go_enter func160,ntmps160
 go_wp2_with (simp only[hov])
 go_region_law_o (refine qy rfl _ _ 29 29 rfl _ _ (by simp[Act.eval,Act.put]) (by simp[Act.eval,Act.put]) (hcp1 _ _ _) ?_)
 go_wp2_with (at_builtin; refine ko _ rfl _ _ 29 29 rfl _ _ rfl rfl (hcp2 _ (fun _=>rfl) (fun _=>rfl) _ _) ?_)
 go_ret
 exact⟨rfl,rfl⟩
def XL:O7 Tryz.prog 160 29:=by
 intro bM n c vb voff vc V w W hrun hnc hroom hnil;have t25:=underlying29
 go_enter func160,ntmps160
 cases bM with
 |none =>
  have h0:=hnil rfl;subst h0
  go_wp2_with (at_builtin; refine Lib.wpList_append_run _ rfl _ _ _ _ rfl _ _ rfl rfl _ _ (hrun _) ?_)
  go_ret
  exact⟨rfl,rfl⟩
 |some a =>
  obtain⟨ab,ao,asp⟩:=a
  go_wp2_with (at_builtin; refine Lib.wpList_append_run _ rfl _ _ _ _ rfl _ _ rfl rfl _ _ (hrun _) ?_)
  all_goals (go_ret; exact⟨rfl,rfl⟩)
def agQ:K7 Tryz.prog 160 29 65 3:=by
 intro b n c i G vb voff vc ROW vs ds w hrz hcpA hcpB hE1 hE2 hF1 hF2 hi hnc hroom hz2 hz3 hGn hG63 hGi hGim hci hw1 hb1 hin htn hb3 hle;have mixed:=mix;have t25:=underlying29
 go_enter func160,ntmps160
 go_wp2_with (first
  |(at_builtin; refine Lib.wpList_append_run _ rfl _ _ _ _ rfl _ _ rfl rfl _ _ (hrz _) ?_)
  |(at_builtin; refine ko _ rfl _ _ 29 29 rfl _ _ rfl rfl (hcpA _ hE1 hE2 _ _) ?_)
  |(at_builtin; refine ko _ rfl _ _ 29 29 rfl _ _ rfl rfl (hcpB _ (fun _=>rfl) (fun _=>rfl) _ _ _) ?_))
 go_region_law_o (refine qy rfl _ _ 29 29 rfl (.slice (some ⟨w.heap.size,(i+1)*3,none⟩) (n+1-(i+1)) (G-(i+1))) (.slice (some ⟨b,i*3,none⟩) (n-i) (c-i)) (by simp[Act.eval,Act.put]) (by simp[Act.eval,Act.put]) (hcpB _ hF1 hF2 3 (G-(i+1)) (c-i)) ?_)
 go_wp2
 go_ret
 exact⟨rfl,rfl⟩
end
def M7{args:List ag}{M:aK}{x:ag×aK}(h:pN 3 32 args M=some x):eM Tryz.prog 218 args M x:=wy (by omega) (by omega) (yX JW afP) (xj JW afJ) h
def M8{args:List ag}{M:aK}{x:ag×aK}(h:pN 6 80 args M=some x):eM Tryz.prog 234 args M x:=wy (by omega) (by omega) (yX JV afQ) (xj JV afK) h
def M6{args:List ag}{M:aK}{x:ag×aK}(h:pN 3 32 args M=some x):eM Tryz.prog 145 args M x:=wy (by omega) (by omega) (yX JU afO) (xj JU afI) h
def JF{args:List ag}{M:aK}{x:ag×aK}(h:xA 1 16 args M=some x):eM Tryz.prog 107 args M x:=FV (by omega) (by omega) (yX Ve afN) (xj Ve afH) h
def Ng{args:List ag}{M:aK}{x:ag×aK}(h:ou 6 args M=some x):eM Tryz.prog 233 args M x:=vt (sz:=6) (z:=(Value.agg #[.int .i64 0,.int .i64 0,.int .i64 0,.slice none 0 0,.slice none 0 0,.int .i64 0]).cells.toList) (by omega) rfl (JO JV afT) h
def Nh{args:List ag}{M:aK}{x:ag×aK}(h:ou 3 args M=some x):eM Tryz.prog 252 args M x:=vt (sz:=3) (z:=(Value.agg #[.string ⟨#[]⟩,.int .i64 0,.int .i64 0]).cells.toList) (by omega) rfl (JO JW afU) h
def Nf{args:List ag}{M:aK}{x:ag×aK}(h:ou 3 args M=some x):eM Tryz.prog 163 args M x:=vt (sz:=3) (z:=(Value.agg #[.string ⟨#[]⟩,.int .i64 0,.int .i64 0]).cells.toList) (by omega) rfl (JO JU afS) h
def NJ{args:List ag}{M:aK}{x:ag×aK}(h:ng 6 80 args M=some x):eM Tryz.prog 249 args M x:=vA (by omega) (by omega) (F4 JV underlying3 (fun args w=>run_callFunc_extern func274 (by kernel_rfl) (by kernel_rfl) (by kernel_rfl) (by kernel_rfl) args w) ah6 XM agR) (F5 JV (by omega) XM) h
def NK{args:List ag}{M:aK}{x:ag×aK}(h:ng 3 32 args M=some x):eM Tryz.prog 250 args M x:=vA (by omega) (by omega) (F4 JW underlying3 (fun args w=>run_callFunc_extern func276 (by kernel_rfl) (by kernel_rfl) (by kernel_rfl) (by kernel_rfl) args w) ah7 XN agS) (F5 JW (by omega) XN) h
def NI{args:List ag}{M:aK}{x:ag×aK}(h:ng 3 32 args M=some x):eM Tryz.prog 160 args M x:=vA (by omega) (by omega) (F4 JU underlying3 (fun args w=>run_callFunc_extern func211 (by kernel_rfl) (by kernel_rfl) (by kernel_rfl) (by kernel_rfl) args w) ah5 XL agQ) (F5 JU (by omega) XL) h
end Go.Proofs.YtcbopkblmebjiaaGreatDoor
namespace Go.Proofs
open Go.Shelf
def Tryz.IM:Go.Shelf.Ren:=⟨fun|6=>220|15=>123|14=>247|28=>190|29=>191|20=>266|21=>267|22=>268|23=>269|24=>270|25=>271|26=>272|27=>273|46=>279|47=>236|48=>237|49=>280|50=>281|57=>284|n=>n,fun|22=>58|24=>129|25=>266|3=>3|39=>163|0=>0|53=>223|55=>225|4=>4|46=>217|45=>216|50=>144|5=>5|9=>9|66=>278|70=>282|76=>297|77=>240|n=>n,fun|n=>n⟩
def Tryz.Mx:Go.Proofs.SlLaysF0.n6 Tryz.prog Tryz.IM:={
 mixed:=by kernel_rfl
 f6:=⟨Tryz.f220.name,by decide,Tryz.func220.trans (congrArg some (by kernel_rfl))⟩
 f14:=⟨Tryz.f247.name,by decide,Tryz.func247.trans (congrArg some (by kernel_rfl))⟩
 f15:=Tryz.func123.trans (congrArg some (by kernel_rfl))
 f20:=⟨Tryz.f266.name,by decide,Tryz.func266.trans (congrArg some (by kernel_rfl))⟩
 f21:=⟨Tryz.f267.name,by decide,Tryz.func267.trans (congrArg some (by kernel_rfl))⟩
 f22:=⟨Tryz.f268.name,by decide,Tryz.func268.trans (congrArg some (by kernel_rfl))⟩
 f23:=⟨Tryz.f269.name,by decide,Tryz.func269.trans (congrArg some (by kernel_rfl))⟩
 f24:=⟨Tryz.f270.name,by decide,Tryz.func270.trans (congrArg some (by kernel_rfl))⟩
 f25:=⟨Tryz.f271.name,by decide,Tryz.func271.trans (congrArg some (by kernel_rfl))⟩
 f26:=⟨Tryz.f272.name,by decide,Tryz.func272.trans (congrArg some (by kernel_rfl))⟩
 f27:=⟨Tryz.f273.name,by decide,Tryz.func273.trans (congrArg some (by kernel_rfl))⟩
 f28:=Tryz.func190.trans (congrArg some (by kernel_rfl))
 f29:=Tryz.func191.trans (congrArg some (by kernel_rfl))
 f46:=⟨Tryz.f279.name,by decide,Tryz.func279.trans (congrArg some (by kernel_rfl))⟩
 f47:=Tryz.func236.trans (congrArg some (by kernel_rfl))
 f48:=Tryz.func237.trans (congrArg some (by kernel_rfl))
 f49:=⟨Tryz.f280.name,by decide,Tryz.func280.trans (congrArg some (by kernel_rfl))⟩
 f50:=⟨Tryz.f281.name,by decide,Tryz.func281.trans (congrArg some (by kernel_rfl))⟩
 f57:=⟨Tryz.f284.name,by decide,Tryz.func284.trans (congrArg some (by kernel_rfl))⟩
 t0:=underlying0
 a0:=isAgg0
 z0:=sizeOf0
 v0:=zeroValue0
 t3:=underlying3
 a3:=isAgg3
 z3:=sizeOf3
 v3:=zeroValue3
 t4:=underlying4
 a4:=isAgg4
 z4:=sizeOf4
 v4:=zeroValue4
 t5:=underlying5
 a5:=isAgg5
 z5:=sizeOf5
 v5:=zeroValue5
 t9:=underlying9
 a9:=isAgg9
 z9:=sizeOf9
 v9:=zeroValue9
 t22:=underlying58
 a22:=isAgg58
 z22:=sizeOf58
 v22:=zeroValue58
 t25:=underlying266
 a25:=isAgg266
 z25:=sizeOf266
 v25:=zeroValue266
 t39:=underlying163
 a39:=isAgg163
 z39:=sizeOf163
 v39:=zeroValue163
 t45:=underlying216
 a45:=isAgg216
 z45:=sizeOf216
 v45:=zeroValue216
 t46:=underlying217
 a46:=isAgg217
 z46:=sizeOf217
 v46:=zeroValue217
 t50:=underlying144
 a50:=isAgg144
 z50:=sizeOf144
 v50:=zeroValue144
 t53:=underlying223
 a53:=isAgg223
 z53:=sizeOf223
 v53:=zeroValue223
 t55:=underlying225
 a55:=isAgg225
 z55:=sizeOf225
 v55:=zeroValue225
 t66:=underlying278
 a66:=isAgg278
 z66:=sizeOf278
 v66:=zeroValue278
 t70:=underlying282
 a70:=isAgg282
 z70:=sizeOf282
 v70:=zeroValue282
 t76:=underlying297
 a76:=isAgg297
 z76:=sizeOf297
 v76:=zeroValue297
 t77:=underlying240
 a77:=isAgg240
 z77:=sizeOf240
 v77:=zeroValue240 }
def Tryz.Gw:Go.Shelf.Ren:=⟨fun|6=>58|15=>123|14=>122|28=>190|29=>191|20=>182|21=>183|22=>184|23=>185|24=>186|25=>187|26=>188|27=>189|46=>235|47=>236|48=>237|49=>238|50=>239|57=>260|n=>n,fun|22=>40|24=>60|25=>110|3=>3|39=>163|0=>0|53=>223|55=>225|4=>4|46=>217|45=>216|50=>144|5=>5|9=>9|66=>278|70=>282|76=>297|77=>240|n=>n,fun|n=>n⟩
def Tryz.IQ:Go.Proofs.SlLaysF0.n6 Tryz.prog Tryz.Gw:={
 mixed:=by kernel_rfl
 f6:=⟨Tryz.f58.name,by decide,Tryz.func58.trans (congrArg some (by kernel_rfl))⟩
 f14:=⟨Tryz.f122.name,by decide,Tryz.func122.trans (congrArg some (by kernel_rfl))⟩
 f15:=Tryz.func123.trans (congrArg some (by kernel_rfl))
 f20:=⟨Tryz.f182.name,by decide,Tryz.func182.trans (congrArg some (by kernel_rfl))⟩
 f21:=⟨Tryz.f183.name,by decide,Tryz.func183.trans (congrArg some (by kernel_rfl))⟩
 f22:=⟨Tryz.f184.name,by decide,Tryz.func184.trans (congrArg some (by kernel_rfl))⟩
 f23:=⟨Tryz.f185.name,by decide,Tryz.func185.trans (congrArg some (by kernel_rfl))⟩
 f24:=⟨Tryz.f186.name,by decide,Tryz.func186.trans (congrArg some (by kernel_rfl))⟩
 f25:=⟨Tryz.f187.name,by decide,Tryz.func187.trans (congrArg some (by kernel_rfl))⟩
 f26:=⟨Tryz.f188.name,by decide,Tryz.func188.trans (congrArg some (by kernel_rfl))⟩
 f27:=⟨Tryz.f189.name,by decide,Tryz.func189.trans (congrArg some (by kernel_rfl))⟩
 f28:=Tryz.func190.trans (congrArg some (by kernel_rfl))
 f29:=Tryz.func191.trans (congrArg some (by kernel_rfl))
 f46:=⟨Tryz.f235.name,by decide,Tryz.func235.trans (congrArg some (by kernel_rfl))⟩
 f47:=Tryz.func236.trans (congrArg some (by kernel_rfl))
 f48:=Tryz.func237.trans (congrArg some (by kernel_rfl))
 f49:=⟨Tryz.f238.name,by decide,Tryz.func238.trans (congrArg some (by kernel_rfl))⟩
 f50:=⟨Tryz.f239.name,by decide,Tryz.func239.trans (congrArg some (by kernel_rfl))⟩
 f57:=⟨Tryz.f260.name,by decide,Tryz.func260.trans (congrArg some (by kernel_rfl))⟩
 t0:=underlying0
 a0:=isAgg0
 z0:=sizeOf0
 v0:=zeroValue0
 t3:=underlying3
 a3:=isAgg3
 z3:=sizeOf3
 v3:=zeroValue3
 t4:=underlying4
 a4:=isAgg4
 z4:=sizeOf4
 v4:=zeroValue4
 t5:=underlying5
 a5:=isAgg5
 z5:=sizeOf5
 v5:=zeroValue5
 t9:=underlying9
 a9:=isAgg9
 z9:=sizeOf9
 v9:=zeroValue9
 t22:=underlying40
 a22:=isAgg40
 z22:=sizeOf40
 v22:=zeroValue40
 t25:=underlying110
 a25:=isAgg110
 z25:=sizeOf110
 v25:=zeroValue110
 t39:=underlying163
 a39:=isAgg163
 z39:=sizeOf163
 v39:=zeroValue163
 t45:=underlying216
 a45:=isAgg216
 z45:=sizeOf216
 v45:=zeroValue216
 t46:=underlying217
 a46:=isAgg217
 z46:=sizeOf217
 v46:=zeroValue217
 t50:=underlying144
 a50:=isAgg144
 z50:=sizeOf144
 v50:=zeroValue144
 t53:=underlying223
 a53:=isAgg223
 z53:=sizeOf223
 v53:=zeroValue223
 t55:=underlying225
 a55:=isAgg225
 z55:=sizeOf225
 v55:=zeroValue225
 t66:=underlying278
 a66:=isAgg278
 z66:=sizeOf278
 v66:=zeroValue278
 t70:=underlying282
 a70:=isAgg282
 z70:=sizeOf282
 v70:=zeroValue282
 t76:=underlying297
 a76:=isAgg297
 z76:=sizeOf297
 v76:=zeroValue297
 t77:=underlying240
 a77:=isAgg240
 z77:=sizeOf240
 v77:=zeroValue240 }
def Tryz.JI:Go.Shelf.Ren:=⟨fun|5=>60|7=>124|n=>n,fun|22=>3|3=>3|4=>4|n=>n,fun|n=>n⟩
def Tryz.Pw:Go.Proofs.SlLaysC2.n5 Tryz.prog Tryz.JI:={
 mixed:=by kernel_rfl
 f5:=⟨Tryz.f60.name,by decide,Tryz.func60.trans (congrArg some (by kernel_rfl))⟩
 f7:=⟨Tryz.f124.name,by decide,Tryz.func124.trans (congrArg some (by kernel_rfl))⟩
 t3:=underlying3
 a3:=isAgg3
 z3:=sizeOf3
 v3:=zeroValue3
 t4:=underlying4
 a4:=isAgg4
 z4:=sizeOf4
 v4:=zeroValue4
 t22:=underlying3
 a22:=isAgg3
 z22:=sizeOf3
 v22:=zeroValue3 }
end Go.Proofs
namespace Go.Proofs.YtcbopkblmebjiaaGreatDoor
open Go Go.Shelf Go.RowKit Go.Lib Go.Sort
set_option maxHeartbeats 1000000 in
def JG(v0 v1 u0 u1:Value)(x y:Int)(W:World):Calls Tryz.prog 221 #[.agg #[v0,v1,.int .i64 x],.agg #[u0,u1,.int .i64 y]] W fun e w'=>e = .returned (.int .i64 (Lib.compareInt x y))/\∃q os',w'=grow (W.drewN q) os':=by
 have hcon:=fun W'=>AnyG.cmp_Compare_int Tryz.Pw x y W'
 change ∀W',Calls Tryz.prog 60 _ _ _ at hcon;generalize Lib.compareInt x y=r at hcon ⊢
 go_enter func221,ntmps221
 go_wp2_with (go_at_call 60; refine(hcon _).mono ?_; rintro e w' ⟨rfl,rfl⟩)
 go_ret
 exact⟨rfl,0,_,by rw[alloc_eq_grow,alloc_eq_grow,grow_grow]; rfl⟩
set_option maxHeartbeats 1000000 in
def Na(v1 v2 v3 v4 v5 u1 u2 u3 u4 u5:Value)(x y:Int)(W:World):Calls Tryz.prog 59 #[.agg #[.int .i64 x,v1,v2,v3,v4,v5],.agg #[.int .i64 y,u1,u2,u3,u4,u5]] W fun e w'=>e = .returned (.int .i64 (Lib.compareInt x y))/\∃q os',w'=grow (W.drewN q) os':=by
 have hcon:=fun W'=>AnyG.cmp_Compare_int Tryz.Pw x y W'
 change ∀W',Calls Tryz.prog 60 _ _ _ at hcon;generalize Lib.compareInt x y=r at hcon ⊢
 go_enter func59,ntmps59
 go_wp2_with (go_at_call 60; refine(hcon _).mono ?_; rintro e w' ⟨rfl,rfl⟩)
 go_ret
 exact⟨rfl,0,_,by rw[alloc_eq_grow,alloc_eq_grow,grow_grow]; rfl⟩
structure EL(sz p:Nat) where
 l:List Value
 hl:l.length=sz
 h1:∀v∈l,v.oneCell'=true
 n:Int
 hn:l[p]?=some (.int .i64 n)
def XE{sz p:Nat}(a b:EL sz p):Int:=Lib.compareInt a.n b.n
def ltE{sz p:Nat}(x y:EL sz p):ltOf XE x y=decide (x.n<y.n):=by
 unfold ltOf XE Lib.compareInt
 by_cases h1:x.n<y.n
 ·simp[h1]
 ·by_cases h2:y.n<x.n<;>simp[h1,h2]
def ah8{sz p:Nat}:SWO (ltOf (XE (sz:=sz) (p:=p))) where
 irrefl x:=by rw[ltE]; simp
 trans x y z h1 h2:=by rw[ltE] at *; simp at *; omega
 ntrans x y z h1 h2:=by rw[ltE] at *; simp at *; omega
def JJ[Inhabited (EL 3 2)](blk off size:Nat)(w:World):CmpLays Tryz.prog 221 #[] (EL.l (sz:=3) (p:=2)) 3 XE blk off size w:=fun _ _ _ _ x y=>by
 obtain⟨l,hl,h1,n,hn⟩:=x;obtain⟨l',hl',h1',n',hn'⟩:=y
 match l,hl,hn,l',hl',hn' with
 | [a,b,c],_,hn,[a',b',c'],_,hn' =>
  cases hn;cases hn';exact JG a b a' b' n n' _
def Nb[Inhabited (EL 6 0)](blk off size:Nat)(w:World):CmpLays Tryz.prog 59 #[] (EL.l (sz:=6) (p:=0)) 6 XE blk off size w:=fun _ _ _ _ x y=>by
 obtain⟨l,hl,h1,n,hn⟩:=x;obtain⟨l',hl',h1',n',hn'⟩:=y
 match l,hl,hn,l',hl',hn' with
 | [a,b,c,d,e,f],_,hn,[a',b',c',d',e',f'],_,hn' =>
  cases hn;cases hn';exact Na b c d e f b' c' d' e' f' n n' _
end Go.Proofs.YtcbopkblmebjiaaGreatDoor
namespace Go.Abs
open Go
def VJ(p:Nat)(x:ag):Option Int:=match x.cells[p]? with
 |some (.int .i64 n)=>some n
 |_=>none
def tJ(p:Nat)(x:ag):Int:=(VJ p x).getD 0
def CP(p:Nat)(x:ag):List ag->List ag
 | []=>[x]
 |y::r=>if tJ p x<tJ p y then x::y::r else y::CP p x r
def rq(p:Nat):List ag->List ag
 | []=>[]
 |x::r=>CP p x (rq p r)
def Ai(p:Nat)(x:ag):∀l,(CP p x l).Perm (x::l)
 | [] => .refl _
 |y::r=>by
  rw[CP];split
  ·exact .refl _
  ·exact((Ai p x r).cons y).trans (.swap x y r)
def tY(p:Nat):∀l,(rq p l).Perm l
 | [] => .refl _
 |x::r=>(Ai p x _).trans ((tY p r).cons x)
def LQ(p:Nat)(x:ag):∀l:List ag,l.Pairwise (fun a b=>tJ p a<=tJ p b)->(CP p x l).Pairwise fun a b=>tJ p a<=tJ p b
 | [],_=>by simp[CP]
 |y::r,h=>by
  obtain⟨h1,h2⟩:=bF.1 h;rw[CP];split
  ·rename_i cr;refine bF.2 ⟨fun b hb=>?_,h⟩
   rcases bb.1 hb with rfl|hb
   ·omega
   ·have:=h1 b hb; omega
  ·rename_i hge;refine bF.2 ⟨fun b hb=>?_,LQ p x r h2⟩
   rcases bb.1 ((Ai p x r).mem_iff.1 hb) with rfl|hb
   ·omega
   ·exact h1 b hb
def IP(p:Nat):∀l,(rq p l).Pairwise fun a b=>tJ p a<=tJ p b
 | [] => .nil
 |x::r=>LQ p x _ (IP p r)
def G5:∀ {a b:List Int},a.Pairwise (· < ·)->b.Pairwise (· < ·)->(∀m,m∈a↔m∈b)->a=b
 | [],[],_,_,_=>rfl
 | [],y::b,_,_,h=>by have:=(h y).2 aD; cases this
 |x::a,[],_,_,h=>by have:=(h x).1 aD; cases this
 |x::a,y::b,ha,hb,h=>by
  obtain⟨a1,a2⟩:=bF.1 ha;obtain⟨b1,b2⟩:=bF.1 hb
  have hxy:x=y:=by
   rcases bb.1 ((h x).1 aD) with h1|h1
   ·exact h1
   ·rcases bb.1 ((h y).2 aD) with h2|h2
    ·exact h2.symm
    ·have:=b1 x h1; have:=a1 y h2; omega
  subst hxy;rw[G5 a2 b2 (fun m=>?_)]
  constructor
  ·intro hm;rcases bb.1 ((h m).1 (aO _ hm)) with h1|h1
   ·subst h1; have:=a1 m hm; omega
   ·exact h1
  ·intro hm;rcases bb.1 ((h m).2 (aO _ hm)) with h1|h1
   ·subst h1; have:=b1 m hm; omega
   ·exact h1
def wL{l:List Int}(h:l.Pairwise (· <= ·))(hn:l.Nodup):l.Pairwise (· < ·):=by
 have:=List.Pairwise.and h hn;exact this.imp fun {a b} hab=>by have:=hab.1; have:=hab.2; omega
def Iu{l:List Int}(h:l.Nodup){i j:Nat}{a:Int}(hi:l[i]?=some a)(hj:l[j]?=some a):i=j:=by
 have hp:=bT.1 h;obtain⟨h1,e1⟩:=aC.1 hi;obtain⟨h2,e2⟩:=aC.1 hj;rcases iy i j with hh|hh|hh
 ·exact absurd (e1.trans e2.symm) (hp i j h1 h2 hh)
 ·exact hh
 ·exact absurd (e2.trans e1.symm) (hp j i h2 h1 hh)
def KW{α:Type}{p:Nat}{d d':List α}{xs:List ag}(key:α->Int)(eU:d.length=xs.length)(hkey:∀(i:Nat)(a:α)(x:ag),d[i]?=some a->xs[i]?=some x->key a=tJ p x)(hnd:(xs.map (tJ p)).Nodup)
  (hperm:d'.Perm d) (hs:d'.Pairwise fun a b=>key a<=key b) {q:Nat} {y:ag} (hy:(rq p xs)[q]?=some y):∃(i:Nat) (a:α),d'[q]?=some a/\d[i]?=some a/\xs[i]?=some y:=by
 have hmap:d.map key=xs.map (tJ p):=by
  apply cN;intro i;rw[aY,aY];rcases bG i d.length with h|h
  ·have h':i<xs.length:=by omega
   rw[aj h,aj h'];simp only[cz];rw[hkey i _ _ (aj h) (aj h')]
  ·rw[eG h,eG (by omega)]; rfl
 have p1:((rq p xs).map (tJ p)).Perm (xs.map (tJ p)):=(tY p xs).map _;have p2:(d'.map key).Perm (xs.map (tJ p)):=by rw[<-hmap]; exact hperm.map _
 have k1:((rq p xs).map (tJ p)).Pairwise (· < ·):=wL (jl.2 (IP p xs)) (p1.nodup_iff.2 hnd)
 have k2:(d'.map key).Pairwise (· < ·):=wL (jl.2 hs) (p2.nodup_iff.2 hnd)
 have heq:=G5 k1 k2 (fun m=>by rw[p1.mem_iff,p2.mem_iff])
 have h1:(d'.map key)[q]?=some (tJ p y):=by rw[<-heq,aY,hy]; rfl
 rw[aY,aN] at h1;obtain⟨a,ha,hak⟩:=h1;obtain⟨i,hi⟩:=bN (hperm.mem_iff.1 (aQ ha));have hil:=aF hi;obtain⟨j,hj⟩:=bN ((tY p xs).mem_iff.1 (aQ hy));have hx:=aj (show i<xs.length by omega)
 have hk:=hkey i a _ hi hx;have:i=j:=Iu hnd (i:=i) (j:=j) (a:=tJ p y) (by rw[aY,hx]; simp only[cz]; rw[<-hk,hak]) (by rw[aY,hj]; rfl)
 subst this;exact⟨i,a,ha,hi,hj⟩
noncomputable def vU(sz p g:Nat):List ag->aK->Option (ag×aK)
 | [.slice _ xs,.func g' cs],M=>match xs,cs with
  | [],[]=>if g'=g then some (.tuple [],M) else none
  |_,_=>none
 | [.dg id ver sz' lo hi,.func g' cs],M=>match nth M id,cs with
  |some (.arr sz0 v xs),[]=>ct (v=ver/\sz'=sz/\lo=0/\hi<=xs.length/\g'=g/\hi<=1099511627776/\(∀x,x∈xs.take hi->(VJ p x).isSome=true)/\((xs.take hi).map (tJ p)).Nodup)
    (some (.tuple [],jZ M id (.arr sz0 v (rq p (xs.take hi)++xs.drop hi))))
  |_,_=>none
 |_,_=>none
end Go.Abs
namespace Go.Proofs.YtcbopkblmebjiaaGreatDoor
open Go Go.Abs Go.Shelf Go.RowKit Go.Sort
def Dq{sz p g f:Nat}(hp:p<sz)
  (h0:∀(A:Option Addr)(cap:Nat)(fv:Value)(w:World),Calls Tryz.prog f #[.slice A 0 cap,fv] w fun e w'=>e = .returned (.tuple #[])/\w'=w)
  (hS:∀ [Inhabited (EL sz p)] (blk cap:Nat) (d:Array (EL sz p)) (w:World),HoldsK EL.l sz w blk 0 d->blk<w.heap.size->d.size<4611686018427387904 ->
   Calls Tryz.prog f #[.slice (some ⟨blk,0,none⟩) d.size cap,.func (.func g) #[] #[]] w fun e w'=>e = .returned (.tuple #[])/\∃d' n os,PermIn 0 d.size d d'/\SortedIn (ltOf XE) 0 d.size d'/\w'=sortWorldK EL.l sz w blk 0 n d' os)
  {args:List ag} {M:aK} {x:ag×aK} (h:vU sz p g args M=some x):eM Tryz.prog f args M x:=by
 unfold vU at h;split at h
 ·rename_i tk xs g' cs;split at h
  ·split at h
   ·rename_i hg;subst hg;cases h;refine nj.call ?_;intro j w vs hr hG hl hv;obtain⟨l⟩:=vs
    match l,hl with
    | [u1,u2],_ =>
     obtain⟨A,cap,b,off,sz0,vs,e1,_⟩:=(hv 0 _ u1 rfl rfl).dD.dD;subst e1;refine(h0 A cap u2 w).mono ?_;rintro e w' ⟨rfl,rfl⟩;exact⟨_,j,rfl,hr,Ext.refl _ _ _,.tuple rfl fun i c v hi=>by cases hi⟩
   ·cases h
  ·cases h
 ·rename_i ix ver sz' lo hi g' cs;rw[eJ] at h;split at h
  ·rename_i sz0 v0 xs hM;obtain⟨⟨rfl,rfl,rfl,hhi,rfl,hbig,hk,hnd⟩,h1⟩:=db h;cases h1;refine nj.call ?_;intro j w vs hr hG hl hv;obtain⟨l⟩:=vs
   match l,hl with
   | [u1,u2],_ =>
    have ha:=hv 0 _ u1 rfl rfl;obtain⟨us,hu2,hul,_⟩:=(hv 1 _ u2 rfl rfl).si;have hu0:us = #[]:=Array.eq_empty_of_size_eq_zero (by simpa using hul.symm)
    subst hu0;rw[hu2];rcases fA hi with h00|hpos
    ·subst h00;obtain⟨A,cap,e1⟩:=ha.yR;rw[e1];refine(h0 A cap _ w).mono ?_;rintro e w' ⟨rfl,rfl⟩
     have he:jZ M ix (.arr sz0 v0 (rq p (xs.take 0)++xs.drop 0))=M:=by
      rw[fN];apply cN;intro q
      by_cases e:ix=q
      ·subst e; rw[dC (aF hM),hM]; rfl
      ·rw[cC e]
     rw[he];exact⟨_,j,rfl,hr,Ext.refl _ _ _,.tuple rfl fun i c v hi=>by cases hi⟩
    ·obtain⟨_,hid,_,gg⟩:=ha.nw;obtain⟨e1,_,_,⟨hx,_⟩|⟨b,cap,row,t0,l3,l4,l5,l6,l7⟩⟩:=(gg sz0 v0 xs hM).2 rfl
     ·subst hx; simp at hhi; omega
     subst e1;obtain⟨b',row0,t',k1,k2,k3,k4,k5⟩:=hr.yb hM l3;rw[l3] at k1; cases k1;rw[l6] at k2; injection k2 with k2; injection k2 with k2 k2'
     subst k2; subst k2';have hrow:hi*sz0<=row.size:=bh (bd _ hhi) k3
     -- the elements
     have hidx:∀q k,q<hi->k<sz0->q*sz0+k<hi*sz0:=fun q k hq hk'=>by
      have:(q+1)*sz0<=hi*sz0:=bd _ hq;rw[lV] at this; omega
     have hel:∀q,q<hi->∃a:EL sz0 p,(∀k,k<sz0->a.l[k]?=row[q*sz0+k]?)/\∀x,xs[q]?=some x->a.n=tJ p x:=by
      intro q hq;have hxq:xs[q]?=some (xs[q]'(by omega)):=aj (by omega)
      have hwq:=k4 _ (aQ hxq)
      have hcell:∀k,k<sz0->∃u,row[q*sz0+k]?=some u/\∃c,(xs[q]'(by omega)).cells[k]?=some c/\fF w (nR j M w) c u:=fun k hk'=>by
       have hc:=aj (l:=(xs[q]'(by omega)).cells) (i:=k) (by omega)
       obtain⟨u,h1,h2⟩:=k5 q _ k _ hxq hc;exact⟨u,h1,_,hc,h2⟩
      have hkx:=hk _ (aQ (show(xs.take hi)[q]?=_ by rw[bE hq]; exact hxq))
      have eU:((row.toList.drop (q*sz0)).take sz0).length=sz0:=by
       have:=hidx q (sz0-1) hq (by omega)
       simp; omega
      have hget:∀k,k<sz0->((row.toList.drop (q*sz0)).take sz0)[k]?=row[q*sz0+k]?:=fun k hk'=>by
       rw[bE hk',cG]; simp
      obtain⟨u,hu1,c,hc1,hc2⟩:=hcell p hp
      obtain⟨n,hn⟩:∃n,c = .int .i64 n:=by
       unfold VJ at hkx;rw[hc1] at hkx;split at hkx
       ·rename_i hh; injection hh with hh; exact⟨_,hh⟩
       ·cases hkx
      subst hn;have hu:=(fV.plain (j:=j) (M:=M) hc2).fM;subst hu;refine⟨⟨(row.toList.drop (q*sz0)).take sz0,eU,fun v hv=>?_,n,by rw[hget p hp]; exact hu1⟩,hget,fun x hx=>?_⟩
      ·obtain⟨k,hk'⟩:=bN hv;have hkl:k<sz0:=by rw[<-eU]; exact aF hk'
       obtain⟨u,h1,c,_,h3⟩:=hcell k hkl;rw[hget k hkl,h1] at hk'; cases hk';exact h3.one
      ·rw[hxq] at hx; cases hx;simp[tJ,VJ,hc1]
     obtain⟨d,hdl,hd⟩:∃d:List (EL sz0 p),d.length=hi/\∀q a,d[q]?=some a->(∀k,k<sz0->a.l[k]?=row[q*sz0+k]?)/\∀x,xs[q]?=some x->a.n=tJ p x:=by
      refine⟨(List.finRange hi).map fun q=>(hel q.1 q.2).choose,by simp,fun q a ha=>?_⟩
      rw[aY,aN] at ha;obtain⟨i,hi',rfl⟩:=ha;have hq:q<hi:=by have:=aF hi'; simpa using this
      have:i=⟨q,hq⟩:=by
       have h1:=(aC.1 hi').2;rw[<-h1]; simp
      subst this;exact(hel q hq).choose_spec
     haveI:Inhabited (EL sz0 p):=⟨(hel 0 hpos).choose⟩
     have hget! : ∀q,q<hi->d[q]?=some d.toArray[q]! := fun q hq=>by
      rw[aj (by omega),lW d.toArray q (by simpa[hdl] using hq)]
      simp
     have hfl:∀t,t<hi*sz0->row[t]?=some (d.toArray[t / sz0]!.l[t % sz0]!):=fun t ht=>by
      have hq:t / sz0<hi:=(kh (by omega)).2 ht
      have hm:t % sz0<sz0:=iE _ (by omega)
      have h1:=(hd _ _ (hget! _ hq)).1 _ hm;rw[Nat.div_add_mod'] at h1;rw[<-h1];have h2:t % sz0<d.toArray[t / sz0]!.l.length:=by rw[(d.toArray[t / sz0]!).hl]; exact hm
      rw[aj h2,lW (d.toArray[t / sz0]!.l) (t % sz0) h2]
     have hH:HoldsK EL.l sz0 w b 0 d.toArray:=fun t ht=>by
      simp only[size_flatK,cH,hdl] at ht;rw[get_flatK _ _ _ _ (by simpa[hdl] using ht)]
      refine⟨?_,?_⟩
      ·simp only[aP,World.cell?,l6,id];exact hfl t ht
      ·simp[World.frozen?,l6]
     rw[l4,bU,jb];have hcall:=hS b cap d.toArray w hH (lt_of_block l6) (by simp[hdl]; omega)
     simp only[cH,hdl] at hcall;refine hcall.mono ?_;rintro e1 w' ⟨rfl,d',n,os,hperm,hsort,rfl⟩;obtain⟨hs1,_,hs3⟩:=hperm;simp only[cH,hdl] at hs1
     have hperm':d'.toList.Perm d:=by
      have e1:(d'.extract 0 hi).toList=d'.toList:=by rw[<-hs1]; simp
      have e2:(d.toArray.extract 0 hi).toList=d:=by rw[<-hdl]; simp
      rw[e1,e2] at hs3; exact hs3
     have hpw:d'.toList.Pairwise fun a b=>a.n<=b.n:=by
      rw[bT];intro i k hi1 hk1 hik;have hk2:k<d'.size:=by simpa using hk1
      have:=hsort i k (cy _) hik (by omega)
      rw[ltE,lW d' k hk2,lW d' i (by omega)] at this
      simp at this ⊢;omega
     have hmatch:∀(q:Nat)(y:ag),(rq p (xs.take hi))[q]?=some y->∃(i:Nat) (a:EL sz0 p),d'.toList[q]?=some a/\d[i]?=some a/\(xs.take hi)[i]?=some y:=fun q y hy =>
      KW (fun a:EL sz0 p=>a.n) (by simp[hdl]; omega) (fun i a x h1 h2=>(hd i a h1).2 x (by
       have cr:i<hi:=by have:=aF h2; simp at this; omega
       rwa[bE cr] at h2)) hnd hperm' hpw hy
     -- the world behind
     have hbk:(sortWorldK EL.l sz0 w b 0 n d' os).heap[b]?=some (.cells (Go.Sort.putCells id 0 (flatK EL.l sz0 d') row) t0 (0,0)):=by
      have cr:=lt_of_block l6
      show((w.heap.modify b (onCells (Go.Sort.putCells id 0 (flatK EL.l sz0 d'))))++os)[b]?=_
      rw[cp (by simpa using cr),eY,az rfl,l6]
      rfl
     have hq:Quiet w (sortWorldK EL.l sz0 w b 0 n d' os):=⟨by show w.heap.size<=((w.heap.modify b _)++os).size; simp,rfl,rfl,rfl⟩
     have hoth:∀b',b'≠b->b'<w.heap.size->(sortWorldK EL.l sz0 w b 0 n d' os).heap[b']?=w.heap[b']?:=fun b' hne cr=>by
      show((w.heap.modify b _)++os)[b']?=_
      rw[cp (by simpa using cr),eY,ak (dA hne)]
     have hsl:(rq p (xs.take hi)).length=hi:=by rw[(tY p _).length_eq]; simp; omega
     have hwd:wid (rq p (xs.take hi)++xs.drop hi) sz0:=mQ (fun x hx=>k4 x (di ((tY p _).mem_iff.1 hx))) (vj k4)
     have hcells:∀t,t<hi*sz0->(Go.Sort.putCells id 0 (flatK EL.l sz0 d') row)[t]?=some (d'[t / sz0]!.l[t % sz0]!):=fun t ht=>by
      unfold Go.Sort.putCells;rw[Array.getElem?_mapIdx,ba (show t<row.size by omega)]
      simp only[cz,size_flatK,hs1,aP,bU,cy,true_and,ht,aE,id];rw[get_flatK _ _ _ _ (by rw[hs1]; exact ht)]
     have hrl:RL w (nR j M w) (jA (rq p (xs.take hi)++xs.drop hi)) ((Go.Sort.putCells id 0 (flatK EL.l sz0 d') row).toList.take (xs.length*sz0)):=by
      have hpsz:(Go.Sort.putCells id 0 (flatK EL.l sz0 d') row).size=row.size:=by simp[Go.Sort.putCells]
      refine xe (b:=b) (by rw[hpsz]; simpa[hsl,cR hhi] using k3) hwd (fun q x k c hx hkc=>?_) |> fun h=>by
       have e:(rq p (xs.take hi)++xs.drop hi).length=xs.length:=by simp[hsl]; omega
       rwa[e] at h
      have hkl:k<sz0:=by rw[<-hwd x (aQ hx)]; exact aF hkc
      rcases bG q hi with hq'|hq'
      ·rw[bj (by rw[hsl]; exact hq')] at hx
       obtain⟨i,a,h1,h2,h3⟩:=hmatch q x hx;have hi':i<hi:=by have:=aF h3; simp at this; omega
       rw[bE hi'] at h3;obtain⟨u,g1,g2⟩:=k5 i x k c h3 hkc;refine⟨u,?_,g2⟩;rw[hcells _ (hidx q k hq' hkl)];have hdv:(q*sz0+k) / sz0=q:=by rw[Nat.mul_comm,Nat.mul_add_div (by omega),Nat.div_eq_of_lt hkl]; rfl
       have hmd:(q*sz0+k) % sz0=k:=by rw[Nat.mul_comm,Nat.mul_add_mod,Nat.mod_eq_of_lt hkl]
       rw[hdv,hmd]
       have ha':d'[q]! = a:=by
        have hq2:q<d'.size:=by omega
        rw[lW d' q hq2];simpa[ba hq2] using h1
       rw[ha',<-g1,<-(hd i a h2).1 k hkl];have:k<a.l.length:=by rw[a.hl]; exact hkl
       rw[aj this,lW a.l k this]
      ·rw[bq (by rw[hsl]; exact hq'),hsl,cG,cR hq'] at hx
       obtain⟨u,g1,g2⟩:=k5 q x k c hx hkc;refine⟨u,?_,g2⟩;unfold Go.Sort.putCells;have hge:hi*sz0<=q*sz0+k:=bh (bd _ hq') (Nat.le_add_right _ _);rw[Array.getElem?_mapIdx,g1];simp only[cz,size_flatK,hs1,aP];rw[ak (by omega)]
     rw[fN]
     have hput:=xd (ver':=v0) (xs':=rq p (xs.take hi)++xs.drop hi) hr hM l3 hq hoth l6 hbk (by simp[Go.Sort.putCells]) (ar _) (fun _=>by simp[hsl]; omega) hwd hrl (fun t ht=>by
      rw[bE (by simp at ht; omega)]; simp)
     exact⟨_,j,rfl,hput.1,hput.2,.tuple rfl fun i c v hi=>by cases hi⟩
  ·cases h
 ·cases h
def T9{args:List ag}{M:aK}{x:ag×aK}(h:vU 3 2 221 args M=some x):eM Tryz.prog 220 args M x :=
 Dq (by omega) (fun A cap fv w=>AnyF.slices_SortFunc_none Tryz.Mx A cap fv w)
  (fun blk cap d w hH hb hs=>(AnyQ.slices_SortFunc Tryz.Mx 3 isAgg129 sizeOf129 EL.l (fun x=>x.hl) (fun x=>x.h1) XE ah8 221 #[] blk 0 cap d w (enters_of func221 (by kernel_rfl) rfl) (JJ blk 0 d.size w) hH hb hs)) h
def Xe{args:List ag}{M:aK}{x:ag×aK}(h:vU 6 0 59 args M=some x):eM Tryz.prog 58 args M x :=
 Dq (by omega) (fun A cap fv w=>AnyF.slices_SortFunc_none Tryz.IQ A cap fv w)
  (fun blk cap d w hH hb hs=>(AnyQ.slices_SortFunc Tryz.IQ 6 isAgg60 sizeOf60 EL.l (fun x=>x.hl) (fun x=>x.h1) XE ah8 59 #[] blk 0 cap d w (enters_of func59 (by kernel_rfl) rfl) (Nb blk 0 d.size w) hH hb hs)) h
end Go.Proofs.YtcbopkblmebjiaaGreatDoor
namespace Go.Proofs.YtcbopkblmebjiaaGreatDoor
open Go Go.Abs
open Go.RowKit
set_option maxHeartbeats 1000000 in
set_option maxRecDepth 100000 in
def JM(a b:ByteArray)(w:World) :
  Calls Tryz.prog 199 #[.string a,.string b] w fun e w'=>e = .returned (.int .i64 (Lib.compareBytes a.data.toList b.data.toList))/\w'=w:=by
 go_enter func199,ntmps199
 go_wp2
 rw[run_callFunc_extern func244 (by kernel_rfl) (by kernel_rfl) (by kernel_rfl) (e:=Extern.BytealgCompare.compare) (by kernel_rfl),Lib.run_compareString]
 simp only[Result.andThen];rw[Oper.upon_value]
 go_wp2
 go_ret
 exact⟨rfl,rfl⟩
noncomputable def zo:List ag->aK->Option (ag×aK)
 | [.str a,.str b],M=>some (.int .i64 (Lib.compareBytes a b),M)
 |_,_=>none
def Hh{args:List ag}{M:aK}{x:ag×aK}(h:zo args M=some x):eM Tryz.prog 199 args M x:=by
 unfold zo at h;split at h
 ·rename_i a b;cases h;refine nj.call ?_;intro j w vs hr hG hl hv;obtain⟨l⟩:=vs
  match l,hl with
  | [u1,u2],_ =>
   have h1:=(hv 0 _ u1 rfl rfl).jU;have h2:=(hv 1 _ u2 rfl rfl).jU;subst h1; subst h2;refine(JM (bs a) (bs b) w).mono ?_;rintro e w' ⟨rfl,rfl⟩;exact⟨_,j,rfl,hr,.refl _ _ _,.plain (.int _ _)⟩
 ·cases h
end Go.Proofs.YtcbopkblmebjiaaGreatDoor
namespace Go.Proofs
open Go.Shelf
def Tryz.Bk:Go.Shelf.Ren:=⟨fun|156=>131|165=>196|166=>197|169=>198|240=>242|241=>243|276=>263|277=>264|n=>n,fun|31=>35|9=>9|3=>3|4=>4|0=>0|20=>20|72=>233|76=>234|70=>231|37=>23|75=>137|127=>284|164=>197|5=>5|80=>236|n=>n,fun|n=>n⟩
def Tryz.LV:Go.Proofs.Lays.n156 Tryz.prog Tryz.Bk:={
 mixed:=by kernel_rfl
 f156:=Tryz.func131.trans (congrArg some (by kernel_rfl))
 f165:=Tryz.func196.trans (congrArg some (by kernel_rfl))
 f166:=Tryz.func197.trans (congrArg some (by kernel_rfl))
 f169:=Tryz.func198.trans (congrArg some (by kernel_rfl))
 f240:=Tryz.func242.trans (congrArg some (by kernel_rfl))
 f241:=Tryz.func243.trans (congrArg some (by kernel_rfl))
 f276:=Tryz.func263.trans (congrArg some (by kernel_rfl))
 f277:=Tryz.func264.trans (congrArg some (by kernel_rfl))
 t0:=underlying0
 a0:=isAgg0
 z0:=sizeOf0
 v0:=zeroValue0
 t3:=underlying3
 a3:=isAgg3
 z3:=sizeOf3
 v3:=zeroValue3
 t4:=underlying4
 a4:=isAgg4
 z4:=sizeOf4
 v4:=zeroValue4
 t9:=underlying9
 a9:=isAgg9
 z9:=sizeOf9
 v9:=zeroValue9
 t20:=underlying20
 a20:=isAgg20
 z20:=sizeOf20
 v20:=zeroValue20
 t31:=underlying35
 a31:=isAgg35
 z31:=sizeOf35
 v31:=zeroValue35
 t37:=underlying23
 a37:=isAgg23
 z37:=sizeOf23
 v37:=zeroValue23
 t70:=underlying231
 a70:=isAgg231
 z70:=sizeOf231
 v70:=zeroValue231
 t72:=underlying233
 a72:=isAgg233
 z72:=sizeOf233
 v72:=zeroValue233
 t75:=underlying137
 a75:=isAgg137
 z75:=sizeOf137
 v75:=zeroValue137
 t76:=underlying234
 a76:=isAgg234
 z76:=sizeOf234
 v76:=zeroValue234
 t127:=underlying284
 a127:=isAgg284
 z127:=sizeOf284
 v127:=zeroValue284
 t164:=underlying197
 a164:=isAgg197
 z164:=sizeOf197
 v164:=zeroValue197 }
def Tryz.uc:Builder.Extra Tryz.prog Tryz.Bk:={
 sizeBuilder:=by kernel_rfl
 liesBuilder:=by kernel_rfl
 t5:=underlying5
 a5:=isAgg5
 z5:=sizeOf5
 v5:=zeroValue5
 infoByte:=by kernel_rfl
 cellsByte:=by kernel_rfl
 sizeByte:=by kernel_rfl
 neB5:=by decide }
open Go.RowKit in
def Tryz.strings_Join_none(a:Option Addr)(c:Nat)(sep:ByteArray)(w:World) :
  Calls Tryz.prog 131 #[.slice a 0 c,.string sep] w fun e w'=>e = .returned (.string ⟨#[]⟩)/\w'=w:=Any.strings_Join_none Tryz.LV Tryz.uc a c sep w
open Go.RowKit in
def Tryz.strings_Join(bk o c:Nat)(xs:List ByteArray)(sep:ByteArray)(w:World)(hcells:∀(j:Nat) x,xs[j]?=some x->w.cell? ⟨bk,o+j,none⟩=some (.string x))(hbk:bk<w.heap.size)(hN:xs.length<=140737488355328)(hcap:xs.length<=c)(eU:(Lib.join (xs.map (·.data.toList)) sep.data.toList).length<=140737488355328) :
  Calls Tryz.prog 131 #[.slice (some ⟨bk,o,none⟩) xs.length c,.string sep] w fun e w'=>e = .returned (.string ⟨(Lib.join (xs.map (·.data.toList)) sep.data.toList).toArray⟩)/\Below w.heap.size w w':=Any.strings_Join Tryz.LV Tryz.uc bk o c xs sep w hcells hbk hN hcap eU
def Tryz.H2:Go.Shelf.Ren:=⟨fun|137=>194|217=>241|266=>262|n=>n,fun|9=>9|5=>5|3=>3|n=>n,fun|n=>n⟩
def Tryz.VL:Go.Proofs.Lays.n137 Tryz.prog Tryz.H2:={
 mixed:=by kernel_rfl
 f137:=Tryz.func194.trans (congrArg some (by kernel_rfl))
 f217:=Tryz.func241.trans (congrArg some (by kernel_rfl))
 f266:=Tryz.func262.trans (congrArg some (by kernel_rfl))
 t3:=underlying3
 a3:=isAgg3
 z3:=sizeOf3
 v3:=zeroValue3
 t5:=underlying5
 a5:=isAgg5
 z5:=sizeOf5
 v5:=zeroValue5
 t9:=underlying9
 a9:=isAgg9
 z9:=sizeOf9
 v9:=zeroValue9 }
open Go.RowKit in
def Tryz.strings_IndexByte(s:ByteArray)(c:Int)(w:World) :
  Calls Tryz.prog 194 #[.string s,.int .u8 c] w fun e w'=>e = .returned (.int .i64 (Lib.indexByte s.data.toList c.toNat.toUInt8))/\w'=w:=Any.strings_IndexByte Tryz.VL s c w
end Go.Proofs
namespace Go.Proofs.YtcbopkblmebjiaaGreatDoor
open Go Go.Abs
open Go.RowKit
def Bt{P:Program}{f:Nat}{args:List ag}{M:aK}{r:ag}
  (h:∀(j:J)(w:World)(vs:Array Value),Rel j M w->su j M w->args.length=vs.size->(∀(i:Nat)(c:ag)(v:Value),args[i]?=some c->vs[i]?=some v->fV j M w c v) ->
   Calls P f vs w fun e w'=>∃v,e = .returned v/\Below w.heap.size w w'/\fV j M w' r v):eM P f args M (r,M):=by
 refine nj.call ?_;intro j w vs hr hG hl hv;refine(h j w vs hr hG hl hv).mono ?_;rintro e w' ⟨v,rfl,hb,hrep⟩;exact⟨v,j,rfl,hr.grow hb.size hb.os hb.tape hb.output hb.block,Ext.grow hb.size hb.os hb.tape hb.output hb.block,hrep⟩
def yB:List ag->aK->Option (ag×aK)
 | [.str s,.int k c],M=>if k = .u8 then some (.int .i64 (Lib.indexByte s c.toNat.toUInt8),M) else none
 |_,_=>none
def Kc{args:List ag}{M:aK}{x:ag×aK}(h:yB args M=some x):eM Tryz.prog 194 args M x:=by
 unfold yB at h;split at h
 ·rename_i s k c;split at h
  ·rename_i hk;subst hk;cases h;refine Bt fun j w vs hr hG hl hv=>?_
   obtain⟨l⟩:=vs
   match l,hl with
   | [u1,u2],_ =>
    obtain rfl:=(hv 0 _ u1 rfl rfl).jU;obtain rfl:=(hv 1 _ u2 rfl rfl).fM;refine(Tryz.strings_IndexByte (bs s) c w).mono ?_;rintro e w' ⟨rfl,rfl⟩;exact⟨_,rfl,Below.refl _ _,by simp[bs]; exact .plain (.int _ _)⟩
  ·cases h
 ·cases h
def AQ:List ag->Option (List (List UInt8))
 | []=>some []
 | .str s::r=>bI (AQ r) fun l=>some (s::l)
 |_=>none
def Fe:∀ {xs:List ag} {l:List (List UInt8)},AQ xs=some l->xs=l.map .str
 | [],l,h=>by cases h; rfl
 |x::r,l,h=>by
  unfold AQ at h;split at h
  ·rename_i e; cases e
  ·rename_i s r' e;injection e with e1 e2; subst e1; subst e2
   obtain⟨l',h1,h2⟩:=bn h;cases h2;rw[Fe h1]; rfl
  ·cases h
def Iw:List ag->aK->Option (ag×aK)
 | [.slice _ xs,.str sep],M=>bI (AQ xs) fun l=>if l.length<=140737488355328/\(Lib.join l sep).length<=140737488355328 then some (.str (Lib.join l sep),M) else none
 |_,_=>none
def agU{args:List ag}{M:aK}{x:ag×aK}(h:Iw args M=some x):eM Tryz.prog 131 args M x:=by
 unfold Iw at h;split at h
 ·rename_i tk xs sep;obtain⟨l,hl0,h⟩:=bn h;have hxs:=Fe hl0;split at h
  ·rename_i hs;cases h;refine Bt fun j w vs hr hG hl hv=>?_
   obtain⟨us⟩:=vs
   match us,hl with
   | [u1,u2],_ =>
    obtain⟨A,cap,b,off,sz,vs,e1,e2,e3,e4,e5,e6⟩:=(hv 0 _ u1 rfl rfl).dD.dD;obtain rfl:=(hv 1 _ u2 rfl rfl).jU;subst e1;subst hxs;cases l with
    |nil =>
     refine(Tryz.strings_Join_none A cap (bs sep) w).mono ?_;rintro e w' ⟨rfl,rfl⟩;exact⟨_,rfl,Below.refl _ _,.plain (.str _)⟩
    |cons s0 l =>
     obtain rfl:=e3 (by simp)
     have hsz:sz=1:=(e4 (.str s0) (by simp)).symm
     subst hsz
     have cell:∀(q:Nat)(s:List UInt8),(s0::l)[q]?=some s->w.cell? ⟨b,off+q,none⟩=some (.string (bs s)):=fun q s hq=>by
      have hq':((s0::l).map ag.str)[q]?=some (.str s):=by rw[aY,hq]; rfl
      have k1:=e5 q _ 0 (.str s) hq' rfl;have k2:=(fV.plain (j:=j) (M:=M) (e6 q _ 0 (.str s) hq' rfl)).jU;simp only[Nat.mul_one,cS] at k1 k2;rw[k1.1,k2]
     have hmap:((s0::l).map bs).map (·.data.toList)=s0::l:=by
      rw[fT]; conv=>rhs; rw[<-List.map_id (s0::l)]
      exact bW fun s _=>by simp[bs]
     have hd:(bs sep).data.toList=sep:=by simp[bs]
     have hb:b<w.heap.size:=by
      have:=cell 0 s0 rfl;rcases bG b w.heap.size with h|h
      ·exact h
      ·simp[World.cell?,gU h] at this
     have hJ:=Tryz.strings_Join b off cap ((s0::l).map bs) (bs sep) w (fun q x hq=>by
      rw[aY,aN] at hq;obtain⟨s,hs,rfl⟩:=hq;exact cell q s hs) hb (by simpa using hs.1) (by simpa using e2) (by rw[hmap,hd]; exact hs.2)
     rw[hmap,hd] at hJ;have:((s0::l).map bs).length=((s0::l).map ag.str).length:=by simp
     rw[this] at hJ;refine hJ.mono ?_;rintro e w' ⟨rfl,hb⟩;exact⟨_,rfl,hb,.plain (.str _)⟩
  ·cases h
 ·cases h
end Go.Proofs.YtcbopkblmebjiaaGreatDoor
namespace Go.Abs
open Go
def TG0:(∀B M b,ag.jm B M (.bool b)=(.bool b)/\ag.jz B M (.bool b)=(.bool b)/\ag.jN B M (.bool b)=(.bool b)/\ag.nS B M (.bool b)=(.bool b)/\ag.jT B M (.bool b)=(.bool b)/\ag.j9 B M (.bool b)=(.bool b)/\ag.mf B M (.bool b)=(.bool b)) /\
  (∀b,ag.shut (.bool b)=(.bool b)/\ag.fZ (.bool b)=(.bool b)/\ag.jR (.bool b)=false/\ag.cells? (.bool b)=some [(.bool b)]/\ag.kW (.bool b)=true/\ag.plainCell (.bool b)=true/\ag.plain (.bool b)=true/\ag.cells (.bool b)=[(.bool b)]/\ag.hU (.bool b)=[]/\ag.mL (.bool b)=[]/\ag.ids (.bool b)=[]) /\
  (∀M b,ag.pn M (.bool b)=(.bool b)/\ag.yq M (.bool b)=(.bool b)) /\
  (∀B M k n,ag.jm B M (.int k n)=(.int k n)/\ag.jz B M (.int k n)=(.int k n)/\ag.jN B M (.int k n)=(.int k n)/\ag.nS B M (.int k n)=(.int k n)/\ag.jT B M (.int k n)=(.int k n)/\ag.j9 B M (.int k n)=(.int k n)/\ag.mf B M (.int k n)=(.int k n)) /\
  (∀k n,ag.shut (.int k n)=(.int k n)/\ag.fZ (.int k n)=(.int k n)/\ag.jR (.int k n)=false/\ag.cells? (.int k n)=some [(.int k n)]/\ag.kW (.int k n)=true/\ag.plainCell (.int k n)=true/\ag.plain (.int k n)=true/\ag.cells (.int k n)=[(.int k n)]/\ag.hU (.int k n)=[]/\ag.mL (.int k n)=[]/\ag.ids (.int k n)=[]) /\
  (∀M k n,ag.pn M (.int k n)=(.int k n)/\ag.yq M (.int k n)=(.int k n)) /\
  (∀B M s,ag.jm B M (.str s)=(.str s)/\ag.jz B M (.str s)=(.str s)/\ag.jN B M (.str s)=(.str s)/\ag.nS B M (.str s)=(.str s)/\ag.jT B M (.str s)=(.str s)/\ag.j9 B M (.str s)=(.str s)/\ag.mf B M (.str s)=(.str s)) /\
  (∀s,ag.shut (.str s)=(.str s)/\ag.fZ (.str s)=(.str s)/\ag.jR (.str s)=false/\ag.cells? (.str s)=some [(.str s)]/\ag.kW (.str s)=true/\ag.plainCell (.str s)=true/\ag.plain (.str s)=true/\ag.cells (.str s)=[(.str s)]/\ag.hU (.str s)=[]/\ag.mL (.str s)=[]/\ag.ids (.str s)=[]):=by
 repeat' (first|rfl|intro _|apply And.intro)
def TG1:(∀M s,ag.pn M (.str s)=(.str s)/\ag.yq M (.str s)=(.str s)) /\
  (∀B M id off,ag.jm B M (.ptr id off)=(if id<B then (.ptr id off) else .any)/\ag.jz B M (.ptr id off)=(if id<B then (.ptr id off) else .any)/\ag.jN B M (.ptr id off)=(if id<B then (.ptr id off) else .any)/\ag.nS B M (.ptr id off)=(if id<B then (.ptr id off) else .any)/\ag.jT B M (.ptr id off)=(if id<B then (.ptr id off) else .any)/\ag.j9 B M (.ptr id off)=(if id<B then (.ptr id off) else .any)/\ag.mf B M (.ptr id off)=(if id<B then (.ptr id off) else .any)) /\
  (∀id off,ag.shut (.ptr id off)=(.ptr id off)/\ag.fZ (.ptr id off)=(.ptr id off)/\ag.jR (.ptr id off)=false/\ag.cells? (.ptr id off)=some [(.ptr id off)]/\ag.kW (.ptr id off)=true/\ag.plainCell (.ptr id off)=false/\ag.plain (.ptr id off)=false/\ag.cells (.ptr id off)=[(.ptr id off)]/\ag.hU (.ptr id off)=[id]/\ag.mL (.ptr id off)=[id]/\ag.ids (.ptr id off)=[id]) /\
  (∀M id off,ag.pn M (.ptr id off)=(.ptr id off)/\ag.yq M (.ptr id off)=(.ptr id off)) /\
  (∀B M cs,ag.jm B M (.jd cs)=(.jd cs)/\ag.jz B M (.jd cs)=(.jd cs)/\ag.jN B M (.jd cs)=(.jd cs)/\ag.nS B M (.jd cs)=(.jd cs)/\ag.jT B M (.jd cs)=(.jd cs)/\ag.j9 B M (.jd cs)=(.jd cs)/\ag.mf B M (.jd cs)=(.jd cs)) /\
  (∀cs,ag.shut (.jd cs)=(.jd cs)/\ag.fZ (.jd cs)=(.jd cs)/\ag.jR (.jd cs)=false/\ag.cells? (.jd cs)=some [(.jd cs)]/\ag.kW (.jd cs)=true/\ag.plainCell (.jd cs)=false/\ag.plain (.jd cs)=false/\ag.cells (.jd cs)=[(.jd cs)]/\ag.hU (.jd cs)=[]/\ag.mL (.jd cs)=[]/\ag.ids (.jd cs)=[]) /\
  (∀M cs,ag.pn M (.jd cs)=(.jd cs)/\ag.yq M (.jd cs)=(.jd cs)) /\
  (∀B M f cs,ag.jm B M (.func f cs) = .any/\ag.jz B M (.func f cs) = .func f (cs.map (ag.jm B M))/\ag.jN B M (.func f cs) = .func f (cs.map (ag.jm B M))/\ag.nS B M (.func f cs) = .func f (cs.map (ag.jm B M))/\ag.jT B M (.func f cs) = .func f (cs.map (ag.jm B M))/\ag.j9 B M (.func f cs) = .func f (cs.map (ag.jm B M))/\ag.mf B M (.func f cs) = .func f (cs.map (ag.jm B M))):=by
 repeat' (first|rfl|intro _|apply And.intro)
def TG2:(∀f cs,ag.shut (.func f cs)=(.func f cs)/\ag.fZ (.func f cs)=(.func f cs)/\ag.jR (.func f cs)=false/\ag.cells? (.func f cs)=some [(.func f cs)]/\ag.kW (.func f cs)=true/\ag.plainCell (.func f cs)=false/\ag.plain (.func f cs)=false/\ag.cells (.func f cs)=[(.func f cs)]/\ag.hU (.func f cs)=[]/\ag.mL (.func f cs)=cs.flatMap ag.hU/\ag.ids (.func f cs)=cs.flatMap ag.hU) /\
  (∀M f cs,ag.pn M (.func f cs)=(.func f cs)/\ag.yq M (.func f cs)=(.func f cs)) /\
  (∀B M id,ag.jm B M (.gD id)=(if id<B then (.gD id) else .any)/\ag.jz B M (.gD id)=(if id<B then (.gD id) else .any)/\ag.jN B M (.gD id)=(if id<B then (.gD id) else .any)/\ag.nS B M (.gD id)=(if id<B then (.gD id) else .any)/\ag.jT B M (.gD id)=(if id<B then .gD id else match M[id]? with|some (.map ks vs)=>if vs.all ag.plain&&ks.all ag.plainCell then .iB ks vs else .any|_ => .any)/\ag.j9 B M (.gD id)=(if id<B then .gD id else match M[id]? with|some (.map ks vs)=>if vs.all ag.plain&&ks.all ag.plainCell then .iB ks vs else .any|_ => .any)/\ag.mf B M (.gD id)=(if id<B then .gD id else match M[id]? with|some (.map ks vs)=>if vs.all ag.plain&&ks.all ag.plainCell then .iB ks vs else .any|_ => .any)) /\
  (∀id,ag.shut (.gD id)=(.gD id)/\ag.fZ (.gD id)=(.gD id)/\ag.jR (.gD id)=false/\ag.cells? (.gD id)=some [(.gD id)]/\ag.kW (.gD id)=true/\ag.plainCell (.gD id)=false/\ag.plain (.gD id)=false/\ag.cells (.gD id)=[(.gD id)]/\ag.hU (.gD id)=[id]/\ag.mL (.gD id)=[id]/\ag.ids (.gD id)=[id]) /\
  (∀M id,ag.pn M (.gD id)=(.gD id)/\ag.yq M (.gD id)=(.gD id)) /\
  (∀B M id,ag.jm B M (.jx id)=(if id<B then (.jx id) else .any)/\ag.jz B M (.jx id)=(if id<B then (.jx id) else .any)/\ag.jN B M (.jx id)=(if id<B then (.jx id) else .any)/\ag.nS B M (.jx id)=(if id<B then (.jx id) else .any)/\ag.jT B M (.jx id)=(if id<B then (.jx id) else .any)/\ag.j9 B M (.jx id)=(if id<B then (.jx id) else .any)/\ag.mf B M (.jx id)=(if id<B then (.jx id) else .any)) /\
  (∀id,ag.shut (.jx id)=(.jx id)/\ag.fZ (.jx id)=(.jx id)/\ag.jR (.jx id)=false/\ag.cells? (.jx id)=some [(.jx id)]/\ag.kW (.jx id)=true/\ag.plainCell (.jx id)=false/\ag.plain (.jx id)=false/\ag.cells (.jx id)=[(.jx id)]/\ag.hU (.jx id)=[id]/\ag.mL (.jx id)=[id]/\ag.ids (.jx id)=[id]) /\
  (∀M id,ag.pn M (.jx id)=(.jx id)/\ag.yq M (.jx id)=(.jx id)):=by
 repeat' (first|rfl|intro _|apply And.intro)
def TG3:(∀B M ks vs,ag.jm B M (.iB ks vs)=(.iB ks vs)/\ag.jz B M (.iB ks vs)=(.iB ks vs)/\ag.jN B M (.iB ks vs)=(.iB ks vs)/\ag.nS B M (.iB ks vs)=(.iB ks vs)/\ag.jT B M (.iB ks vs)=(.iB ks vs)/\ag.j9 B M (.iB ks vs)=(.iB ks vs)/\ag.mf B M (.iB ks vs)=(.iB ks vs)) /\
  (∀ks vs,ag.shut (.iB ks vs)=(.iB ks vs)/\ag.fZ (.iB ks vs)=(.iB ks vs)/\ag.jR (.iB ks vs)=false/\ag.cells? (.iB ks vs)=some [(.iB ks vs)]/\ag.kW (.iB ks vs)=true/\ag.plainCell (.iB ks vs)=false/\ag.plain (.iB ks vs)=false/\ag.cells (.iB ks vs)=[(.iB ks vs)]/\ag.hU (.iB ks vs)=[]/\ag.mL (.iB ks vs)=[]/\ag.ids (.iB ks vs)=[]) /\
  (∀M ks vs,ag.pn M (.iB ks vs)=(.iB ks vs)/\ag.yq M (.iB ks vs)=(.iB ks vs)) /\
  (∀B M id ver sz lo hi,ag.jm B M (.dg id ver sz lo hi)=(if id<B then (.dg id ver sz lo hi) else match M[id]? with|some (.arr _ v xs)=>if v=ver then .slice .sh ((xs.take hi).drop lo) else .any|_ => .any)/\ag.jz B M (.dg id ver sz lo hi)=(if id<B then (.dg id ver sz lo hi) else match M[id]? with|some (.arr _ v xs)=>if v=ver then .slice .sh ((xs.take hi).drop lo) else .any|_ => .any)/\ag.jN B M (.dg id ver sz lo hi)=(if id<B then (.dg id ver sz lo hi) else match M[id]? with|some (.arr _ v xs)=>if v=ver then .slice .sh ((xs.take hi).drop lo) else .any|_ => .any)/\ag.nS B M (.dg id ver sz lo hi)=(if id<B then (.dg id ver sz lo hi) else match M[id]? with|some (.arr _ v xs)=>if v=ver then .slice .sh ((xs.take hi).drop lo) else .any|_ => .any)/\ag.jT B M (.dg id ver sz lo hi)=(if id<B then (.dg id ver sz lo hi) else match M[id]? with|some (.arr _ v xs)=>if v=ver then .slice .sh ((xs.take hi).drop lo) else .any|_ => .any)/\ag.j9 B M (.dg id ver sz lo hi)=(if id<B then (.dg id ver sz lo hi) else match M[id]? with|some (.arr _ v xs)=>if v=ver then .slice .sh ((xs.take hi).drop lo) else .any|_ => .any)/\ag.mf B M (.dg id ver sz lo hi)=(if id<B then (.dg id ver sz lo hi) else match M[id]? with|some (.arr _ v xs)=>if v=ver then .slice .sh ((xs.take hi).drop lo) else .any|_ => .any)) /\
  (∀id ver sz lo hi,ag.shut (.dg id ver sz lo hi)=(.dg id ver sz lo hi)/\ag.fZ (.dg id ver sz lo hi)=(.dg id ver sz lo hi)/\ag.jR (.dg id ver sz lo hi)=false/\ag.cells? (.dg id ver sz lo hi)=some [(.dg id ver sz lo hi)]/\ag.kW (.dg id ver sz lo hi)=true/\ag.plainCell (.dg id ver sz lo hi)=false/\ag.plain (.dg id ver sz lo hi)=false/\ag.cells (.dg id ver sz lo hi)=[(.dg id ver sz lo hi)]/\ag.hU (.dg id ver sz lo hi)=[id]/\ag.mL (.dg id ver sz lo hi)=[id]/\ag.ids (.dg id ver sz lo hi)=[id]) /\
  (∀B M id ver i off,ag.jm B M (.im id ver i off)=(if id<B then (.im id ver i off) else .any)/\ag.jz B M (.im id ver i off)=(if id<B then (.im id ver i off) else .any)/\ag.jN B M (.im id ver i off)=(if id<B then (.im id ver i off) else .any)/\ag.nS B M (.im id ver i off)=(if id<B then (.im id ver i off) else .any)/\ag.jT B M (.im id ver i off)=(if id<B then (.im id ver i off) else .any)/\ag.j9 B M (.im id ver i off)=(if id<B then (.im id ver i off) else .any)/\ag.mf B M (.im id ver i off)=(if id<B then (.im id ver i off) else .any)) /\
  (∀id ver i off,ag.shut (.im id ver i off)=(.im id ver i off)/\ag.fZ (.im id ver i off)=(.im id ver i off)/\ag.jR (.im id ver i off)=false/\ag.cells? (.im id ver i off)=some [(.im id ver i off)]/\ag.kW (.im id ver i off)=true/\ag.plainCell (.im id ver i off)=false/\ag.plain (.im id ver i off)=false/\ag.cells (.im id ver i off)=[(.im id ver i off)]/\ag.hU (.im id ver i off)=[id]/\ag.mL (.im id ver i off)=[id]/\ag.ids (.im id ver i off)=[id]) /\
  (∀M id ver i off,ag.pn M (.im id ver i off)=(.im id ver i off)/\ag.yq M (.im id ver i off)=(.im id ver i off)):=by
 repeat' (first|rfl|intro _|apply And.intro)
def TG4:(∀B M f fs,ag.jm B M (.rZ f fs)=(.rZ f fs)/\ag.jz B M (.rZ f fs)=(.rZ f fs)/\ag.jN B M (.rZ f fs)=(.rZ f fs)/\ag.nS B M (.rZ f fs)=(.rZ f fs)/\ag.jT B M (.rZ f fs)=(.rZ f fs)/\ag.j9 B M (.rZ f fs)=(.rZ f fs)/\ag.mf B M (.rZ f fs)=(.rZ f fs)) /\
  (∀f fs,ag.shut (.rZ f fs)=(.rZ f fs)/\ag.fZ (.rZ f fs)=(.rZ f fs)/\ag.jR (.rZ f fs)=false/\ag.cells? (.rZ f fs)=some [(.rZ f fs)]/\ag.kW (.rZ f fs)=true/\ag.plainCell (.rZ f fs)=false/\ag.plain (.rZ f fs)=false/\ag.cells (.rZ f fs)=[(.rZ f fs)]/\ag.hU (.rZ f fs)=[]/\ag.mL (.rZ f fs)=[]/\ag.ids (.rZ f fs)=[]) /\
  (∀M f fs,ag.pn M (.rZ f fs)=(.rZ f fs)/\ag.yq M (.rZ f fs)=(.rZ f fs)) /\
  (∀B M t id off,ag.jm B M (.jL t id off)=(if id<B then (.jL t id off) else .any)/\ag.jz B M (.jL t id off)=(if id<B then (.jL t id off) else .any)/\ag.jN B M (.jL t id off)=(if id<B then (.jL t id off) else .any)/\ag.nS B M (.jL t id off)=(if id<B then (.jL t id off) else .any)/\ag.jT B M (.jL t id off)=(if id<B then (.jL t id off) else .any)/\ag.j9 B M (.jL t id off)=(if id<B then (.jL t id off) else .any)/\ag.mf B M (.jL t id off)=(if id<B then (.jL t id off) else .any)) /\
  (∀t id off,ag.shut (.jL t id off)=(.jL t id off)/\ag.fZ (.jL t id off)=(.jL t id off)/\ag.jR (.jL t id off)=false/\ag.cells? (.jL t id off)=some [(.jL t id off)]/\ag.kW (.jL t id off)=true/\ag.plainCell (.jL t id off)=false/\ag.plain (.jL t id off)=false/\ag.cells (.jL t id off)=[(.jL t id off)]/\ag.hU (.jL t id off)=[id]/\ag.mL (.jL t id off)=[id]/\ag.ids (.jL t id off)=[id]) /\
  (∀M t id off,ag.pn M (.jL t id off)=(.jL t id off)/\ag.yq M (.jL t id off)=(.jL t id off)) /\
  (∀B M v,ag.jm B M (.oy v)=(.oy v)/\ag.jz B M (.oy v)=(.oy v)/\ag.jN B M (.oy v)=(.oy v)/\ag.nS B M (.oy v)=(.oy v)/\ag.jT B M (.oy v)=(.oy v)/\ag.j9 B M (.oy v)=(.oy v)/\ag.mf B M (.oy v)=(.oy v)) /\
  (∀v,ag.shut (.oy v)=(.oy v)/\ag.fZ (.oy v)=(.oy v)/\ag.jR (.oy v)=true/\ag.plainCell (.oy v)=false/\ag.plain (.oy v)=false/\ag.cells (.oy v)=[(.oy v)]/\ag.hU (.oy v)=[]/\ag.mL (.oy v)=[]/\ag.ids (.oy v)=[]):=by
 repeat' (first|rfl|intro _|apply And.intro)
def TG5:(∀M v,ag.pn M (.oy v)=(.oy v)/\ag.yq M (.oy v)=(.oy v)) /\
  (∀B M v,ag.jm B M (.raw v)=(.raw v)/\ag.jz B M (.raw v)=(.raw v)/\ag.jN B M (.raw v)=(.raw v)/\ag.nS B M (.raw v)=(.raw v)/\ag.jT B M (.raw v)=(.raw v)/\ag.j9 B M (.raw v)=(.raw v)/\ag.mf B M (.raw v)=(.raw v)) /\
  (∀v,ag.shut (.raw v)=(.raw v)/\ag.fZ (.raw v)=(.raw v)/\ag.jR (.raw v)=false/\ag.cells (.raw v)=[(.raw v)]/\ag.hU (.raw v)=[]/\ag.mL (.raw v)=[]/\ag.ids (.raw v)=[]) /\
  (∀M v,ag.pn M (.raw v)=(.raw v)/\ag.yq M (.raw v)=(.raw v)) /\
  (∀B M,ag.jm B M .any = .any/\ag.jz B M .any = .any/\ag.jN B M .any = .any/\ag.nS B M .any = .any/\ag.jT B M .any = .any/\ag.j9 B M .any = .any/\ag.mf B M .any = .any) /\
  (ag.shut .any = .any/\ag.fZ .any = .any/\ag.jR .any=false/\ag.plainCell .any=false/\ag.plain .any=false/\ag.cells .any=[.any]/\ag.hU .any=[]/\ag.mL .any=[]/\ag.ids .any=[]) /\
  (∀M,ag.pn M .any = .any/\ag.yq M .any = .any) /\
  (∀B M xs,ag.jm B M (.slice .sh xs)=(.slice .sh xs)/\ag.jz B M (.slice .sh xs)=(.slice .sh xs)/\ag.jN B M (.slice .sh xs)=(.slice .sh xs)/\ag.nS B M (.slice .sh xs)=(.slice .sh xs)/\ag.jT B M (.slice .sh xs) = .slice .sh xs/\ag.j9 B M (.slice .sh xs) = .slice .sh xs/\ag.mf B M (.slice .sh xs) = .slice .sh xs):=by
 repeat' (first|rfl|intro _|apply And.intro)
def TG6:(∀xs,ag.shut (.slice .sh xs) = .slice .sh xs/\ag.fZ (.slice .sh xs) = .slice .sh xs/\ag.jR (.slice .sh xs)=false/\ag.cells? (.slice .sh xs)=some [(.slice .sh xs)]/\ag.kW (.slice .sh xs)=true/\ag.plainCell (.slice .sh xs)=true/\ag.plain (.slice .sh xs)=true/\ag.cells (.slice .sh xs)=[(.slice .sh xs)]/\ag.hU (.slice .sh xs)=[]/\ag.mL (.slice .sh xs)=[]/\ag.ids (.slice .sh xs)=[]) /\
  (∀M xs,ag.pn M (.slice .sh xs)=(.slice .sh xs)/\ag.yq M (.slice .sh xs)=(.slice .sh xs)) /\
  (∀B M xs,ag.jm B M (.slice .c0 xs)=(.slice .c0 xs)/\ag.jz B M (.slice .c0 xs)=(.slice .c0 xs)/\ag.jN B M (.slice .c0 xs)=(.slice .c0 xs)/\ag.nS B M (.slice .c0 xs)=(.slice .c0 xs)/\ag.jT B M (.slice .c0 xs) = .slice .sh xs/\ag.j9 B M (.slice .c0 xs) = .slice .sh xs/\ag.mf B M (.slice .c0 xs) = .slice .sh xs) /\
  (∀xs,ag.shut (.slice .c0 xs) = .slice .sh xs/\ag.fZ (.slice .c0 xs) = .slice .sh xs/\ag.jR (.slice .c0 xs)=false/\ag.cells? (.slice .c0 xs)=some [(.slice .c0 xs)]/\ag.kW (.slice .c0 xs)=true/\ag.plainCell (.slice .c0 xs)=false/\ag.plain (.slice .c0 xs)=false/\ag.cells (.slice .c0 xs)=[(.slice .c0 xs)]/\ag.hU (.slice .c0 xs)=[]/\ag.mL (.slice .c0 xs)=[]/\ag.ids (.slice .c0 xs)=[]) /\
  (∀M xs,ag.pn M (.slice .c0 xs)=(.slice .c0 xs)/\ag.yq M (.slice .c0 xs)=(.slice .c0 xs)) /\
  (∀B M k xs,ag.jm B M (.slice (.own k) xs)=(if k<B then (.slice (.own k) xs) else .slice .sh xs)/\ag.jz B M (.slice (.own k) xs)=(if k<B then (.slice (.own k) xs) else .slice .sh xs)/\ag.jN B M (.slice (.own k) xs)=(if k<B then (.slice (.own k) xs) else .slice .sh xs)/\ag.nS B M (.slice (.own k) xs)=(if k<B then (.slice (.own k) xs) else .slice .sh xs)/\ag.jT B M (.slice (.own k) xs) = .slice .sh xs/\ag.j9 B M (.slice (.own k) xs) = .slice .sh xs/\ag.mf B M (.slice (.own k) xs) = .slice .sh xs) /\
  (∀k xs,ag.shut (.slice (.own k) xs) = .slice .sh xs/\ag.fZ (.slice (.own k) xs) = .slice .sh xs/\ag.jR (.slice (.own k) xs)=false/\ag.cells? (.slice (.own k) xs)=some [(.slice (.own k) xs)]/\ag.kW (.slice (.own k) xs)=true/\ag.plainCell (.slice (.own k) xs)=false/\ag.plain (.slice (.own k) xs)=false/\ag.cells (.slice (.own k) xs)=[(.slice (.own k) xs)]/\ag.hU (.slice (.own k) xs)=[k]/\ag.mL (.slice (.own k) xs)=[k]/\ag.ids (.slice (.own k) xs)=[k]) /\
  (∀M k xs,ag.pn M (.slice (.own k) xs)=(.slice (.own k) xs)/\ag.yq M (.slice (.own k) xs)=(.slice (.own k) xs)):=by
 repeat' (first|rfl|intro _|apply And.intro)
def TG7:(∀B M cs,ag.jm B M (.agg cs) = .any/\ag.jz B M (.agg cs) = .any/\ag.jN B M (.agg cs) = .agg (cs.map (ag.jz B M))/\ag.nS B M (.agg cs) = .agg (cs.map (ag.jz B M))/\ag.jT B M (.agg cs) = .any/\ag.j9 B M (.agg cs) = .agg (cs.map (ag.jT B M))/\ag.mf B M (.agg cs) = .agg (cs.map (ag.jT B M))) /\
  (∀cs,ag.shut (.agg cs)=(.agg cs)/\ag.fZ (.agg cs) = .agg (cs.map ag.shut)/\ag.jR (.agg cs)=false/\ag.cells? (.agg cs)=some cs/\ag.kW (.agg cs)=false/\ag.plainCell (.agg cs)=false/\ag.plain (.agg cs)=cs.all ag.plainCell/\ag.cells (.agg cs)=cs/\ag.hU (.agg cs)=[]/\ag.mL (.agg cs)=[]/\ag.ids (.agg cs)=cs.flatMap ag.mL) /\
  (∀M cs,ag.pn M (.agg cs)=(.agg cs)/\ag.yq M (.agg cs) = .agg (cs.map (ag.pn M))) /\
  (∀B M cs,ag.jm B M (.tuple cs) = .any/\ag.jz B M (.tuple cs) = .any/\ag.jN B M (.tuple cs) = .any/\ag.nS B M (.tuple cs) = .tuple (cs.map (ag.jN B M))/\ag.jT B M (.tuple cs) = .any/\ag.j9 B M (.tuple cs) = .any/\ag.mf B M (.tuple cs) = .tuple (cs.map (ag.j9 B M))) /\
  (∀cs,ag.shut (.tuple cs)=(.tuple cs)/\ag.fZ (.tuple cs)=(.tuple cs)/\ag.jR (.tuple cs)=false/\ag.plainCell (.tuple cs)=false/\ag.plain (.tuple cs)=false/\ag.cells (.tuple cs)=[(.tuple cs)]/\ag.hU (.tuple cs)=[]/\ag.mL (.tuple cs)=[]/\ag.ids (.tuple cs)=[]) /\
  (∀M cs,ag.pn M (.tuple cs)=(.tuple cs)/\ag.yq M (.tuple cs)=(.tuple cs)):=by
 repeat' (first|rfl|intro _|apply And.intro)
def bK{C:eL}{fn:List sr}{bM:Nat}{k:List K}{t:Bool}{x y:cv}{br:Env}{M:aK}{r:Option (ag×aK)}
  (h1:t=true->fP C fn bM k x br M=r) (h2:t=false->fP C fn bM k y br M=r):dp C fn bM k (.bool t) x y br M=r:=by
 cases t
 ·exact h2 rfl
 ·exact h1 rfl
def cI{C:eL}{fn:List sr}{bM:Nat}{k:List K}{live:List Nat}{t w:Bool}{o:cK}{l:List cK}{br:Env}{M:aK}{r:Option (ag×aK)}
  (h1:t=w->kD C fn bM k live o.lets o.dst l br (pL C o br M)=r) (h2:t = !w->fi C fn bM k live l (rk br o.dst (.tuple [])) M=r):gK C fn bM k live (.bool t) w o l br M=r:=by
 cases t<;>cases w
 ·exact h1 rfl
 ·exact h2 rfl
 ·exact h2 rfl
 ·exact h1 rfl
def eW{C:eL}{fn:List sr}{bM:Nat}{k:List K}{live:List Nat}{c:Bool}{d:Option Nat}{l:List cK}{br:Env}{t:Bool}{x y r:Option (ag×aK)}
  (h1:t=true->kD C fn bM k live c d l br x=r) (h2:t=false->kD C fn bM k live c d l br y=r):kD C fn bM k live c d l br (zk t x y)=r:=by
 cases t
 ·exact h2 rfl
 ·exact h1 rfl
def r9{a b:Nat}(h:a<=1000000)(hb:b<=1000):dL a b=True:=by
 have:a*b<=1000000*1000:=Nat.mul_le_mul h hb;simp only[fe,jM];unfold dL;omega
def xN{a b:Nat}(h:a<=1000000:=by omega)(hb:b<=1000:=by omega):dL a b=True:=r9 h hb
def Az{p:Prop}(h:p:=by omega):p=True:=eq_true h
def Gp{p:Prop}(h:¬p:=by omega):p=False:=eq_false h
def Xt(x:ag)(n:Nat):wid [x] n=(x.cells.length=n):=by simp[wid]
def Xq(a b:List ag)(n:Nat):wid (a++b) n=(wid a n/\wid b n):=by
 simp only[fe];exact⟨fun h=>⟨fun x hx=>h x (eN _ hx),fun x hx=>h x (gZ _ hx)⟩,fun h x hx=>(bS.1 hx).elim (h.1 x) (h.2 x)⟩
def Xr(n:Nat):wid [] n=True:=by simp[wid]
def WK(m:Nat):((m:Int)<0)=False:=by simp
def gx{n:Int}(h0 : -9223372036854775808<=n)(h1:n<=9223372036854775807):IntKind.i64.wrap n=n:=by rw[IntKind.wrap_i64]; omega
def vq{C:eL}{f:Nat}{vs:List ag}{r:ag}(h:C f vs []=some (r,[]))(h1:vs.all ag.flat=true)(h2:vs.flatMap ag.ids=[])(h3:r.wF=true)
  (h4:vs.map (ag.rn (iC []))=vs) (h5:r.BE (xg [])=r) (M:aK):aL C f vs M=some (r,M):=by
 have e0:reach M []=[]:=rfl;have e1:lR M []=[]:=rfl;have e2:(vs.map (ag.rn (iC [])))=vs:=h4;unfold aL;rw[az h1,h2,e0];simp only[ke,bZ];rw[az e1,e2,h];simp[h3,h5,mw]
def cO{C:eL}{f:Nat}{vs:List ag}{r:ag}(h:C f vs []=some (r,[]))(M:aK)(h1:vs.all ag.flat=true:=by exact rfl)(h2:vs.flatMap ag.ids=[]:=by exact rfl)(h3:r.wF=true:=by exact rfl)(h4:vs.map (ag.rn (iC []))=vs:=by exact rfl)(h5:r.BE (xg [])=r:=by exact rfl):aL C f vs M=some (r,M):=vq h h1 h2 h3 h4 h5 M
def cP{C:eL}{f:Nat}{vs:List ag}{r:ag}(h:C f vs []=some (r,[]))(h1:vs.all ag.flat=true:=by exact rfl)(h2:vs.flatMap ag.ids=[]:=by exact rfl)(h3:r.wF=true:=by exact rfl)(h4:vs.map (ag.rn (iC []))=vs:=by exact rfl)(h5:r.BE (xg [])=r:=by exact rfl)(M:aK):aL C f vs M=some (r,M):=vq h h1 h2 h3 h4 h5 M
def pC{C:eL}{f p:Nat}{vs:List ag}{r:ag}{M:aK}{cs cs':List ag}(hM:nth M p=some (.cells cs))(h:C f (.ptr 0 0::vs) [.cells cs]=some (r,[.cells cs']))(h1:vs.all ag.flat=true)(h2:vs.flatMap ag.ids=[])(h3:r.wF=true)
  (h4:vs.map (ag.rn (iC [p]))=vs) (h5:r.BE (xg [p])=r) (h6:cs.all ag.vP=true) (h7:cs.flatMap ag.mL=[]) (h8:cs.map (ag.sY (iC [p]))=cs) (h9:cs'.all ag.vP=true) (h10:cs'.map (ag.sY (xg [p]))=cs') :
  aL C f (.ptr p 0::vs) M=some (r,jZ M p (.cells cs')):=by
 have hids:(ag.ptr p 0::vs).flatMap ag.ids=[p]:=by simp[ag.ids,ag.mL,ag.hU,h2]
 have hi:sL M [p]=[]:=by simp[sL,hM,cA.ids,h7]
 have e0:lR M [p]=[p]:=by simp[lR,hi,lP]
 have e1:reach M [p]=[p]:=by
  have ea:lP [] [p]=[p]:=rfl;simp only[reach,ea,e0]
 have hfl:(ag.ptr p 0::vs).all ag.flat=true:=by simp only[j6,h1,eS]; rfl
 unfold aL;rw[az hfl,hids,e1];have hpk:ke M (iC [p]) [p]=some [.cells cs]:=by simp[ke,hM,cA.flat,h6,cA.rn,h8]
 rw[hpk];simp only[bZ];rw[az e0]
 have hrn:(ag.ptr p 0::vs).map (ag.rn (iC [p])) = .ptr 0 0::vs:=by
  simp only[aV,h4];simp[ag.rn,ag.sY,ag.tV,iC]
 rw[hrn,h];simp only[bZ];rw[az ⟨rfl,h3,by simp[cA.flat,h9]⟩,h5]
 simp only[mw,cA.rn,h10]
def max_lt(n:Nat)(h:n<=9223372036854775807):(IntKind.i64.max<(n:Int))=False:=by
 have:IntKind.i64.max=9223372036854775807:=rfl;simp only[fe,mb,this]; omega
set_option linter.defProp false in
def EVT:=bQ @PT (bQ @PS (bQ @Vl (bQ @Vm (bQ @Nq (bQ @PR (bQ @J2 (bQ @TA (bQ @Og (bQ @Oh (bQ @Tc (bQ @WM (bQ @NY (bQ @Ks (bQ @Kq (bQ @Kr (bQ @Kt (bQ @agN (bQ @agK (bQ @agM (bQ @agL (bQ @agO (bQ @Vr (bQ @Vq (bQ @acw (bQ @HS (bQ @Kh (bQ @Kg (bQ @F9 (bQ @HQ (bQ @Sw (bQ @DK (bQ @Ga (bQ @VK (bQ @Gc (bQ @HR (bQ @Sx (bQ @DL (bQ @Gb (bQ @zn.eq_1 (bQ @Ay.eq_1 (bQ @acv (bQ @aV.{0,0} (bQ @bo.{0,0} (bQ @bZ (bQ @uZ (bQ @nA (bQ @cS (bQ @aP (bQ @av.{0} (bQ @aG.{0} (bQ @j6.{0} (bQ @List.all_nil.{0} (bQ @pA (bQ @List.take_zero.{0} (bQ @aX.{0} (bQ @oe.{0} (bQ @n9.{0} (bQ @List.drop_zero.{0} (bQ @List.drop_nil.{0} (bQ @List.take_nil.{0} (bQ @bV.{0} (bQ @aW.{0} (bQ @ar (bQ @ky (bQ @not_true_eq_false (bQ @mc (bQ @Nat.one_ne_zero (bQ @Nat.zero_ne_one (bQ @j8 (bQ @iK (bQ @j7.{0,0} (bQ @aH.{0,0} (bQ @bg (bQ @aY.{0,0} (bQ @cz.{0,0} (bQ @KJ (bQ @fz (bQ @nv (bQ @decide_false (bQ @BEq.rfl.{0} (bQ @ei.{0} (bQ @cU (bQ @fS (bQ @WK (bQ @Xt (bQ @Xr (bQ @and_true (bQ @true_and (bQ @eS (bQ @aJ.{0} (bQ @ge_iff_le.{0} (bQ @gt_iff_lt.{0} (bQ @Xq (bQ @ia.{0} (bQ @true_or (bQ @or_true (bQ @List.cons_prefix_cons.{0} (bQ @List.nil_prefix.{0} (bQ @List.cons_ne_nil.{0} (bQ @List.flatMap_cons.{0,0} (bQ @List.flatMap_nil.{0,0} (bQ @max_lt (bQ @TG0 (bQ @TG1 (bQ @TG2 (bQ @TG3 (bQ @TG4 (bQ @TG5 (bQ @TG6 (@TG7))))))))))))))))))))))))))))))))))))))))))))))))))))))))))))))))))))))))))))))))))))))))))))))))))))))))))))))
set_option linter.defProp false in
def EVD:=bQ @finish.eq_1 (bQ @pO.eq_1 (bQ @pO.eq_2 (bQ @zq.eq_1 (bQ @zq.eq_2 (bQ @zq.eq_3 (bQ @one.eq_1 (bQ @one.eq_2 (bQ @pL.eq_1 (bQ @dW.eq_1 (bQ @dW.eq_2 (bQ @dW.eq_3 (bQ @dW.eq_4 (bQ @dW.eq_5 (bQ @dW.eq_6 (bQ @dW.eq_7 (bQ @dW.eq_8 (bQ @dW.eq_9 (bQ @dW.eq_10 (bQ @dW.eq_11 (bQ @dW.eq_12 (bQ @dW.eq_13 (bQ @dW.eq_14 (bQ @dW.eq_15 (bQ @dW.eq_16 (bQ @dW.eq_17 (bQ @dW.eq_18 (bQ @dW.eq_19 (bQ @dW.eq_20 (bQ @dW.eq_21 (bQ @dW.eq_22 (bQ @dW.eq_23 (bQ @dW.eq_24 (bQ @dW.eq_25 (bQ @dW.eq_26 (bQ @dW.eq_27 (bQ @dW.eq_28 (bQ @dW.eq_29 (bQ @dW.eq_30 (bQ @dW.eq_31 (bQ @dW.eq_32 (bQ @dW.eq_33 (bQ @dW.eq_34 (bQ @dW.eq_35 (bQ @dW.eq_36 (bQ @dW.eq_37 (bQ @dW.eq_38 (bQ @dW.eq_39 (bQ @dW.eq_40 (bQ @dW.eq_41 (bQ @dW.eq_42 (bQ @dW.eq_43 (bQ @dW.eq_44 (bQ @dW.eq_45 (bQ @dW.eq_46 (bQ @dW.eq_47 (bQ @dW.eq_48 (bQ @dW.eq_49 (bQ @dW.eq_50 (bQ @dW.eq_51 (bQ @dW.eq_52 (bQ @dW.eq_53 (bQ @dW.eq_54 (bQ @dW.eq_55 (bQ @dW.eq_56 (bQ @jY.eq_1 (bQ @jY.eq_2 (bQ @gM.ev.eq_1 (bQ @gM.ev.eq_2 (bQ @il.eq_1 (bQ @il.eq_2 (bQ @rk.eq_1 (bQ @rk.eq_2 (bQ @jr.eq_1 (bQ @nth.eq_1 (bQ @nth.eq_2 (bQ @nth.eq_3 (bQ @jZ.eq_1 (bQ @jZ.eq_2 (bQ @jZ.eq_3 (bQ @p9.eq_1 (bQ @p9.eq_2 (bQ @p9.eq_3 (bQ @p9.eq_4 (bQ @p9.eq_5 (bQ @p9.eq_6 (bQ @p9.eq_7 (bQ @p9.eq_8 (bQ @p9.eq_9 (bQ @p9.eq_10 (bQ @p9.eq_11 (bQ @p9.eq_12 (bQ @p9.eq_13 (bQ @p9.eq_14 (bQ @p9.eq_15 (bQ @p9.eq_16 (bQ @p9.eq_17 (bQ @p9.eq_18 (bQ @p9.eq_19 (bQ @p9.eq_20 (bQ @p9.eq_21 (bQ @p9.eq_22 (bQ @p9.eq_23 (bQ @p9.eq_24 (bQ @p9.eq_25 (bQ @mC.eq_1 (bQ @vL.eq_1 (bQ @jO.eq_1 (bQ @cA.back.eq_1 (bQ @cA.back.eq_2 (bQ @cA.back.eq_3 (bQ @cA.back.eq_4 (bQ @cA.back.eq_5 (bQ @sG.eq_1 (bQ @sG.eq_2 (bQ @yD.eq_1 (bQ @yD.eq_2 (bQ @lk.eq_1 (bQ @lk.eq_2 (bQ @kE.dS.eq_1 (bQ @kE.dS.eq_2 (bQ @kE.dS.eq_3 (bQ @jc.eq_1 (bQ @jc.eq_2 (bQ @ob.eq_1 (bQ @og.eq_1 (bQ @ox.eq_1 (bQ @bytesOf.eq_1 (bQ @valOf.eq_1 (@valOf.eq_2)))))))))))))))))))))))))))))))))))))))))))))))))))))))))))))))))))))))))))))))))))))))))))))))))))))))))))))))))))))))))))))))))
set_option linter.defProp false in
def vl:=bQ @eS (bQ @bP (bQ @dI (bQ @cd (bQ @dG (bQ @dH (bQ @gk (bQ @da (bQ @cU (bQ @fS (bQ @pA (bQ @dE (bQ @af (@ei.{0})))))))))))))
set_option linter.defProp false in
def EV:=And.intro @ne_eq.{1} (And.intro EVT EVD)
end Go.Abs
