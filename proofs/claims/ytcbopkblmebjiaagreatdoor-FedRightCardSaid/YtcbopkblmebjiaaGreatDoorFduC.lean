import Derived.Lib.AppendZerosOnto
import Derived.RangeFuncCalls
import Derived.OrdersIn
import Derived.LoopNIn
import Derived.Orders
import Derived.LoopN
import Derived.Laws.AppendOwn
import Derived.Laws.IdiomCopy
import Derived.Test.YtcbopkblmebjiaaGreatDoorProg
import Derived.Shelf.RegionOpenPlain
import Derived.WalkKit
import Derived.Below
import Derived.Deep.LoopGhost
import Derived.Deep.RegionLaw
import Derived.Deep.AppendSrc
import Derived.Lib.Walk
import Derived.Lib.SliceRun
import Derived.Lib.AppendZeros
import Derived.Laws.NewBlocks
import Derived.Laws.Externs
import Derived.KernelRfl
import Derived.Shelf.SlSortCmp.WholeK
import Derived.Shelf.SlSortCmp.NoneTotal
import Derived.Shelf.SlicesG.Cmp
import Derived.Ground.SlsfProg
import Derived.Ground.SlgcProg
import Derived.Lib.Strings
import Derived.Lib.Slices
import Derived.Lib.Bytealg
import Derived.Shelf.Strings.Builder1
import Derived.Shelf.Strings.Builder2
import Derived.Shelf.Strings.OnBuilder
import Derived.Shelf.Small.Bits
import Derived.Shelf.Small.Strs
import Derived.Shelf.Strconv.Itoa0
import Derived.Shelf.Strings.Search1
import Derived.Test.YtcbopkblmebjiaaGreatDoorFduB
set_option linter.unusedSimpArgs false
set_option linter.unusedVariables false
set_option linter.unusedSectionVars false
set_option linter.defProp false
open Go.Proofs.Tryz
namespace Go.Abs
open Go Go.RowKit
variable [kg]
section
variable {P:Program} {C:eO} {o:Oper} {bt:Env} {M:aL} {j:J} {w:World} {a:Act} {x:ag×aL}
theorem N8{l:List ag}(hp:0<l.length)(h1:l.all ag.plainCell=true)(n:Nat):jD (List.replicate n (ag.agg l).norm)=(List.replicate n l).flatten/\wid (List.replicate n (ag.agg l).norm) l.length:=by
 refine⟨?_,fun x hx=>by rw[lh hx,tX hp h1]⟩
 induction n with
 |zero=>rfl
 |succ n ih=>rw[iM,ov,ih,iM,List.flatten_cons,tX hp h1]
theorem Lj(hr:Rel j M w){id sz ver:Nat}{xs ys:List ag}(hM:M[id]?=some (.arr sz ver xs)){b cap:Nat}{row:Array Value}{t:TypeId}(hj:j id=some b)(hw:w.heap[b]?=some (.cells row t (0,0)))(hcap:xs.length<=cap)(hrow:cap*sz<=row.size)
  (hwd:wid xs sz) (hwy:wid ys sz) (hne:ys≠[]) {us:List Value} (hrl:RL w (nV j M w) (jD ys) us) {v:Value} {w':World}
  (hq:(xs.length+ys.length<=cap/\v = .slice (some ⟨b,0,none⟩) (xs.length+ys.length) cap/\w'=oV w b (xs.length*sz) us) \/
   ∃c' row' e,xs.length+ys.length<=c'/\v = .slice (some ⟨w.heap.size,0,none⟩) (xs.length+ys.length) c'/\Quiet w w'/\(∀b,b<w.heap.size->w'.heap[b]?=w.heap[b]?)/\w'.heap[w.heap.size]?=some (.cells row' e (0,0))/\c'*sz<=row'.size /\
    ∀p,p<(xs.length+ys.length)*sz->row'[p]?=(row.toList.take (xs.length*sz)++us)[p]?) :
  iJ j M w (.dk id (ver+1) sz 0 (xs.length+ys.length),M.set id (.arr sz (ver+1) (xs++ys))) v w':=by
 obtain⟨b',row0,t',k1,k2,k3,k4,k5⟩:=hr.yf hM hj;rw[hj] at k1; cases k1;rw[hw] at k2; injection k2 with k2; injection k2 with k2 k2'
 subst k2; subst k2';have hrow0:=xi (b:=b) k3 k4 k5;have hid:=aF hM;have hwd2:=mU hwd hwy
 have iv:RL w (nV j M w) (jD (xs++ys)) (row.toList.take (xs.length*sz)++us):=by
  rw[ou]; exact hrow0.append hrl
 have eY:(xs++ys).length=xs.length+ys.length:=by simp
 have hpl:(row.toList.take (xs.length*sz)++us).length=(xs.length+ys.length)*sz:=by rw[<-iv.1,im hwd2,eY]
 have hul:us.length=ys.length*sz:=by rw[<-hrl.1,im hwy]
 have hpos:0<ys.length:=iL.2 hne;rcases hq with ⟨h1,rfl,rfl⟩|⟨c',row',e,h1,rfl,q,hb,hn,hs,hp⟩
 ·have hfit:xs.length*sz+us.length<=row.size:=by
   rw[hul,<-bP]; exact bj (bf _ h1) hrow
  obtain⟨s1,s2,s3,s4,s5,row2,s6,s7,s8,s9⟩:=lA (t:=t) us w (xs.length*sz) row hw hfit
  have hput:=xh (ver':=ver+1) (xs':=xs++ys) hr hM hj ⟨by omega,s2,s3,s4⟩ (fun b' hb' _=>s5 b' hb') hw s6 s7 (by omega) (fun h=>by omega) hwd2 iv (fun p hp=>by
   rw[hpl] at hp
   grind)
  refine⟨j,hput.1,hput.2,.dk (.inl ⟨b,0,cap,by rw[bV],by omega⟩) (by simpa using hid) (fun bx hbx=>by rw[dG hid] at hbx; cases hbx; rfl) fun sz' v' zs hx=>?_⟩
  rw[dG hid] at hx; injection hx with hx; injection hx with e1 e2 e3
  subst e1; simp_all
 ·have hat  := fun p h=>hp p (by rw[<-hpl]; exact h)
  have hrel:=Rel.uw (ver':=ver+1) (xs':=xs++ys) hM hr q hb (ar _) (lt_of_block hn) (by simp) (fun j' M' hx=>lJ hn hwd2 (iv.mono hx.hU) hat)
  have hext:=Ext.uw (j:=j) (ver':=ver+1) (xs':=xs++ys) hM q hb (ar _) (by simp)
  refine⟨_,hrel,hext,.dk (.inl ⟨w.heap.size,0,c',by rw[bV],by omega⟩) (by simpa using hid) (fun bx hbx=>by rw[dG hid] at hbx; cases hbx; rfl) fun sz' v' zs hx=>?_⟩
  rw[dG hid] at hx; injection hx with hx; injection hx with e1 e2 e3
  subst e1; subst e2; subst e3;exact⟨ar _,fun _=>⟨rfl,cA _,by omega,.inr ⟨w.heap.size,c',row',e,by simp[gy],by simp,by omega,hn,by rw[aQ]; exact hs⟩⟩⟩
theorem KK(hr:Rel j M w)(he:cy j M w bt a){c:Call}{y y':Operand}{z z':gQ}{t t' e:TypeId}{kn:IntKind}{i:TypeInfo}{zv:Value}{l:List ag}(hop:o.op = .call c)(hb:c.callee = .builtin .append)(ha:c.args.toList=[y,y'])
  (hat:c.argTypes.toList=[t,t']) (hs:P.underlying t=some (.slice e)) (hs':P.underlying t'=some (.int kn)) (hi:P.info? e=some i) (hzv:i.zero=some zv) (hl:sR zv.cells.toList=some l) (c1:l.length=i.size) (c2:0<i.size) (c3:0<i.bytes) (c4:i.bytes<=2 ^ 20)
  (hz:ef y=some z) (hz':ef y'=some z') (h:dZ C bt M (.xg i.size i.bytes (l.map ag.shut) z z')=some x):∃v w',qU P o a w v w'/\iJ j M w x v w':=by
 simp only[dZ] at h;have r1:=cH he hz;have r2:=cH he hz';have ha':c.args = #[y,y']:=by rw[<-ha]
 have hat':c.argTypes = #[t,t']:=by rw[<-hat]
 have hexec:∀r,(Builtin.append_ #[t,t'] o.type #[a.eval y,a.eval y']).run P w=r->(execOp a.eval o).run P w=r.andThen fun v w' => .ok (.value v) w':=by
  intro r hr';simp[execOp,hop,resolve,hb,invoke,builtin,ha',hat',hr']
 have hsz:(sizeOf e).run P w = .ok i.size w:=jd (by simp[qv,hi])
 obtain⟨z1,z2⟩:=pU (j:=j) (M:=M) (w:=w) hl;have hzs:zv.cells.size=i.size:=by simp at z1; omega
 have happ:∀(A:Option Addr)(n c:Nat)(kz:IntKind)(m:Nat),(Builtin.append_ #[t,t'] o.type #[.slice A n c,.int kz (m:Int)]).run P w=(Builtin.append_ #[t,t'] o.type #[.slice A n c,.int kn (m:Int)]).run P w:=fun A n c kz m=>by
  simp[Builtin.append_,dA hs,dA hs',asInt,asIntOf]
 -- what is appended
 have zrow:∀(k:Nat),(l.map ag.shut).all ag.plainCell=true->RL w (nV j M w) (jD (List.replicate k (ag.agg (l.map ag.shut)).norm)) (Builtin.zeroCells zv.cells k).toList/\wid (List.replicate k (ag.agg (l.map ag.shut)).norm) i.size/\∀v,v∈(Builtin.zeroCells zv.cells k).toList->v.oneCell'=true:=by
  grind [B9,N8,ag.shut,List.length_map,ru,Pf,List.mem_flatten]
 -- nothing is appended
 have nil:∀(bN:Option Addr)(n cap:Nat),n<=cap->(Builtin.append_ #[t,t'] o.type #[.slice bN n cap,.int kn 0]).run P w = .ok (.slice bN n cap) w:=by
  intro bN n cap hle;have hw0:IntKind.i64.wrap 0=0:=by decide
  cases bN<;>simp[Builtin.append_,dA hs,dA hs',hsz,asInt,asIntOf,hw0,typeInfo,hi,hle,storeCells]
 have grow:∀(bN:Option Addr)(n cap:Nat)(olds:List Value)(k:Nat),(∀w':World,w'.heap=w.heap->(Builtin.firstCells i.size n (.slice bN n cap)).run P w' = .ok olds.toArray w')->0<k->cap<n+k->(n+k)*i.bytes<=2 ^ 44 ->
   ∃newCap row' w',n+k<=newCap/\(Builtin.append_ #[t,t'] o.type #[.slice bN n cap,.int kn k]).run P w = .ok (.slice (some ⟨w.heap.size,0,none⟩) (n+k) newCap) w'/\Quiet w w'/\(∀b,b<w.heap.size->w'.heap[b]?=w.heap[b]?)/\w'.heap[w.heap.size]?=some (.cells row' e (0,0)) /\
    row'.size=olds.length+k*i.size+(newCap-(n+k))*i.size/\∀p,p<olds.length+k*i.size->row'[p]?=(olds++(Builtin.zeroCells zv.cells k).toList)[p]?:=by
  intro bN n cap olds k hold hk cu hroom
  have hcapb:Builtin.nextslicecap (n+k) cap*i.bytes<=281474976710656:=by
   have h1:=Dc cu;have h2:Builtin.nextslicecap (n+k) cap*i.bytes<=(2*(n+k)+1000)*i.bytes:=bf _ h1
   grind
  have h44:n+k<=2 ^ 44:=bj (fx _ c3) hroom
  have hkb:k*i.bytes<=281474976710656:=by
   have:=bf i.bytes (show k<=n+k by omega)
   omega
  have hrun:=Lib.run_append_grow_zeros (P:=P) w t t' o.type e i zv kn kn hs hs' hi hzv bN n cap olds (hold w.drew rfl) k hk c2 cu (by omega) hkb hcapb
  have hge:n+k<=grownCap w (n+k) cap e:=grownCap_ge w (n+k) cap e;have hzl:∀m,(Builtin.zeroCells zv.cells m).size=m*i.size:=fun m=>by simp[Builtin.zeroCells,hzs]
  obtain⟨q,hbk,iv⟩:=pL (w:=w) (.cells (olds.toArray++Builtin.zeroCells zv.cells k++Builtin.zeroCells zv.cells (grownCap w (n+k) cap e-(n+k))) e (0,0));refine⟨_,_,_,hge,hrun,⟨q.size,rfl,rfl,rfl⟩,hbk,iv,by simp only[fT,hzl,cJ],fun p hp=>?_⟩
  rw[cr (by simp only[fT,hzl,cJ]; exact hp)]
  simp[<-Array.getElem?_toList]
 have hkk:∀ {k:Int} {kz:IntKind},a.eval y' = .int kz k->0<=k->∃m:Nat,k=m:=fun {k} _ _ h=>⟨k.toNat,by omega⟩
 split at h
 ·rename_i kz k ex ek;rw[ex] at r1; rw[ek] at r2;obtain⟨⟨h0,hroom,hsl,hpl⟩,h⟩:=di h;obtain⟨A,hv⟩:=r1.Cn;obtain⟨m,rfl⟩:∃m:Nat,k=m:=⟨k.toNat,by omega⟩
  have hk2:=r2.fP;rcases kQ h with ⟨hb0,h⟩|⟨hb0,h⟩
  ·cases h;have hm0:m=0:=by simpa using hb0
   subst hm0;refine⟨a.eval y,w,.inl ?_,.still hr ?_⟩
   ·rw[hexec _ rfl,hv,hk2,happ,gh,nil A 0 0 (ar _)]; rfl
   ·rw[hv]; exact .c0 _
  ·cases h
   have hm0:0<m:=by
    rcases fE m with h|h
    ·subst h; simp at hb0
    ·exact h
   unfold dQ at hroom;simp only[bh] at hroom ⊢;obtain⟨newCap,row',w',g1,g2,q,g3,g4,g5,g6⟩:=grow A 0 0 [] m (fun w' _=>by cases A<;>simp[Builtin.firstCells,loadCells,loadCellsFrom]) hm0 (by omega) (by simpa using hroom)
   obtain⟨p1,p2,p3⟩:=zrow m hpl;have hob:∀b,some w.heap.size=some b->w.heap.size<=b/\b<w'.heap.size:=fun b h=>by cases h; exact⟨ar _,lt_of_block g4⟩
   have ext:Ext j M w (gy j M.length (some w.heap.size)) (M++[.arr i.size 0 (List.replicate m (ag.agg (l.map ag.shut)).norm)]) w':=Ext.push (fun b h=>(hob b h).1) q g3
   have hat:∀j' M',Ext j M w j' M' w'->DR j' M' w' w.heap.size i.size (List.replicate m (ag.agg (l.map ag.shut)).norm):=fun j' M' hx=>lJ g4 p2 (p1.mono hx.hU) fun p hp=>by
    have hp':p<m*i.size:=by rw[<-p1.1,im p2] at hp; simpa using hp
    rw[g6 p (by simpa using hp')]; simp
   refine⟨.slice (some ⟨w.heap.size,0,none⟩) m newCap,w',.inl ?_,gy j M.length (some w.heap.size),hr.push hob q g3 (fun h=>by cases h) (fun sz n b h _=>by cases h) (fun sz0 v0 xs0 he=>?_),ext,?_⟩
   ·rw[hexec _ rfl,hv,hk2,happ,g2]; simp[Result.andThen]
   ·injection he with e1 e2 e3
    subst e1; subst e2; subst e3;refine .inr ⟨w.heap.size,row',e,rfl,g4,by rw[g5]; simp,p2,fun j' M' hx q x k c hx' hk=>?_⟩
    obtain⟨vs,t,a1,a2,a3,a4⟩:=hat j' M' hx;rw[g4] at a1; injection a1 with a1; injection a1 with a1 a1'
    subst a1;exact a4 q x k c hx' hk
   ·refine .dk (.inl ⟨w.heap.size,0,newCap,by rw[bV],by omega⟩) (by simp) (fun bx hbx=>by rw[lO] at hbx; cases hbx; rfl) fun sz' v' xs hx=>?_
    rw[lO] at hx; injection hx with hx; injection hx with e1 e2 e3
    subst e1; subst e2; subst e3;refine⟨ar _,fun _=>⟨rfl,cA _,by simp,.inr ⟨w.heap.size,newCap,row',e,by simp[gy],by simp,by omega,g4,?_⟩⟩⟩
    rw[g5,aQ];simp only[aH,aQ];rw[<-bP,cU (by omega)]
    exact ar _
 ·rename_i id ver sz' lo hi0 kz k ex ek;rw[ex] at r1; rw[ek] at r2;rw[eN] at h;split at h
  ·rename_i sz0 v0 xs hM;obtain⟨⟨d1,d2,d3,d4,h0,hroom,hsl,hpl,hne0⟩,h⟩:=di h;subst d1; subst d2; subst d3; subst d4;obtain⟨_,hid,_,g⟩:=r1.nB;obtain⟨e1,_,_,⟨hx,_⟩|⟨b,cap,row,t0,l3,l4,l5,l6,l7⟩⟩:=(g sz0 v0 xs hM).2 rfl
   ·exact absurd hne0 (by rw[hx]; simp)
   subst e1;rw[bV] at l4 l5;rw[je] at l4;rw[aQ] at l7;obtain⟨m,rfl⟩:∃m:Nat,k=m:=⟨k.toNat,by omega⟩
   have hk2:=r2.fP;rcases kQ h with ⟨hb0,h⟩|⟨hb0,h⟩
   ·cases h;have hm0:m=0:=by simpa using hb0
    subst hm0;refine⟨a.eval y,w,.inl ?_,.still hr r1⟩;rw[hexec _ rfl,hk2,l4,happ,gh,nil _ _ _ l5]; rfl
   ·cases h
    have hm0:0<m:=by
     rcases fE m with h|h
     ·subst h; simp at hb0
     ·exact h
    unfold dQ at hroom;simp only[bh] at hroom ⊢;obtain⟨b',row0,t',k1,k2,k3,k4,k5⟩:=hr.yf hM l3;rw[l3] at k1; cases k1;rw[l6] at k2; injection k2 with k2; injection k2 with k2 k2'
    subst k2; subst k2';obtain⟨p1,p2,p3⟩:=zrow m hpl;have hlr:(List.replicate m (ag.agg (l.map ag.shut)).norm).length=m:=by simp
    have hne:List.replicate m (ag.agg (l.map ag.shut)).norm≠[]:=by intro h; rw[h] at hlr; simp at hlr; omega
    have key:=fun v w' hq=>Lj (v:=v) (w':=w') hr hM l3 l6 l5 l7 k4 p2 hne p1 hq
    rw[hlr] at key;rw[fQ];rcases bH cap (xs.length+m) with cu|hge
    ·have hfc:∀w':World,w'.heap=w.heap->(Builtin.firstCells i.size xs.length (.slice (some ⟨b,0,none⟩) xs.length cap)).run P w' = .ok (row.toList.take (xs.length*i.size)).toArray w':=fun w' hw'=>by
      have:=oJ (P:=P) (w:=w') b 0 (xs.length*i.size) (fun p=>(row[p]?).getD undef) fun p hp=>by
       simp only[World.cell?,hw',l6,aQ];rw[bb (show p<row.size by omega)]; rfl
      simp only[Builtin.firstCells];rw[this];congr 2;apply cS;intro p;rw[aZ,gI];rcases bH p (xs.length*i.size) with h|h
      ·rw[fM h,az h];simp[bb (show p<row.size by omega)]
      ·rw[ak (by omega),eJ (by simpa using h)]; rfl
     obtain⟨newCap,row',w',g1,g2,q,g3,g4,g5,g6⟩:=grow (some ⟨b,0,none⟩) xs.length cap _ m hfc hm0 cu hroom;have htk:(row.toList.take (xs.length*i.size)).length=xs.length*i.size:=by simp; omega
     refine⟨_,w',.inl ?_,key _ w' (.inr ⟨newCap,row',e,g1,rfl,q,g3,g4,?_,fun p hp=>g6 p (by rw[htk,<-bP]; exact hp)⟩)⟩
     ·rw[hexec _ rfl,hk2,l4,happ,g2]; rfl
     ·rw[g5,htk,<-bP,<-bP,cU g1];exact ar _
    ·have hfit:xs.length*i.size+(Builtin.zeroCells zv.cells m).toList.length<=row.size:=by
      rw[<-p1.1,im p2,hlr,<-bP]; exact bj (bf _ hge) l7
     have hst:=mT (P:=P) (Builtin.zeroCells zv.cells m).toList w (xs.length*i.size) 0 row l6 (by omega) p3
     refine⟨_,_,.inl ?_,key _ _ (.inl ⟨hge,rfl,rfl⟩)⟩
     have hwm:IntKind.i64.wrap (m:Int)=m:=by
      have:m*i.bytes<=2 ^ 44:=bj (bf _ (by omega)) hroom
      have:m<=2 ^ 44:=bj (fx _ c3) this;rw[IntKind.wrap_i64]; omega
     have hneg:¬((m:Int)<0):=by omega
     have hns:¬(m*i.size=0):=Nat.mul_ne_zero (by omega) (by omega)
     have h48:¬(281474976710656<(m:Int)*(i.bytes:Int)):=by
      have:m*i.bytes<=2 ^ 44:=bj (bf _ (by omega)) hroom
      rw[<-Int.natCast_mul]; omega
     rw[hexec _ rfl,hk2,l4,happ];have hadd:(⟨b,0,none⟩:Addr).add (xs.length*i.size)=⟨b,xs.length*i.size,none⟩:=by simp[lC]
     simp only[cV] at hst
     have hap:(Builtin.append_ #[t,t'] o.type #[.slice (some ⟨b,0,none⟩) xs.length cap,.int kn (m:Int)]).run P w = .ok (.slice (some ⟨b,0,none⟩) (xs.length+m) cap) (oV w b (xs.length*i.size) (Builtin.zeroCells zv.cells m).toList):=by
      simp[Builtin.append_,dA hs,dA hs',hsz,asInt,asIntOf,hwm,typeInfo,hi,hneg,h48,hns,zeroValue,hzv,hge,hadd,hst]
     rw[hap]; rfl
  ·cases h
 ·cases h
def Po(hr:Rel j M w){id sz ver:Nat}{ys:List ag}(hM:M[id]?=some (.arr sz ver []))(hwy:wid ys sz){us:List Value}(hrl:RL w (nV j M w) (jD ys) us){v:Value}{w':World}{c':Nat}{row':Array Value}{e:TypeId}
  (h1:ys.length<=c') (hv:v = .slice (some ⟨w.heap.size,0,none⟩) ys.length c') (q:Quiet w w') (hb:∀b,b<w.heap.size->w'.heap[b]?=w.heap[b]?) (hn:w'.heap[w.heap.size]?=some (.cells row' e (0,0))) (hs:c'*sz<=row'.size) (hp:∀p,p<us.length->row'[p]?=us[p]?) :
  iJ j M w (.dk id (ver+1) sz 0 ys.length,M.set id (.arr sz (ver+1) ys)) v w':=by
 subst hv;have hid:=aF hM;have hrel:=Rel.uw (ver':=ver+1) hM hr q hb (ar _) (lt_of_block hn) (by simp) (fun j' M' hx=>lJ hn hwy (hrl.mono hx.hU) hp)
 have hext:=Ext.uw (j:=j) (ver':=ver+1) (xs':=ys) hM q hb (ar _) (by simp)
 refine⟨_,hrel,hext,.dk (.inl ⟨w.heap.size,0,c',by rw[bV],by omega⟩) (by simpa using hid) (fun bx hbx=>by rw[dG hid] at hbx; cases hbx; rfl) fun sz' v' zs hx=>?_⟩
 rw[dG hid] at hx; injection hx with hx; injection hx with e1 e2 e3
 subst e1; subst e2; subst e3;exact⟨ar _,fun _=>⟨rfl,cA _,ar _,.inr ⟨w.heap.size,c',row',e,by simp[gy],by simp,by omega,hn,by rw[aQ]; omega⟩⟩⟩
theorem G7(hr:Rel j M w){t t' e e':TypeId}{i:TypeInfo}{zv:Value}{y y':Operand}(hexec:∀r,(Builtin.append_ #[t,t'] o.type #[a.eval y,a.eval y']).run P w=r->(execOp a.eval o).run P w=r.andThen fun v w' => .ok (.value v) w')
  (hs:P.underlying t=some (.slice e)) (hs':P.underlying t'=some (.slice e')) (hi:P.info? e=some i) (hz:i.zero=some zv) (hzs:zv.cells.size=i.size) (hb0:0<i.bytes) (hb1:i.bytes<=2 ^ 20)
  {id ver sz' lo hi0 sz0 v0:Nat} {xs ys:List ag} {B:Option Addr} {cap2:Nat} (hM:M[id]?=some (.arr sz0 v0 xs)) (d1:v0=ver) (d2:sz'=i.size) (d3:lo=0) (d4:hi0=xs.length) (hy:ys=[]) (hv2:a.eval y' = .slice B ys.length cap2)
  (hroom:dQ (xs.length+ys.length) i.bytes) (r1:fY j M w (.dk id ver sz' lo hi0) (a.eval y)) (h:some (ag.dk id ver i.size lo hi0,M)=some x):∃v w',qU P o a w v w'/\iJ j M w x v w':=by
 injection h with h
 subst h; subst d1; subst d2; subst d3; subst d4; subst hy
 have hfc:∀w':World,w'.heap=w.heap->(Builtin.firstCells i.size 0 (a.eval y')).run P w' = .ok (#[]:Array Value) w':=fun w' _=>by
  rw[hv2]; cases B<;>simp[Builtin.firstCells,loadCells,loadCellsFrom]
 have eY:∀w':World,(Builtin.lenOf (a.eval y')).run P w' = .ok 0 w':=fun w'=>by rw[hv2]; rfl
 refine⟨a.eval y,w,.inl ?_,.still hr r1⟩;obtain⟨_,hid,_,g⟩:=r1.nB;obtain⟨e1,_,_,⟨hx,hj0,A,hvA⟩|⟨b,cap,row,t0,l3,l4,l5,l6,l7⟩⟩:=(g sz0 v0 xs hM).2 rfl
 ·have hA0:∀w':World,w'.heap=w.heap->(Builtin.firstCells i.size 0 (.slice A 0 0)).run P w' = .ok #[] w':=fun w' _=>by
   cases A<;>simp[Builtin.firstCells,loadCells,loadCellsFrom]
  obtain⟨A1,_⟩:=qm (P:=P) (w:=w) hs hs' (fun k h=>by cases h) hi hz hb0 hb1 o.type (bN:=A) (n:=0) (cap:=0) (m:=0) eY hA0 hfc (by simp)
  have h3:=A1 (ar _) w (by cases A<;>simp[storeCells])
  rw[<-hvA] at h3;rw[hexec _ h3,hvA]; rfl
 ·subst e1;rw[bV] at l4 l5;rw[je] at l4;rw[aQ] at l7;obtain⟨b',row0,t',k1,k2,k3,k4,k5⟩:=hr.yf hM l3;rw[l3] at k1; cases k1;rw[l6] at k2; injection k2 with k2; injection k2 with k2 k2'
  subst k2; subst k2'
  have hfx:∀w':World,w'.heap=w.heap->(Builtin.firstCells i.size xs.length (.slice (some ⟨b,0,none⟩) xs.length cap)).run P w' = .ok (row.toList.take (xs.length*i.size)).toArray w':=fun w' hw'=>by
   have:=oJ (P:=P) (w:=w') b 0 (xs.length*i.size) (fun p=>(row[p]?).getD undef) fun p hp=>by
    simp only[World.cell?,hw',l6,aQ];rw[bb (show p<row.size by omega)]; rfl
   simp only[Builtin.firstCells];rw[this];congr 2;apply cS;intro p;rw[aZ,gI]
   grind
  obtain⟨A1,_⟩:=qm (P:=P) (w:=w) hs hs' (fun k h=>by cases h) hi hz hb0 hb1 o.type (bN:=some ⟨b,0,none⟩) (n:=xs.length) (cap:=cap) (m:=0) eY hfx hfc (by simpa[dQ] using hroom)
  have h3:=A1 (by omega) w (by simp[storeCells])
  rw[<-l4] at h3;rw[hexec _ h3,l4]; rfl
theorem ET(hr:Rel j M w)(he:cy j M w bt a){c:Call}{y y':Operand}{z z':gQ}{t t' e e':TypeId}{i:TypeInfo}{zv:Value}(hop:o.op = .call c)(hb:c.callee = .builtin .append)(ha:c.args.toList=[y,y'])
  (hat:c.argTypes = #[t,t']) (hs:P.underlying t=some (.slice e)) (hs':P.underlying t'=some (.slice e')) (hi:P.info? e=some i) (hz:i.zero=some zv) (hzs:zv.cells.size=i.size) (hpos:0<i.size) (hb0:0<i.bytes) (hb1:i.bytes<=2 ^ 20)
  (hzy:ef y=some z) (hzy':ef y'=some z') (h:dZ C bt M (.append i.size i.bytes z z')=some x):∃v w',qU P o a w v w'/\iJ j M w x v w':=by
 by_cases hna:∀id ver sz lo hi,z.ev bt ≠ .dk id ver sz lo hi
 ·exact KJ hr he hop hb ha hat hs hs' hi hz hzs hpos hb0 hb1 hzy hzy' h hna
 ·have hna':∃id ver sz lo hi,z.ev bt = .dk id ver sz lo hi:=by
   grind
  obtain⟨id,ver,sz',lo,hi0,ez⟩:=hna';have r1:=cH he hzy;have r2:=cH he hzy';simp only[dZ] at h;split at h
  ·rename_i ez' _;rw[ez] at ez'; cases ez'
  ·rename_i id' ver' szz lo' hi' tk ys ez1 ez2;rw[ez] at ez1; injection ez1 with q1 q2 q3 q4 q5
   subst q1; subst q2; subst q3; subst q4; subst q5;rw[ez] at r1; rw[ez2] at r2;rw[eN] at h;split at h
   ·rename_i sz0 v0 xs hM;obtain⟨⟨d1,d2,d3,d4,hroom,hwx,hwy⟩,h⟩:=di h;have ha':c.args = #[y,y']:=by rw[<-ha]
    have hexec:∀r,(Builtin.append_ #[t,t'] o.type #[a.eval y,a.eval y']).run P w=r->(execOp a.eval o).run P w=r.andThen fun v w' => .ok (.value v) w':=by
     intro r hr';simp[execOp,hop,resolve,hb,invoke,builtin,ha',hat,hr']
    obtain⟨B,cap2,hv2,hcap2,hsr⟩:=nH r2.dH hwy;rcases kQ h with ⟨hyl,h⟩|⟨hyl,h⟩
    ·exact G7 hr hexec hs hs' hi hz hzs hb0 hb1 hM d1 d2 d3 d4 (cp (by simpa using hyl)) hv2 hroom r1 h
    have hyl:0<ys.length:=Nat.pos_of_ne_zero (by simpa using hyl)
    have hne:ys≠[]:=List.ne_nil_of_length_pos hyl;injection h with h
    subst h; subst d1; subst d2; subst d3; subst d4;rw[fQ];obtain⟨b2,off2,rfl,us,hrl,hul,hone,hcell⟩:=hsr.resolve_left hne
    have hfc:∀w':World,w'.heap=w.heap->(Builtin.firstCells i.size ys.length (a.eval y')).run P w' = .ok us.toArray w':=fun w' hw'=>by
     have:=oJ (P:=P) (w:=w') b2 off2 (ys.length*i.size) (fun p=>(us[p]?).getD undef) fun p hp=>by
      have h1:=(hcell p _ (aj (by omega))).1
      grind [World.cell?,List.getElem?_eq_getElem]
     rw[hv2];simp only[Builtin.firstCells];rw[this];congr 2;apply cS
     grind
    have eY:∀w':World,(Builtin.lenOf (a.eval y')).run P w' = .ok ys.length w':=fun w'=>by rw[hv2]; rfl
    obtain⟨_,hid,_,g⟩:=r1.nB;obtain⟨e1,_,_,⟨hx,hj0,A,hvA⟩|⟨b,cap,row,t0,l3,l4,l5,l6,l7⟩⟩:=(g sz0 v0 xs hM).2 rfl
    ·subst hx;subst e1
     have hA0:∀w':World,w'.heap=w.heap->(Builtin.firstCells i.size 0 (.slice A 0 0)).run P w' = .ok #[] w':=fun w' _=>by
      cases A<;>simp[Builtin.firstCells,loadCells,loadCellsFrom]
     obtain⟨_,A2⟩:=qm (P:=P) (w:=w) hs hs' (fun k h=>by cases h) hi hz hb0 hb1 o.type (bN:=A) (n:=0) (cap:=0) (m:=ys.length) eY hA0 hfc (by simpa[dQ] using hroom)
     obtain⟨newCap,rest,h1,h2,h3⟩:=A2 (by omega)
     obtain⟨q,hbk,iv⟩:=pL (w:=w) (.cells (#[]++us.toArray++rest) e (0,0));rw[<-hvA] at h3;refine⟨_,_,.inl (by rw[hexec _ h3]; rfl),?_⟩
     have:=Po (c':=newCap) (e:=e) (v := .slice (some ⟨w.heap.size,0,none⟩) (0+ys.length) newCap) (w':={ w with heap:=w.heap.push (.cells (#[]++us.toArray++rest) e (0,0)),drawn:=w.drawn+1 }) hr hM hwy hrl (by omega) (by rw[aQ]) ⟨q.size,rfl,rfl,rfl⟩ hbk iv (by
      simp only[fT,cJ,h2,hzs,hul,aH];rw[aQ,aQ,<-bP];exact bf _ (by omega)) (fun p hp=>by
      rw[cr (by simpa using hp)]; simp)
     simpa using this
    ·subst e1;rw[bV] at l4 l5;rw[je] at l4;rw[aQ] at l7;obtain⟨b',row0,t',k1,k2,k3,k4,k5⟩:=hr.yf hM l3;rw[l3] at k1; cases k1;rw[l6] at k2; injection k2 with k2; injection k2 with k2 k2'
     subst k2; subst k2';have key:=fun v w' hq=>Lj (v:=v) (w':=w') hr hM l3 l6 l5 l7 k4 hwy hne hrl hq
     have hfx:∀w':World,w'.heap=w.heap->(Builtin.firstCells i.size xs.length (.slice (some ⟨b,0,none⟩) xs.length cap)).run P w' = .ok (row.toList.take (xs.length*i.size)).toArray w':=fun w' hw'=>by
      have:=oJ (P:=P) (w:=w') b 0 (xs.length*i.size) (fun p=>(row[p]?).getD undef) fun p hp=>by
       simp only[World.cell?,hw',l6,aQ];rw[bb (show p<row.size by omega)]; rfl
      simp only[Builtin.firstCells];rw[this];congr 2;apply cS;intro p;rw[aZ,gI]
      grind
     obtain⟨A1,A2⟩:=qm (P:=P) (w:=w) hs hs' (fun k h=>by cases h) hi hz hb0 hb1 o.type (bN:=some ⟨b,0,none⟩) (n:=xs.length) (cap:=cap) (m:=ys.length) eY hfx hfc (by simpa[dQ] using hroom)
     rcases bH cap (xs.length+ys.length) with cu|hge
     ·obtain⟨newCap,rest,h1,h2,h3⟩:=A2 cu;obtain⟨q,hbk,iv⟩:=pL (w:=w) (.cells ((row.toList.take (xs.length*i.size)).toArray++us.toArray++rest) e (0,0));have htk:(row.toList.take (xs.length*i.size)).length=xs.length*i.size:=by simp; omega
      rw[<-l4] at h3;refine⟨_,{ w with heap:=w.heap.push (.cells ((row.toList.take (xs.length*i.size)).toArray++us.toArray++rest) e (0,0)),drawn:=w.drawn+1 },.inl (by rw[hexec _ h3]; rfl),key _ _ (.inr ⟨newCap,_,e,h1,rfl,⟨q.size,rfl,rfl,rfl⟩,hbk,iv,?_,fun p hp=>?_⟩)⟩
      ·simp only[fT,cJ,h2,hzs,hul,htk];rw[<-bP,<-bP];exact bf _ (by omega)
      ·rw[cr (by simp only[fT,cJ,hul,htk]; rw[<-bP]; exact hp)]
       simp[nw]
     ·have hfit:xs.length*i.size+0+us.length<=row.size:=by
       rw[hul,cV,<-bP]; exact bj (bf _ hge) l7
      have hst:=mT (P:=P) us w (xs.length*i.size) 0 row l6 hfit hone;simp only[cV] at hst;have hadd:(⟨b,0,none⟩:Addr).add (xs.length*i.size)=⟨b,xs.length*i.size,none⟩:=by simp[lC]
      have h3:=A1 hge (oV w b (xs.length*i.size) us) (by
       grind)
      rw[<-l4] at h3;exact⟨_,_,.inl (by rw[hexec _ h3]; rfl),key _ _ (.inl ⟨hge,rfl,rfl⟩)⟩
   ·cases h
  ·cases h
theorem KI(hr:Rel j M w)(he:cy j M w bt a){c:Call}{y y':Operand}{z z':gQ}{t t' e e':TypeId}{i:TypeInfo}{zv:Value}(hop:o.op = .call c)(hb:c.callee = .builtin .append)(ha:c.args.toList=[y,y'])
  (hat:c.argTypes = #[t,t']) (hs:P.underlying t=some (.slice e)) (hs':P.underlying t'=some (.slice e')) (hi:P.info? e=some i) (hz:i.zero=some zv) (hzs:zv.cells.size=i.size) (hpos:0<i.size) (hb0:0<i.bytes) (hb1:i.bytes<=2 ^ 20)
  (hzy:ef y=some z) (hzy':ef y'=some z') (h:dZ C bt M (.vt i.size i.bytes z z')=some x):∃v w',qU P o a w v w'/\iJ j M w x v w':=by
 simp only[dZ] at h;have r1:=cH he hzy;have r2:=cH he hzy';split at h
 ·rename_i tk ys ez ez';obtain⟨⟨hroom,hwy⟩,h⟩:=di h;cases h;rw[ez] at r1;rw[ez'] at r2;obtain⟨A,hv⟩:=r1.Cn;have ha':c.args = #[y,y']:=by rw[<-ha]
  have hexec:∀r,(Builtin.append_ #[t,t'] o.type #[a.eval y,a.eval y']).run P w=r->(execOp a.eval o).run P w=r.andThen fun v w' => .ok (.value v) w':=by
   simp_all [execOp,resolve,invoke,builtin]
  have hA0:∀w':World,w'.heap=w.heap->(Builtin.firstCells i.size 0 (.slice A 0 0)).run P w' = .ok #[] w':=fun w' _=>by
   cases A<;>simp[Builtin.firstCells,loadCells,loadCellsFrom]
  obtain⟨B,cap2,hv2,hcap2,hsr⟩:=nH r2.dH hwy;have eY:∀w':World,(Builtin.lenOf (a.eval y')).run P w' = .ok ys.length w':=fun w'=>by rw[hv2]; rfl
  rcases fE ys.length with h0|h0
  ·have hnil:ys=[]:=cp h0;subst hnil
   have hfc:∀w':World,w'.heap=w.heap->(Builtin.firstCells i.size 0 (a.eval y')).run P w' = .ok (#[]:Array Value) w':=fun w' _=>by
    rw[hv2]; cases B<;>simp[Builtin.firstCells,loadCells,loadCellsFrom]
   obtain⟨A1,_⟩:=qm (P:=P) (w:=w) hs hs' (fun k h=>by cases h) hi hz hb0 hb1 o.type (bN:=A) (n:=0) (cap:=0) (m:=0) eY hA0 hfc (by simp[])
   have h3:=A1 (ar _) w (by cases A<;>simp[storeCells])
   rw[<-hv] at h3;have q:Quiet w w:=⟨ar _,rfl,rfl,rfl⟩;have g1:Rel (gy j M.length none) (M++[.arr i.size 0 []]) w:=hr.push (ob:=none) (bx := .arr i.size 0 []) (fun b h=>by cases h) q (fun _ _=>rfl) (fun h=>by cases h) (fun sz n b h h'=>by cases h') (fun sz ver xs h=>by injection h with e1 e2 e3; exact .inl ⟨e3.symm,rfl⟩)
   have g2:Ext j M w (gy j M.length none) (M++[.arr i.size 0 []]) w:=Ext.push (fun b h=>by cases h) q (fun _ _=>rfl)
   refine⟨a.eval y,w,.inl (by rw[hexec _ h3]; rfl),gy j M.length none,g1,g2,?_⟩
   rw[hv];refine .dk (.inr ⟨rfl,A,rfl⟩) (by simp) (fun bx hbx=>by rw[lO] at hbx; cases hbx; rfl) fun sz' v' zs hx=>?_
   rw[lO] at hx; injection hx with hx; injection hx with e1 e2 e3
   subst e1; subst e2; subst e3;exact⟨ar _,fun _=>⟨rfl,ar _,ar _,.inl ⟨rfl,by simp[gy],A,rfl⟩⟩⟩
  ·have hne:ys≠[]:=List.ne_nil_of_length_pos h0;obtain⟨b2,off2,rfl,us,hrl,hul,hone,hcell⟩:=hsr.resolve_left hne
   have hfc:∀w':World,w'.heap=w.heap->(Builtin.firstCells i.size ys.length (a.eval y')).run P w' = .ok us.toArray w':=fun w' hw'=>by
    have:=oJ (P:=P) (w:=w') b2 off2 (ys.length*i.size) (fun p=>(us[p]?).getD undef) fun p hp=>by
     have h1:=(hcell p _ (aj (by omega))).1
     grind [World.cell?,List.getElem?_eq_getElem]
    rw[hv2];simp only[Builtin.firstCells];rw[this];congr 2;apply cS
    grind
   obtain⟨_,A2⟩:=qm (P:=P) (w:=w) hs hs' (fun k h=>by cases h) hi hz hb0 hb1 o.type (bN:=A) (n:=0) (cap:=0) (m:=ys.length) eY hA0 hfc (by simpa[dQ] using hroom)
   obtain⟨newCap,rest,h1,h2,h3⟩:=A2 (by omega)
   obtain⟨q,hbk,iv⟩:=pL (w:=w) (.cells (#[]++us.toArray++rest) e (0,0));rw[<-hv] at h3;have q':Quiet w { w with heap:=w.heap.push (.cells (#[]++us.toArray++rest) e (0,0)),drawn:=w.drawn+1 }:=⟨q.size,rfl,rfl,rfl⟩
   have hob:∀b,some w.heap.size=some b->w.heap.size<=b/\b<({ w with heap:=w.heap.push (.cells (#[]++us.toArray++rest) e (0,0)),drawn:=w.drawn+1 }:World).heap.size:=fun b h=>by cases h; exact⟨ar _,lt_of_block iv⟩
   have hpf:∀p,p<us.length->(#[]++us.toArray++rest)[p]?=us[p]?:=fun p hp=>by
    rw[cr (by simpa using hp)]; simp
   have hat:∀j' M',Ext j M w j' M' { w with heap:=w.heap.push (.cells (#[]++us.toArray++rest) e (0,0)),drawn:=w.drawn+1 }->DR j' M' { w with heap:=w.heap.push (.cells (#[]++us.toArray++rest) e (0,0)),drawn:=w.drawn+1 } w.heap.size i.size ys:=fun j' M' hx=>lJ iv hwy (hrl.mono hx.hU) hpf
   have hsz:newCap*i.size<=(#[]++us.toArray++rest).size:=by
    simp only[fT,cJ,h2,hzs,hul,aH];rw[aQ,aQ,<-bP];exact bf _ (by omega)
   refine⟨_,_,.inl (by rw[hexec _ h3]; rfl),gy j M.length (some w.heap.size),hr.push hob q' hbk (fun h=>by cases h) (fun sz n b h _=>by cases h) (fun sz0 v0 xs0 he=>?_),Ext.push (fun b h=>(hob b h).1) q' hbk,?_⟩
   ·injection he with e1 e2 e3
    subst e1; subst e2; subst e3;refine .inr ⟨w.heap.size,_,e,rfl,iv,?_,hwy,fun j' M' hx q x k c hx' hk=>?_⟩
    ·exact bj (bf _ (by omega)) hsz
    ·obtain⟨vs,t,a1,a2,a3,a4⟩:=hat j' M' hx;rw[iv] at a1; injection a1 with a1; injection a1 with a1 a1'
     subst a1;exact a4 q x k c hx' hk
   ·rw[aQ];refine .dk (.inl ⟨w.heap.size,0,newCap,by rw[bV],by omega⟩) (by simp) (fun bx hbx=>by rw[lO] at hbx; cases hbx; rfl) fun sz' v' xs hx=>?_
    rw[lO] at hx; injection hx with hx; injection hx with e1 e2 e3
    subst e1; subst e2; subst e3;exact⟨ar _,fun _=>⟨rfl,cA _,ar _,.inr ⟨w.heap.size,newCap,_,e,by simp[gy],by simp,by omega,iv,by rw[aQ]; exact hsz⟩⟩⟩
 ·cases h
def Tl(hr:Rel j M w)(he:cy j M w bt a){c:Call}{y y':Operand}{z z':gQ}{t t' e e':TypeId}{n:Nat}(hop:o.op = .call c)(hb:c.callee = .builtin .copy)(ha:c.args.toList=[y,y'])
  (hat:c.argTypes.toList=[t,t']) (hs:P.underlying t=some (.slice e)) (hs':P.underlying t'=some (.slice e')) (hn:qv P e=some n) (hpos:0<n)
  (hz:ef y=some z) (hz':ef y'=some z') (h:dZ C bt M (.D5 n z z')=some x):∃v w',qU P o a w v w'/\iJ j M w x v w':=by
 simp only[dZ] at h;have r1:=cH he hz;have r2:=cH he hz';have ha':c.args = #[y,y']:=by rw[<-ha]
 have hat':c.argTypes = #[t,t']:=by rw[<-hat]
 have hexec:∀r,(Builtin.copy_ #[t,t'] o.type #[a.eval y,a.eval y']).run P w=r->(execOp a.eval o).run P w=r.andThen fun v w' => .ok (.value v) w':=by
  intro r hr';simp[execOp,hop,resolve,hb,invoke,builtin,ha',hat',hr']
 have hsz:(sizeOf e).run P w = .ok n w:=jd hn;split at h
 ·rename_i tk ys ex ey;rw[ex] at r1; rw[ey] at r2;obtain⟨hwy,h⟩:=di h;cases h;obtain⟨B,cap2,hv2,_,_⟩:=nH r2.dH hwy;obtain⟨A,cap,hv,_,_⟩:=nH (size:=n) r1.dH (fun y hy=>by cases hy)
  refine⟨.int .i64 0,w,.inl ?_,.still hr (.plain (.int _ _))⟩;rw[hexec _ rfl,hv,hv2];cases A<;>cases B<;>simp[Builtin.copy_,dA hs,hsz,Builtin.lenOf,Builtin.firstCells,loadCells,loadCellsFrom,storeCells,goInt,Result.andThen]
 ·rename_i id ver sz' lo hi0 tk ys ex ey;rw[ex] at r1; rw[ey] at r2;rw[eN] at h;split at h
  ·rename_i sz0 v0 xs hM;obtain⟨⟨d1,d2,hwy,hne0⟩,h9⟩:=di h;injection h9 with h9
   subst h9; subst d1; subst d2;obtain⟨_,hid,_,g⟩:=r1.nB;obtain⟨e1,l1,l2,⟨hx,_⟩|⟨b,cap,row,t0,l3,l4,l5,l6,l7⟩⟩:=(g sz0 v0 xs hM).2 rfl
   ·exact absurd hne0 (by rw[hx]; simp)
   subst e1;obtain⟨b',row0,t',k1,k2,k3,k4,k5⟩:=hr.yf hM l3;rw[l3] at k1; cases k1;rw[l6] at k2; injection k2 with k2; injection k2 with k2 k2'
   subst k2; subst k2';obtain⟨B,cap2,hv2,hcap2,hsr⟩:=nH r2.dH hwy;generalize hm:min ys.length (hi0-lo)=m;have hm1:m<=ys.length:=by omega
   have hm2:m<=hi0-lo:=by omega
   -- what is copied
   obtain⟨us,hul,hrl,hone,hfc⟩:∃us:List Value,us.length=m*sz0/\RL w (nV j M w) (jD (ys.take m)) us/\(∀u,u∈us->u.oneCell'=true)/\(Builtin.firstCells sz0 m (.slice B ys.length cap2)).run P w = .ok us.toArray w:=by
    rcases hsr with rfl|⟨b2,off2,rfl,us,hrl,hul,hone,hcell⟩
    ·have:m=0:=by simpa using hm1
     subst this;refine⟨[],by simp,⟨rfl,fun p c v h=>by simp[jD] at h⟩,fun u hu=>by (cases hu),?_⟩
     cases B<;>simp[Builtin.firstCells,loadCells,loadCellsFrom]
    ·have hle:m*sz0<=us.length:=by rw[hul]; exact bf _ hm1
     refine⟨us.take (m*sz0),by simp; omega,by rw[rP m hwy]; exact hrl.take _,fun u hu=>hone u (dn hu),?_⟩
     have:=oJ (P:=P) (w:=w) b2 off2 (m*sz0) (fun p=>(us[p]?).getD undef) fun p hp=>by
      rw[(hcell p _ (aj (by omega))).1,aj (show p<us.length by omega)]; rfl
     simp only[Builtin.firstCells];rw[this];congr 2;apply cS;intro p;rw[aZ,gI];rcases bH p (m*sz0) with h|h
     ·rw[fM h,az h];simp[aj (show p<us.length by omega)]
     ·rw[ak (by omega),eJ (by simpa using h)]; rfl
   have hrow:=xi (b:=b) k3 k4 k5;have hbd:lo*sz0+m*sz0<=xs.length*sz0:=by rw[<-bP]; exact bf _ (by omega)
   have hfit:lo*sz0+us.length<=row.size:=by rw[hul]; omega
   have hst:=mT (P:=P) us w (lo*sz0) 0 row l6 (by omega) hone
   obtain⟨s1,s2,s3,s4,s5,row2,s6,s7,s8,s9⟩:=lA (t:=t0) us w (lo*sz0) row l6 hfit;have hwd':wid (xs.take lo++(ys.take m++xs.drop (lo+m))) sz0:=mU (vo k4) (mU (vo hwy) (vn k4))
   have iv:RL w (nV j M w) (jD (xs.take lo++(ys.take m++xs.drop (lo+m)))) ((row.toList.take (xs.length*sz0)).take (lo*sz0)++(us++(row.toList.take (xs.length*sz0)).drop ((lo+m)*sz0))):=by
    rw[ou,ou,rP lo k4,tI (lo+m) k4];exact(hrow.take _).append (hrl.append (hrow.drop _))
   have hll:(xs.take lo++(ys.take m++xs.drop (lo+m))).length=xs.length:=by simp; omega
   have hmm:(lo+m)*sz0=lo*sz0+m*sz0:=bP ..
   have hput:=xh (ver':=v0) (xs':=xs.take lo++(ys.take m++xs.drop (lo+m))) hr hM l3 (w':=oV w b (lo*sz0) us) ⟨by omega,s2,s3,s4⟩ (fun b' hb' _=>s5 b' hb') l6 s6 s7 (ar _) (fun _=>hll) hwd' iv (fun p hp=>by
    have hp':p<xs.length*sz0:=by
     rw[<-iv.1,im hwd',hll] at hp; exact hp
    have htk:(List.take (lo*sz0) (row.toList.take (xs.length*sz0))).length=lo*sz0:=by simp; omega
    rcases bH p (lo*sz0) with q1|q1
    ·rw[s8 p (.inl q1),bl (by rw[htk]; exact q1),bF q1,bF hp']; simp
    ·rw[br (by rw[htk]; exact q1),htk]
     rcases bH p (lo*sz0+m*sz0) with q2|q2
     ·rw[bl (by rw[hul]; omega)]
      have:=s9 (p-lo*sz0) (by rw[hul]; omega)
      rw[cU q1] at this;exact this
     ·rw[br (by rw[hul]; omega),s8 p (.inr (by rw[hul]; omega)),cI,hul,hmm,show lo*sz0+m*sz0+(p-lo*sz0-m*sz0)=p by omega,bF hp']; simp)
   rw[fQ];refine⟨.int .i64 (m:Int),oV w b (lo*sz0) us,.inl ?_,j,hput.1,hput.2,.plain (.int _ _)⟩;rw[hexec _ rfl,l4,hv2];have hmin:Nat.min ys.length (hi0-lo)=m:=hm;simp only[cV] at hst;simp[Builtin.copy_,dA hs,hsz,Builtin.lenOf,hmin,hfc,hst,goInt,Result.andThen]
  ·cases h
 ·cases h
def WS(hr:Rel j M w){t:TypeId}{i:TypeInfo}{zv:Value}{n:Nat}(hop:o.op = .alloc t)(hi:P.info? t=some i)(hzv:i.zero=some zv)(hl:sR zv.cells.toList=some [.slice .c0 []])
  (h:dZ C bt M (.MZ n)=some x):∃v w',qU P o a w v w'/\iJ j M w x v w':=by
 simp only[dZ] at h;cases h;have q:Quiet w w:=⟨ar _,rfl,rfl,rfl⟩;have h1:Rel (gy j M.length none) (M++[.arr n 0 []]) w:=hr.push (ob:=none) (bx := .arr n 0 []) (fun b h=>by cases h) q (fun _ _=>rfl) (fun h=>by cases h) (fun sz n b h h'=>by cases h') (fun sz ver xs h=>by injection h with e1 e2 e3; exact .inl ⟨e3.symm,rfl⟩)
 have h2:Ext j M w (gy j M.length none) (M++[.arr n 0 []]) w:=Ext.push (fun b h=>by cases h) q (fun _ _=>rfl)
 obtain⟨k1,k2⟩:=pU (j:=gy j M.length none) (M:=M++[.arr n 0 []]) (w:=w) hl;have hs1:zv.cells.size=1:=by simpa using k1.symm
 have hv0:∃A,zv.cells[0]?=some (.slice A 0 0):=by
  have hv:=bb (show 0<zv.cells.size by omega)
  obtain⟨A,hA⟩:=(k2 0 _ (zv.cells[0]'(by omega)) rfl (by simp)).Cn
  exact⟨A,by rw[hv,hA]⟩
 obtain⟨A,hA⟩:=hv0
 have hrc:RC (gy j M.length none) (M++[.arr n 0 []]) w [.dk M.length 0 n 0 0] zv.cells:=by
  refine⟨by simp[hs1],fun p c v hc hv=>?_⟩
  cases p with
  |zero =>
   simp at hc; subst hc;rw[hA] at hv; cases hv;refine .dk (.inr ⟨rfl,A,rfl⟩) (by simp) (fun bx hbx=>by rw[lO] at hbx; cases hbx; rfl) fun sz' v' zs hx=>?_
   rw[lO] at hx; injection hx with hx; injection hx with e1 e2 e3
   subst e1; subst e2; subst e3;exact⟨ar _,fun _=>⟨rfl,ar _,ar _,.inl ⟨rfl,by simp[gy],A,rfl⟩⟩⟩
  |succ p=>simp at hc
 obtain⟨j',g1,g2,g3⟩:=Gn h1 hrc t;refine⟨_,_,.inl (show(execOp a.eval o).run P w = .ok (.value (.pointer (some ⟨w.heap.size,0,none⟩))) { w with heap:=w.heap.push (.cells zv.cells t (0,0)) } by simp[execOp,hop,Instr.alloc,zeroValue,pC hi,hzv,newVar,newRow]),j',?_,?_,?_⟩
 ·simpa using g1
 ·simpa using h2.trans g2
 ·simpa using g3
end
section
variable {P:Program} {C:eO} {own:List Nat} {o:Oper} {ao:kI} {bt:Env} {M:aL} {j:J} {w:World} {a:Act} {x:ag×aL}
def tD(P:Program)(o:Oper)(a:Act)(w:World)(K:Act->World->Prop)(KP:Value->World->Prop):Prop :=
 (∃v w',qU P o a w v w'/\K (a.put o.dst v) w')\/(∃f us,(execOp a.eval o).run P w = .ok (.enter f us) w/\Calls P f us w fun e w'=>(∃v,e = .returned v/\K (a.put o.dst v) w')\/∃u,e = .panicked [{ v:=u,recovered:=false }]/\KP u w') \/
  ∃u,(execOp a.eval o).run P w = .halt (.panic u) w/\KP u w
def dY{K:Act->World->Prop}{KP:Value->World->Prop}(h:∃v w',qU P o a w v w'/\iJ j M w x v w')(hK:∀v w',iJ j M w x v w'->K (a.put o.dst v) w'):tD P o a w K KP:=by
 obtain⟨v,w',h1,h2⟩:=h;exact .inl ⟨v,w',h1,hK v _ h2⟩
def xL{K:Act->World->Prop}{KP:Value->World->Prop}{f:Nat}{us:Array Value}(hrun:(execOp a.eval o).run P w = .ok (.enter f us) w)
  (h:Calls P f us w fun e w'=>vr j M w x e w') (hK:∀v w',iJ j M w x v w'->K (a.put o.dst v) w') (hP:∀u w',GS j M w x u w'->KP u w'):tD P o a w K KP :=
 .inr (.inl ⟨f,us,hrun,h.mono fun e w' he=>he.imp (fun⟨v,he,hv⟩=>⟨v,he,hK v _ hv⟩) fun⟨u,he,hu⟩=>⟨u,he,hP u _ hu⟩⟩)
def Wd(r:Option Nat):Fence:={ Fence.wide with round:=r }
def JH{r:Option Nat}{n f:Nat}{args:Array Value}{R:Ending->World->Prop}(h:Calls P f args w R):CallsIn (Wd r) n P f args w R:=by
 cases r with
 |none=>exact callsIn_wide.2 h
 |some l=>exact CallsIn.inRound l (callsIn_wide.2 h)
theorem tD.wpIn{K:Act->World->Prop}{KP:Value->World->Prop}{Q:Exit->Act->World->Prop}{r:Option Nat}{n:Nat}(hd:∀c,o.op ≠ .defer c)(h:tD P o a w K KP)
  (hQ:∀u w',KP u w'->Q (.panic [{ v:=u,recovered:=false }]) a w'):o.wpIn (Wd r) n P a w K Q:=by
 refine⟨fun _ _=>trivial,?_⟩
 rw[Oper.semAt_eq _ _ _ hd];rcases h with ⟨v,w',h1|⟨h1,rfl⟩,h2⟩|⟨f,us,h1,h2⟩|⟨u,h1,h2⟩
 ·rw[h1]; exact h2
 ·rw[h1]; exact h2
 ·rw[h1];refine⟨fun h=>(by cases h),JH (h2.mono ?_)⟩
  grind
 ·rw[h1]; exact hQ u w h2
def zn(ho:M5 P own o=some ao):∀c,o.op ≠ .defer c:=by
 intro c h;simp_all [M5]
theorem rM{f:Nat}(h:kN P f=true)(us:Array Value):(callFunc f us).run P w = .ok (.enter f us) w:=by
 unfold kN at h;split at h
 ·rename_i fn hfn;have h1:fn.name ≠ "runtime.NumGoroutine" := by grind
  have h2:¬fn.body=none:=by grind
  simp[callFunc,hfn,h1,h2]
 ·cases h
theorem fY.shut{c:ag}{v:Value}(h:fY j M w c v):fY j M w c.shut v:=by
 cases c<;>first|exact h|exact .plain h.dH
theorem fY.gd{c:ag}{v:Value}(h:fY j M w c v):fY j M w c.gd v:=by
 cases c<;>first|exact h|exact .plain h.dH|skip
 obtain⟨vs,rfl,hl,hc⟩:=h.mc;refine .agg (by grind) fun i c u hi hu=>?_
 rw[aZ,aO] at hi;obtain⟨c0,hc0,rfl⟩:=hi;exact(hc i _ u hc0 hu).shut
theorem M6{c:Call}{f0 f:Nat}{l:List gQ}(hop:o.op = .call c)(hcal:c.callee = .value (.func f0))(h:M5 P own o=some (.vQ f l)):f0=f/\kN P f=true/\uL c.args.toList=some l:=by
 simp only[M5,hop,Pt,hcal] at h;split at h
 ·obtain⟨l',hl,h⟩:=ba h
  grind
 grind
theorem yl(hC:pj P C){c:Call}{f0 f:Nat}{l:List gQ}(hop:o.op = .call c)(hcal:c.callee = .value (.func f0))(ho:M5 P own o=some (.vQ f l)){M0:aL}(h:dZ C bt M0 (.vQ f l)=some x) :
  ∃xs sz n,x=(.slice (.own M0.length) xs,M0++[.tick sz n])/\∀ {j:J} {G:aL} {w:World} {a:Act} {p:Nat} {K:Act->World->Prop} {KP:Value->World->Prop},Rel j G w->sE j G w->cy j G w bt a->G[p]?=some .vq ->
   (∀v w',iJ j G w (.slice (.own p) xs,G.set p (.tick sz n)) v w'->K (a.put o.dst v) w')->tD P o a w K KP:=by
 obtain⟨rfl,hent,hl⟩:=M6 hop hcal ho;simp only[dZ] at h;unfold AH at h;split at h
 ·rename_i hc;obtain⟨hc1,hc2⟩:=hc;obtain⟨y,hy,h⟩:=bo h;split at h
  ·rename_i x1 x2 xs sz n e1 e2;cases h;refine⟨xs,sz,n,rfl,fun {j G w a p K KP} hr hG he hp hK=>?_⟩
   obtain⟨l1,l2⟩:=tY he hl
   have hy':C f0 (l.map fun x=>(x.ev bt).gd) []=some (.slice (.own 0) xs,[.tick sz n]):=by
    rw[hy,<-e1,<-e2]
   obtain⟨_,hcl⟩:=Ow (us:=c.args.map a.eval) hC hr hG hp hc1 hc2 hy' (by grind) fun i c' u hc' hu=>by
    rw[aZ,aO] at hc';obtain⟨y,hy,rfl⟩:=hc';rw[ik,aO] at hu;obtain⟨q,hq,rfl⟩:=hu;exact(l2 i y q hy (by simpa using hq)).gd
   exact .inr (.inl ⟨f0,_,by simp[execOp,hop,resolve,hcal,Act.eval,Deferred.ofValue,invoke,rM hent],hcl.mono fun e w' ⟨v,he,hv⟩ => .inl ⟨v,he,hK v w' hv⟩⟩)
  grind
 grind
theorem Df(hC:pj P C)(ho:M5 P own o=some ao)(h:dZ C bt M ao=some x)(hr:Rel j M w)(hG:sE j M w)(he:cy j M w bt a){K:Act->World->Prop}
  (hK:∀v w',iJ j M w x v w'->K (a.put o.dst v) w') {KP:Value->World->Prop} (hP:∀u w',GS j M w x u w'->KP u w'):tD P o a w K KP:=by
 have ho0:=ho;unfold M5 at ho;split at ho
 case h_1 y hop =>
  obtain⟨z,hz,ho⟩:=ba ho;cases ho;exact dY (BU hr he (.inl hop) hz h) hK
 case h_2 y hop =>
  obtain⟨z,hz,ho⟩:=ba ho;split at ho
  ·split at ho
   ·split at ho
    ·obtain⟨n,hn,ho⟩:=ba ho;split at ho
     ·cases ho;exact dY (ada hr he hop hz h) hK
     ·cases ho;exact dY (BU hr he (.inr hop) hz h) hK
    ·cases ho
   ·cases ho;exact dY (BU hr he (.inr hop) hz h) hK
  ·cases ho;exact dY (BU hr he (.inr hop) hz h) hK
 case h_3 c p q hop =>
  obtain⟨c',hc,ho⟩:=ba ho;obtain⟨p',hp,ho⟩:=ba ho;obtain⟨q',hq,ho⟩:=ba ho;cases ho;exact dY (WZ hr he hop hc hp hq h) hK
 case h_4 t hop =>
  obtain⟨i,hi,ho⟩:=ba ho;obtain⟨z,hz,ho⟩:=ba ho;obtain⟨l,hl,ho⟩:=ba ho;split at ho
  ·split at ho
   ·split at ho
    ·obtain⟨n,hn,ho⟩:=ba ho;cases ho;exact dY (WS hr hop hi hz hl h) hK
    ·cases ho
   ·cases ho;exact dY (Mm hr hop hi hz hl h) hK
  ·cases ho;exact dY (Mm hr hop hi hz hl h) hK
 case h_5 t y hop =>
  obtain⟨z,hz,ho⟩:=ba ho;cases ho;exact dY (ac6 hr he hop hz h) hK
 case h_6 t parts hop =>
  split at ho
  ·rename_i fs hfs;obtain⟨i,hi,ho⟩:=ba ho;obtain⟨z,hz,ho⟩:=ba ho;obtain⟨l,hl,ho⟩:=ba ho;obtain⟨ps,hps,ho⟩:=ba ho;split at ho
   ·rename_i hall;cases ho;exact dY (Tj hr he hop hfs hi hz hl hps hall h) hK
   ·cases ho
  ·rename_i len e ht;obtain⟨i,hi,ho⟩:=ba ho;obtain⟨z,hz,ho⟩:=ba ho;obtain⟨l,hl,ho⟩:=ba ho;obtain⟨n,hn,ho⟩:=ba ho;obtain⟨ps,hps,ho⟩:=ba ho;cases ho;exact dY (Oa hr he hop ht hi hz hl hn hps h) hK
  ·cases ho
 case h_7 t len parts hop =>
  split at ho
  ·rename_i e ht;obtain⟨i,hi,ho⟩:=ba ho;obtain⟨l,hl,ho⟩:=ba ho;split at ho
   ·rename_i hc;cases ho;split at h
    ·split at h
     ·exact dY (Tt hr he hop ht hi hl hc.1 hc.2.1 hc.2.2.1 h) hK
     ·exact dY (Mn hr he hop ht hi hl hc.1 hc.2.1 hc.2.2.1 h) hK
    ·exact dY (Mn hr he hop ht hi hl hc.1 hc.2.1 hc.2.2.1 h) hK
   ·cases ho
  ·cases ho
 case h_8 t y hop =>
  obtain⟨g,hg,ho⟩:=ba ho;obtain⟨n,hn,ho⟩:=ba ho;obtain⟨z,hz,ho⟩:=ba ho;cases ho;cases g
  ·exact dY (Tu hr he hop hg hz h) hK
  ·exact dY (Tv hr he hop hg hn hz h) hK
 case h_9 t y y' hop =>
  obtain⟨n,hn,ho⟩:=ba ho;obtain⟨z,hz,ho⟩:=ba ho;obtain⟨z',hz',ho⟩:=ba ho;cases ho;cases z with
  |tmp s =>
   dsimp only at h;split at h
   ·exact dY (Oj hr he hop hn hz hz' h) hK
   ·exact dY (Dg hr he hop hn hz hz' h) hK
  |_=>exact dY (Dg hr he hop hn hz hz' h) hK
 case h_10 y hop =>
  obtain⟨z,hz,ho⟩:=ba ho;cases ho;exact dY (ac7 hr he hop hz h) hK
 case h_11 op t y y' t' hop =>
  obtain⟨z,hz,ho⟩:=ba ho;obtain⟨z',hz',ho⟩:=ba ho;split at ho
  ·obtain⟨b,hb,ho⟩:=ba ho;cases ho;exact dY (Th hr he hop hb hz hz' h) hK
  ·obtain⟨b,hb,ho⟩:=ba ho;cases ho;exact dY (Th hr he hop hb hz hz' h) hK
  ·rename_i ht;split at ho
   ·cases ho;exact dY (Tp (neg:=false) hr he hop ht hz hz' h) hK
   ·cases ho;exact dY (Tp (neg:=true) hr he hop ht hz hz' h) hK
   ·cases ho
  ·rename_i fs ht;split at ho
   ·cases ho
   ·rename_i hst;obtain⟨ks,hks,ho⟩:=ba ho;have hst':P.stoodInHeld t=false:=by simpa using hst
    split at ho
    ·cases ho;exact dY (Tm (neg:=false) hr he hop ht hst' hks hz hz' h) hK
    ·cases ho;exact dY (Tm (neg:=true) hr he hop ht hst' hks hz hz' h) hK
    ·cases ho
  ·rename_i len e ht;split at ho
   ·split at ho
    ·rename_i hs;cases ho;exact dY (Tn hr he hop ht (by assumption) hs hz hz' h) hK
    ·cases ho
   ·cases ho
  ·cases ho
 case h_12 t y hop =>
  obtain⟨z,hz,ho⟩:=ba ho;cases ho;exact dY (ac9 hr he hop hz h) hK
 case h_13 t y hop =>
  obtain⟨z,hz,ho⟩:=ba ho;cases ho;exact dY (ac8 hr he hop hz h) hK
 case h_14 s d y hop =>
  obtain⟨z,hz,ho⟩:=ba ho;split at ho
  ·rename_i hs hd;cases ho;exact dY (WT hr he hop hs hd hz h) hK
  ·rename_i hs hd;cases ho;exact dY (W6 hr he hop hs hd hz h) hK
  ·rename_i e hs hd;split at ho
   ·rename_i hu;cases ho;exact dY (ac5 hr he hop hs hd hu hz h) hK
   ·cases ho
  ·cases ho
 case h_15 f first caps hop =>
  split at ho
  ·rename_i hf;obtain⟨l,hl,ho⟩:=ba ho;cases ho;exact dY (ahT hr he hop hf hl h) hK
  ·split at ho
   ·rename_i hf;obtain⟨l,hl,ho⟩:=ba ho;cases ho;exact dY (Ti hr he hop hf hl h) hK
   ·cases ho
 case h_16 t y lo hi mx hop =>
  obtain⟨z,hz,ho⟩:=ba ho;obtain⟨lo',hlo,ho⟩:=ba ho;obtain⟨hi',hhi,ho⟩:=ba ho;obtain⟨mx',hmx,ho⟩:=ba ho;split at ho
  ·rename_i ht;split at ho
   ·rename_i hm;cases ho
    have:mx=none:=by
     grind [qW]
    subst this;exact dY (Oh hr he hop ht hz hlo hhi h) hK
   ·cases ho
  ·rename_i e ht;obtain⟨n,hn,ho⟩:=ba ho;split at ho
   ·rename_i hc;cases ho;exact dY (Oi hr he hop ht hn hz hlo hhi hmx hc.2 h) hK
   ·cases ho
  ·cases ho
 case h_17 s y i hop =>
  split at ho
  ·rename_i fs hs;obtain⟨f,hf,ho⟩:=ba ho;obtain⟨n,hn,ho⟩:=ba ho;obtain⟨z,hz,ho⟩:=ba ho;split at ho
   ·rename_i hpos;cases ho;exact dY (Tq hr he hop hs hf hn hpos hz h) hK
   ·cases ho
  ·cases ho
 case h_18 s y i hop =>
  split at ho
  ·rename_i fs hs;obtain⟨f,hf,ho⟩:=ba ho;obtain⟨g,hg,ho⟩:=ba ho;obtain⟨n,hn,ho⟩:=ba ho;obtain⟨z,hz,ho⟩:=ba ho;cases ho;cases g
   ·exact dY (Oc hr he hop hs hf hg hz h) hK
   ·exact dY (Od hr he hop hs hf hg hn hz h) hK
  ·cases ho
 case h_19 t y i hop =>
  split at ho
  ·rename_i e ht;obtain⟨n,hn,ho⟩:=ba ho;obtain⟨z,hz,ho⟩:=ba ho;obtain⟨z',hz',ho⟩:=ba ho;split at ho
   ·cases ho;exact dY (Tr hr he hop ht hn hz hz' h) hK
   ·cases ho
  ·rename_i len e ht;obtain⟨n,hn,ho⟩:=ba ho;obtain⟨z,hz,ho⟩:=ba ho;obtain⟨z',hz',ho⟩:=ba ho;split at ho
   ·cases ho;exact dY (Oe hr he hop ht hn hz hz' h) hK
   ·cases ho
  ·cases ho
 case h_20 t y i hop =>
  split at ho
  ·rename_i ht;obtain⟨z,hz,ho⟩:=ba ho;obtain⟨z',hz',ho⟩:=ba ho;cases ho;exact dY (Og hr he hop ht hz hz' h) hK
  ·cases ho
 case h_21 y i hop =>
  obtain⟨z,hz,ho⟩:=ba ho;cases ho;exact dY (KL hr he hop hz h) hK
 case h_22 c hop =>
  unfold Pt at ho;split at ho
  ·rename_i f hcal;split at ho
   ·rename_i hent;obtain⟨l,hl,ho⟩:=ba ho;cases ho;obtain⟨l1,l2⟩:=tY he hl;split at h
    ·simp only[dZ] at h;obtain⟨_,hc⟩:=hC _ _ _ _ h;refine xL (by simp[execOp,hop,resolve,hcal,Act.eval,Deferred.ofValue,invoke,rM hent]) ((hc j w (c.args.map a.eval) hr hG (by simpa using l1) fun i c' u hc' hu=>?_)) hK hP
     grind
    split at h
    ·simp only[dZ] at h;obtain⟨f1,f2,f3,f4⟩:=F6 (j:=j) (w:=w) ((l.map (gQ.ev bt)).flatMap ag.ids) hr
     obtain⟨_,hc⟩:=qX (us:=c.args.map a.eval) hC f2 (hG.mono f1) h (by simpa using l1) fun i c' u hc' hu=>by
      rw[aZ,aO] at hc';obtain⟨y,hy,rfl⟩:=hc';rw[ik,aO] at hu;obtain⟨q,hq,rfl⟩:=hu;exact((l2 i y q hy (by simpa using hq)).yw hr f1 f2 f3 fun id hid=>f4 id (ic.2 ⟨_,bS.2 ⟨y,aR hy,rfl⟩,hid⟩)).gd
     refine xL (by simp[execOp,hop,resolve,hcal,Act.eval,Deferred.ofValue,invoke,rM hent]) (hc.mono ?_) hK hP
     rintro e w' (⟨v,rfl,j2,g1,g2,g3⟩|⟨u,rfl,hu,j2,g1,g2⟩)
     ·exact .inl ⟨v,rfl,j2,g1,f1.trans g2,g3⟩
     ·exact .inr ⟨u,rfl,hu,j2,g1,f1.trans g2⟩
    split at h
    ·rename_i h1 h2 h3;rw[ak h1,ak h2,az h3] at ho0;obtain⟨xs,sz,n,rfl,hrun⟩:=yl hC hop hcal (by rw[ho0]) h
     obtain⟨j1,r1,x1⟩:=AI hr 1;refine hrun (p:=M.length) r1 (hG.mono x1) (he.mono x1) (by simp) fun v w' ⟨j',q1,q2,q3⟩=>hK v w' ⟨j',?_,?_,?_⟩
     ·simpa using q1
     ·simpa using x1.trans q2
     ·simpa using q3
    simp only[dZ] at h
    obtain⟨_,hc⟩:=qX (us:=c.args.map a.eval) hC hr hG h (by simpa using l1) fun i c' u hc' hu=>by
     rw[aZ,aO] at hc';obtain⟨y,hy,rfl⟩:=hc';rw[ik,aO] at hu;obtain⟨q,hq,rfl⟩:=hu;exact(l2 i y q hy (by simpa using hq)).gd
    exact xL (by simp[execOp,hop,resolve,hcal,Act.eval,Deferred.ofValue,invoke,rM hent]) hc hK hP
   ·cases ho
  ·rename_i t hcal;obtain⟨l,hl,ho⟩:=ba ho;cases ho;obtain⟨l1,l2⟩:=tY he hl;have hsz:l.length=c.args.size:=by simpa using l1
   simp only[dZ] at h;split at h
   ·rename_i g caps hg;have hgr:=he.at' t;simp only[gQ.ev] at hg;rw[hg] at hgr;obtain⟨vs,hvs,hcl,hcv⟩:=hgr.sn;have hev:a.eval (.tmp t) = .func (.func g) #[] vs:=hvs
    obtain⟨hent,hc⟩:=qX (us:=c.args.map a.eval++vs) hC hr hG h (by simp; omega) fun i c' u hc' hu=>by
     rcases bH i l.length with hi|hi
     ·rw[bl (by simpa using hi),aZ,aO] at hc'
      obtain⟨y,hy,rfl⟩:=hc';rw[cr (by simp; omega),ik,aO] at hu
      obtain⟨q,hq,rfl⟩:=hu;exact(l2 i y q hy (by simpa using hq)).gd
     grind
    exact xL (by simp[execOp,hop,resolve,hcal,hev,Deferred.ofValue,invoke,rM hent]) hc hK hP
   ·rename_i g fs hg;have hgr:=he.at' t;simp only[gQ.ev] at hg;rw[hg] at hgr;obtain⟨vs,hvs,hcl,hcv⟩:=hgr.Gk;have hev:a.eval (.tmp t) = .func (.func g) vs #[]:=hvs
    obtain⟨hent,hc⟩:=qX (us:=vs++c.args.map a.eval) hC hr hG h (by simp; omega) fun i c' u hc' hu=>by
     rcases bH i fs.length with hi|hi
     ·rw[bl hi] at hc';rw[cr (by omega)] at hu
      exact(hcv i c' u hc' hu).rep
     ·rw[br hi,aZ,aO] at hc';obtain⟨y,hy,rfl⟩:=hc';rw[Array.getElem?_append_right (by omega),ik,aO] at hu
      obtain⟨q,hq,rfl⟩:=hu;rw[<-hcl] at hq;exact(l2 _ y q hy (by simpa using hq)).gd
    exact xL (by simp[execOp,hop,resolve,hcal,hev,Deferred.ofValue,invoke,rM hent]) hc hK hP
   ·rename_i rv hg;have hgr:=he.at' t;simp only[gQ.ev] at hg;rw[hg] at hgr;split at h
    ·rename_i g;have hev:a.eval (.tmp t) = .func (.func g) #[] #[]:=hgr.Mw
     obtain⟨hent,hc⟩:=qX (us:=c.args.map a.eval) hC hr hG h (by simpa using l1) fun i c' u hc' hu=>by
      rw[aZ,aO] at hc';obtain⟨y,hy,rfl⟩:=hc';rw[ik,aO] at hu;obtain⟨q,hq,rfl⟩:=hu;exact(l2 i y q hy (by simpa using hq)).gd
     exact xL (by simp[execOp,hop,resolve,hcal,hev,Deferred.ofValue,invoke,rM hent]) hc hK hP
    ·cases h
   ·cases h
  ·rename_i hcal;split at ho
   ·rename_i y ha ht;obtain⟨t,ht0,ht⟩:=cY.1 ht;obtain⟨z,hz,ho⟩:=ba ho;cases ho;exact dY (WV hr he hop hcal ha ht0 ht hz h) hK
   ·rename_i y e ha ht;obtain⟨t,ht0,ht⟩:=cY.1 ht;obtain⟨z,hz,ho⟩:=ba ho;cases ho;exact dY (WW hr he hop hcal ha ht0 ht hz h) hK
   ·rename_i y k e ha ht;obtain⟨t,ht0,ht⟩:=cY.1 ht;obtain⟨z,hz,ho⟩:=ba ho;cases ho;exact dY (WU hr he hop hcal ha ht0 ht hz h) hK
   ·cases ho
  ·rename_i hcal;split at ho
   ·rename_i y y' t t' ha hat;split at ho
    ·rename_i e e' ht ht';obtain⟨n,hn,ho⟩:=ba ho;obtain⟨z,hz,ho⟩:=ba ho;obtain⟨z',hz',ho⟩:=ba ho;split at ho
     ·rename_i hpos;cases ho;exact dY (Tl hr he hop hcal ha hat ht ht' hn hpos hz hz' h) hK
     ·cases ho
    ·cases ho
   ·cases ho
  ·rename_i hcal;split at ho
   ·rename_i y y' t t' ha hat;split at ho
    ·rename_i e kn ht ht';obtain⟨i,hi,ho⟩:=ba ho;obtain⟨zv,hzv,ho⟩:=ba ho;obtain⟨l,hl,ho⟩:=ba ho;obtain⟨z,hz,ho⟩:=ba ho;obtain⟨z',hz',ho⟩:=ba ho;split at ho
     ·rename_i hc;obtain⟨d1,d2,d3,d4⟩:=hc;injection ho with hoo
      subst hoo;exact dY (KK hr he hop hcal ha hat ht ht' hi hzv hl d1 d2 d3 d4 hz hz' h) hK
     ·cases ho
    ·rename_i e e' ht ht';obtain⟨i,hi,ho⟩:=ba ho;obtain⟨z,hz,ho⟩:=ba ho;obtain⟨z',hz',ho⟩:=ba ho;split at ho
     ·rename_i hc;cases ho;simp only[bn,bu] at hc;obtain⟨⟨⟨c1,c2⟩,c3⟩,c4⟩:=hc;obtain⟨zv,hzv,hzs⟩:=aO.1 c1;have hat':c.argTypes = #[t,t']:=by rw[<-hat]
      split at h
      ·split at h
       ·exact dY (KI hr he hop hcal ha hat' ht ht' hi hzv hzs c2 c3 c4 hz hz' h) hK
       ·exact dY (ET hr he hop hcal ha hat' ht ht' hi hzv hzs c2 c3 c4 hz hz' h) hK
      ·exact dY (ET hr he hop hcal ha hat' ht ht' hi hzv hzs c2 c3 c4 hz hz' h) hK
     ·cases ho
    ·cases ho
   ·cases ho
  ·rename_i hcal;split at ho
   ·rename_i y t ha hat;split at ho
    ·rename_i e ht;obtain⟨i,hi,ho⟩:=ba ho;obtain⟨zv,hzv,ho⟩:=ba ho;obtain⟨l,hl,ho⟩:=ba ho;obtain⟨z,hz,ho⟩:=ba ho;split at ho
     ·rename_i hc;cases ho;exact dY (Ob hr he hop hcal ha hat ht hi hzv hl hc.1 hz h) hK
     ·cases ho
    ·cases ho
   ·cases ho
  ·rename_i hcal;split at ho
   ·rename_i y y' ha;obtain⟨z,hz,ho⟩:=ba ho;obtain⟨z',hz',ho⟩:=ba ho;cases ho;exact dY (EU (mx:=true) hr he hop hcal ha hz hz' h) hK
   ·cases ho
  ·rename_i hcal;split at ho
   ·rename_i y y' ha;obtain⟨z,hz,ho⟩:=ba ho;obtain⟨z',hz',ho⟩:=ba ho;cases ho;exact dY (EU (mx:=false) hr he hop hcal ha hz hz' h) hK
   ·cases ho
  ·cases ho
 case h_23 t hop =>
  cases ho;exact dY (Tw hr hop h) hK
 case h_24 t m k ok hop =>
  split at ho
  ·rename_i kt et ht;obtain⟨fk,hfk,ho⟩:=ba ho;obtain⟨ie,hi,ho⟩:=ba ho;obtain⟨zv,hzv,ho⟩:=ba ho;obtain⟨z,hz,ho⟩:=ba ho;obtain⟨m',hm,ho⟩:=ba ho;obtain⟨k',hk,ho⟩:=ba ho;cases ho;exact dY (WX hr he hop ht hfk hi hzv hz hm hk h) hK
  ·cases ho
 case h_25 t m k y hop =>
  split at ho
  ·rename_i kt et ht;obtain⟨fk,hfk,ho⟩:=ba ho;obtain⟨m',hm,ho⟩:=ba ho;obtain⟨k',hk,ho⟩:=ba ho;obtain⟨y',hy,ho⟩:=ba ho;cases ho;exact dY (TB hr he (.inl hop) ht hfk hm hk (cH he hy) h) hK
  ·cases ho
 case h_26 t y hop =>
  split at ho
  ·rename_i ht;obtain⟨z,hz,ho⟩:=ba ho;cases ho;exact dY (W0 hr he hop ht hz h) hK
  ·cases ho
 case h_27 y hop =>
  obtain⟨z,hz,ho⟩:=ba ho;cases ho;exact dY (Ty hr he hop hz h) hK
 case h_28 t y hop =>
  obtain⟨z,hz,ho⟩:=ba ho;split at ho
  ·cases ho
  ·rename_i d hd hu;cases ho;exact dY (Ts hr he hop hu (fun _=>hd _) hz h) hK
  ·cases ho
 case h_29 y hop =>
  obtain⟨z,hz,ho⟩:=ba ho;cases ho;obtain⟨u,h1,h2⟩:=Tz (P:=P) hr he hop hz h;exact .inr (.inr ⟨u,h1,hP u w h2⟩)
 case h_30 t m k y hop =>
  split at ho
  ·rename_i kt et ht;obtain⟨fk,hfk,ho⟩:=ba ho;obtain⟨m',hm,ho⟩:=ba ho;obtain⟨k',hk,ho⟩:=ba ho;obtain⟨y',hy,ho⟩:=ba ho;cases ho;exact dY (TB hr he (.inr hop) ht hfk hm hk (TD he hy) h) hK
  ·cases ho
 case h_31 t y y' hop =>
  split at ho
  ·rename_i e ht;obtain⟨i,hi,ho⟩:=ba ho;obtain⟨zv,hzv,ho⟩:=ba ho;obtain⟨l,hl,ho⟩:=ba ho;obtain⟨z,hz,ho⟩:=ba ho;split at ho
   ·rename_i hc;obtain⟨hyy,c1,c2,c3⟩:=hc;injection ho with hoo
    subst hoo;have hyy:=Xq hyy;subst hyy;split at h
    ·split at h
     ·exact dY (WY hr he hop ht hi hzv hl hz c1 c2 c3 h) hK
     ·exact dY (Tx hr he hop ht hi hzv hl hz c1 c2 c3 h) hK
    ·exact dY (Tx hr he hop ht hi hzv hl hz c1 c2 c3 h) hK
   ·cases ho
  ·cases ho
 case h_32=>cases ho
end
section
variable {P:Program} {C:eO} {A:B5}
def wZ(a:Act)(d:Option Nat)(v:Value):(a.put d v).tmps.size=a.tmps.size:=by cases d<;>simp[Act.put]
theorem put_defers(a:Act)(d:Option Nat)(v:Value):(a.put d v).defers=a.defers:=by cases d<;>rfl
theorem zX{ops:Array Oper}{g:Bool}{o:Oper}{x:cQ}(h:Lq P A ops g o=some x):M5 P A.own o=some x.op/\x.dst=o.dst/\x.grow=g/\(∀d,o.dst=some d->d<A.n) /\
  ((o.guard=none/\x.guard=none)\/∃k want t,o.guard=some (k,want)/\x.guard=some (t,want)/\(ops[k]?).bind (·.dst)=some t/\t<A.n):=by
 obtain⟨op,hop,h⟩:=ba h;split at h
 ·rename_i hd;have hd':∀d,o.dst=some d->d<A.n:=fun d e=>by grind [XN]
  split at h
  ·grind
  ·obtain⟨t,ht,h⟩:=ba h
   grind
 grind
def yO{ops:Array Oper}{o:Oper}{x:cQ}{bt:Env}{M:aL}{j:J}{w:World}{a:Act}(he:cy j M w bt a)(hs:a.tmps.size=A.n)
  (hg:(o.guard=none/\x.guard=none)\/∃k want t,o.guard=some (k,want)/\x.guard=some (t,want)/\(ops[k]?).bind (·.dst)=some t/\t<A.n)
  (h:∀t want,x.guard=some (t,want)->ir bt t = .bool want):Region.wanted o (yielded ops a.tmps)=true:=by
 unfold Region.wanted;rcases hg with ⟨h1,_⟩|⟨k,want,t,h1,h2,h3,h4⟩
 ·rw[h1]
 ·have hv:=he.at' t;rw[h t _ h2] at hv;have hv:=hv.jb;simp_all [yielded]
theorem Fp{ops:Array Oper}{o:Oper}{x:cQ}{bt:Env}{M:aL}{j:J}{w:World}{a:Act}(he:cy j M w bt a)(hs:a.tmps.size=A.n)
  (hg:(o.guard=none/\x.guard=none)\/∃k want t,o.guard=some (k,want)/\x.guard=some (t,want)/\(ops[k]?).bind (·.dst)=some t/\t<A.n)
  {t:Nat} {want:Bool} (hx:x.guard=some (t,want)) (h:ir bt t = .bool (!want)\/ir bt t = .tuple []):Region.wanted o (yielded ops a.tmps)=false:=by
 unfold Region.wanted;rcases hg with ⟨_,h1⟩|⟨k,want',t',h1,h2,h3,h4⟩
 ·grind
 ·rw[h2] at hx;injection hx with hx
  injection hx with e1 e2
  subst e1; subst e2;rw[h1];have hv:=he.at' t';have hget:a.tmps[t']?=some (a.tmps.getD t' undef):=by simp_all
  rcases h with h|h
  ·rw[h] at hv;rw[hv.jb] at hget;cases want'<;>simp[yielded,h3,hget]
  ·rw[h] at hv;obtain⟨vs,hvs,hl,_⟩:=hv.tx
   grind [yielded]
def DW{x:cQ}{bt:Env}{M:aL}{y:ag×aL}(h:pP C x bt M=some y):dZ C bt M x.op=some y:=by
 rcases rF h with ⟨_,_,h⟩|⟨_,_,h⟩|⟨_,_,_,h⟩<;>exact h
def rN:Xy->Exit
 | .normal => .normal
 | .exit i => .exit i
 | .ret => .ret
 | .oC v => .panic [{ v,recovered:=false }]
def fY.KE{j:J}{M:aL}{w:World}{u v:Value}(h:fY j M w (.oC u) v):False:=by
 cases h with
 |plain h=>cases h
def cy.nil{j j':J}{M M':aL}{w w':World}{bt:Env}{a:Act}(h:cy j M w bt a)(hx:Ext j M w j' M' w'):cy j' M' w' [] a:=⟨fun _ => .any _,h.gl.mono hx⟩
theorem xC(hC:pj P C){r:Option Nat}{n:Nat}{ops:Array Oper}{Q:Exit->Act->World->Prop}:∀ {grow:List Bool} (l:List Oper) (k:Nat),ops.toList.drop k=l->∀ {al:List cQ},tF P A ops grow l=some al ->
  ∀ {bt:Env} {M:aL} {x:Out},gU C al bt M=some x->∀ {j:J} {w:World} {a:Act},Rel j M w->sE j M w->cy j M w bt a->a.tmps.size=A.n ->
  (∀a' w' j',Rel j' x.mem w'->cy j' x.mem w' x.bt a'->Ext j M w j' x.mem w'->a'.tmps.size=A.n->a'.defers=a.defers->Q (rN x.e) a' w')->wpOpsIn (Wd r) n P ops Q (List.range' k l.length) a w
 |grow,[],k,hk,al,hal,bt,M,x,hx,j,w,a,hr,hG,he,hs,hQ=>by
  simp only[tF] at hal; cases hal;simp only[gU] at hx; cases hx;exact hQ a w j hr he (Ext.refl j M w) hs rfl
 |grow,o::rs,k,hk,al,hal,bt,M,x,hx,j,w,a,hr,hG,he,hs,hQ=>by
  simp only[tF] at hal;obtain⟨xo,hxo,hal⟩:=ba hal;obtain⟨xr,hxr,hal⟩:=ba hal;cases hal;obtain⟨h1,h2,h3,h4,h5⟩:=zX hxo
  have hko:ops[k]?=some o:=by
   have:(ops.toList.drop k)[0]?=some o:=by rw[hk]; rfl
   rw[cI] at this
   grind
  have hkr:ops.toList.drop (k+1)=rs:=by
   rw[<-List.drop_drop,hk]; rfl
  simp only[av,List.range'_succ,wpOpsIn,hko];rcases pF hx with ⟨y,g1,g2,⟨hnp,g3⟩|⟨u0,_,g3,rfl⟩⟩|⟨t,want,g1,g2,g3⟩
  ·rw[az (yO he hs h5 g1)];refine tD.wpIn (KP:=fun _ _=>False) (zn h1) (Df hC h1 (DW g2) hr hG he ?_ ?_) fun u w' h=>h.elim
   ·rintro v w' ⟨j',q1,q2,q3⟩;refine xC hC rs (k+1) hkr hxr (x:=x) (by rw[<-h2]; omega) q1 (hG.mono q2) ((he.mono q2).put hs h4 (by omega)) (by rw[wZ]; omega) fun a' w'' j'' p1 p2 p3 p4 p5=>?_
    exact hQ a' w'' j'' p1 p2 (q2.trans p3) p4 (p5.trans (put_defers _ _ _))
   ·rintro u w' ⟨hu,_⟩;rw[hu] at hnp; cases hnp
  ·rw[az (yO he hs h5 g1)];refine tD.wpIn (KP:=fun u w'=>u=u0/\∃j',Rel j' y.2 w'/\Ext j M w j' y.2 w') (zn h1) (Df hC h1 (DW g2) hr hG he ?_ ?_) ?_
   ·rintro v w' ⟨j',q1,q2,q3⟩;rw[g3] at q3;exact q3.KE.elim
   ·rintro u w' ⟨hu,h⟩;rw[g3] at hu; grind
   ·rintro u w' ⟨rfl,j',q1,q2⟩;exact hQ a w' j' q1 (he.nil q2) q2 hs rfl
  ·rw[ak (by rw[Fp he hs h5 g1 g2]; simp)]
   refine⟨fun _ _=>trivial,?_⟩
   refine xC hC rs (k+1) hkr hxr (x:=x) (by rw[<-h2]; omega) hr hG (he.put hs h4 (.tuple (vs := #[]) rfl fun i c v h=>by simp)) (by rw[wZ]; omega) fun a' w'' j'' p1 p2 p3 p4 p5=>?_
   grind [put_defers]
theorem yC{acc:List Nat}{i:Nat}:∀ {es:List Edge},(wR acc es).testBit i=true->∃e,e∈es/\Region.binds .any e=true/\(e.on=i\/((nth acc e.on).getD 0).testBit i=true)
 | [],h=>by grind [wR]
 |e::r,h=>by
  rw[wR] at h;split at h
  ·rw[Nat.testBit_or,Nat.testBit_or,cN,cN] at h;rcases h with h|h|h
   ·obtain⟨e',h1,h2,h3⟩:=yC h
    grind
   ·grind
   grind
  ·obtain⟨e',h1,h2,h3⟩:=yC h
   grind
theorem Cl:∀(l:List Oper)(acc:List Nat),acc <+: Ck l acc/\∀(m:Nat)(o:Oper),l[m]?=some o->(Ck l acc)[acc.length+m]?=some (wR ((Ck l acc).take (acc.length+m)) o.after.toList)
 | [],acc=>⟨ig _,fun m o h=>by grind⟩
 |p::r,acc=>by
  rw[Ck];obtain⟨h1,h2⟩:=Cl r (acc++[wR acc p.after.toList]);have h3  := (j4 _ _).trans h1;refine⟨h3,fun m o hm=>?_⟩
  cases m with
  |zero =>
   simp at hm; obtain⟨t,ht⟩:=h1
   grind
  |succ m =>
   grind
def Cc{ops:List Oper}{i k:Nat}{o:Oper}(hk:ops[k]?=some o)(cu:∀e,e∈o.after.toList->Region.binds .any e=true->e.on<k)(h:ahead (qQ ops) i k=true) :
  ∃e,e∈o.after.toList/\Region.binds .any e=true/\e.on<k/\(e.on=i\/ahead (qQ ops) i e.on=true):=by
 have h1:=(Cl _ []).2 k o hk;simp at h1;unfold ahead at h;rw[eN,show qQ _=Ck _ _ from rfl,h1] at h
 obtain⟨e,h2,h3,h4⟩:=yC h;have h5:=cu e h2 h3;refine⟨e,h2,h3,h5,h4.imp id fun h=>?_⟩
 rw[eN,bF h5] at h;unfold ahead;rw[eN];exact h
def Down(ops:Array Oper)(L:Nat->Bool):Prop:=∀(k:Nat)(o:Oper)(e:Edge),ops[k]?=some o->L k=true->e∈o.after.toList->Region.binds .any e=true->L e.on=true
theorem Cd{ops:Array Oper}{L:Nat->Bool}(hd:Down ops L)(cu:∀(k:Nat)(o:Oper)(e:Edge),ops[k]?=some o->e∈o.after.toList->Region.binds .any e=true->e.on<k) :
  ∀(k:Nat){i:Nat},ahead (qQ ops.toList) i k=true->k<ops.size->L k=true->L i=true:=by
 intro k;induction k using Nat.strongRecOn with
 |_ k ih =>
  intro i h hk hL;have ho  := bb hk;obtain⟨e,h1,h2,h3,h4⟩:=Cc (by simp) (fun e h1 h2=>cu k _ e ho h1 h2) h
  have h5:=hd k _ e ho hL h1 h2
  grind
theorem G3{ops:Array Oper}{L:Nat->Bool}(hd:Down ops L)(cu:∀(k:Nat)(o:Oper)(e:Edge),ops[k]?=some o->e∈o.after.toList->Region.binds .any e=true->e.on<k)
  {k i:Nat} {o:Oper} (ho:ops[k]?=some o) (hr:∀e,e∈o.after.toList->Region.binds .any e=true->L e.on=true) (h:ahead (qQ ops.toList) i k=true):L i=true:=by
 obtain⟨e,h1,h2,h3,h4⟩:=Cc (by grind) (fun e h1 h2=>cu k _ e ho h1 h2) h
 have h5:=hr e h1 h2;rcases h4 with rfl|h4
 ·omega
 grind [Cd]
theorem cG{bt env':Env}{x:gQ}(h:∀t,t∈x.k9->ir bt t=ir env' t):x.ev bt=x.ev env':=by
 cases x with
 |tmp t=>exact h t (by simp[gQ.k9])
 |ll v=>rfl
theorem oM{bt env':Env}:∀ {l:List gQ},(∀t,t∈l.flatMap gQ.k9->ir bt t=ir env' t)->∀x,x∈l->x.ev bt=x.ev env':=by grind [cG]
def sj{bt env':Env}{n:Nat}{x:Option gQ}(h:∀t,t∈AB x->ir bt t=ir env' t):jf bt n x=jf env' n x:=by
 cases x with
 |none=>rfl
 |some x=>unfold jf; simp only; rw[cG h]
theorem CF{bt env':Env}:∀ {ps:List (Nat×Nat×gQ)} {cs:List ag},(∀p,p∈ps->p.2.2.ev bt=p.2.2.ev env')->lu bt cs ps=lu env' cs ps
 | [],cs,_=>rfl
 |(off,n,x)::r,cs,h=>by
  unfold lu;rw[h (off,n,x) (by simp)]
  congr 1;funext new;split
  ·exact CF fun p hp=>h p (by grind)
  rfl
theorem yB{bt env':Env}{sz:Nat}:∀ {ps:List gQ},(∀p,p∈ps->p.ev bt=p.ev env')->sL bt sz ps=sL env' sz ps
 | [],_=>rfl
 |x::r,h=>by
  unfold sL;rw[h x (by simp),yB fun p hp=>h p (by grind)]
theorem DU{bt env':Env}{M:aL}{op:kI}(h:∀t,t∈op.k9->ir bt t=ir env' t):dZ C bt M op=dZ C env' M op/\op.dW bt=op.dW env':=by
 cases op<;>simp only[kI.k9,bT] at h
 case mv x=>simp[dZ,kI.dW,cG h]
 case own n x=>simp[dZ,kI.dW,cG h]
 case pick c x y=>grind [dZ,kI.dW,cG]
 case sU cs=>simp[dZ,kI.dW]
 case box x=>simp[dZ,kI.dW,cG h]
 case DZ f l =>
  have:(l.map fun x=>(x.ev bt).gd)=l.map fun x=>(x.ev env').gd:=bX fun x hx=>by rw[oM h x hx]
  simp only[dZ,kI.dW,this,kD]
 case build z ps=>grind [dZ,kI.dW,CF,cG]
 case lits n ps=>simp[dZ,kI.dW,yB (ps:=ps) (oM h)]
 case EB n ps=>simp[dZ,kI.dW,yB (ps:=ps) (oM h)]
 case nD n x=>simp[dZ,kI.dW,cG h]
 case jv x=>simp[dZ,kI.dW,cG h]
 case store n x y=>simp[dZ,kI.dW,cG (x:=x) fun t ht=>h t (.inl ht),cG (x:=y) fun t ht=>h t (.inr ht)]
 case AU sz p n x y=>simp[dZ,kI.dW,cG (x:=x) fun t ht=>h t (.inl ht),cG (x:=y) fun t ht=>h t (.inr ht)]
 case chk x=>simp[dZ,kI.dW,cG h]
 case bin b x y=>grind [dZ,kI.dW,cG]
 case XO ks n x y=>grind [dZ,kI.dW,cG]
 case eqB n x y=>simp[dZ,kI.dW,cG (x:=x) fun t ht=>h t (.inl ht),cG (x:=y) fun t ht=>h t (.inr ht)]
 case not x=>simp[dZ,kI.dW,cG h]
 case neg x=>simp[dZ,kI.dW,cG h]
 case conv k x=>simp[dZ,kI.dW,cG h]
 case same x=>simp[dZ,kI.dW,cG h]
 case fn f l=>simp only[dZ,kI.dW,bX (oM h),kD]
 case AO x lo hi =>
  simp only[dZ,kI.dW,cG (x:=x) fun t ht=>h t (.inl ht),sj (bt:=bt) (env':=env') (x:=lo) fun t ht=>h t (.inr (.inl ht)),and_true]
  split
  ·rw[sj (x:=hi) fun t ht=>h t (.inr (.inr ht))]
  ·rfl
 case AP n x lo hi mx =>
  simp only[dZ,kI.dW,cG (x:=x) fun t ht=>h t (.inl ht),sj (bt:=bt) (env':=env') (x:=lo) fun t ht=>h t (.inr (.inl ht)),and_true]
  split
  ·rw[sj (x:=hi) fun t ht=>h t (.inr (.inr (.inl ht)))]
   cases mx with
   |none=>rfl
   |some m=>simp only[cG (x:=m) fun t ht=>h t (.inr (.inr (.inr ht)))]
  ·rw[sj (x:=hi) fun t ht=>h t (.inr (.inr (.inl ht)))]
   cases mx with
   |none=>rfl
   |some m=>simp only[cG (x:=m) fun t ht=>h t (.inr (.inr (.inr ht)))]
  ·rfl
 case kG n x=>simp[dZ,kI.dW,cG h]
 case CE p n x=>simp[dZ,kI.dW,cG h]
 case CD p x=>simp[dZ,kI.dW,cG h]
 case vU n x y=>simp[dZ,kI.dW,cG (x:=x) fun t ht=>h t (.inl ht),cG (x:=y) fun t ht=>h t (.inr ht)]
 case Aj m n x y=>simp[dZ,kI.dW,cG (x:=x) fun t ht=>h t (.inl ht),cG (x:=y) fun t ht=>h t (.inr ht)]
 case Al x y=>grind [dZ,kI.dW,cG]
 case extract x i=>simp[dZ,kI.dW,cG h]
 case call f l =>
  have:(l.map fun x=>(x.ev bt).gd)=l.map fun x=>(x.ev env').gd:=bX fun x hx=>by rw[oM h x hx]
  simp only[dZ,kI.dW,this,kD]
 case vR f l =>
  have:(l.map fun x=>(x.ev bt).gd)=l.map fun x=>(x.ev env').gd:=bX fun x hx=>by rw[oM (fun t ht=>h t (.inr ht)) x hx]
  simp only[dZ,kI.dW,this,cG (x:=f) fun t ht=>h t (.inl ht),kD]
 case A9 f l=>simp only[dZ,kI.dW,bX (oM h),kD]
 case vQ f l =>
  have:(l.map fun x=>(x.ev bt).gd)=l.map fun x=>(x.ev env').gd:=bX fun x hx=>by rw[oM h x hx]
  simp only[dZ,kI.dW,this,kD]
 case z6 n z x=>simp[dZ,kI.dW,cG h]
 case lP f l =>
  have h1:(l.map fun x=>((x.ev bt).yw M).gd)=l.map fun x=>((x.ev env').yw M).gd:=bX fun x hx=>by rw[oM h x hx]
  have h2:l.map (gQ.ev bt)=l.map (gQ.ev env'):=bX (oM h);simp only[dZ,kI.dW,h1,h2,kD]
 case SH x=>simp[dZ,kI.dW,cG h]
 case Ap x=>simp[dZ,kI.dW,cG h]
 case append n b x y=>simp[dZ,kI.dW,cG (x:=x) fun t ht=>h t (.inl ht),cG (x:=y) fun t ht=>h t (.inr ht)]
 case vt n b x y=>simp[dZ,kI.dW,cG (x:=x) fun t ht=>h t (.inl ht),cG (x:=y) fun t ht=>h t (.inr ht)]
 case b2s x=>simp[dZ,kI.dW,cG h]
 case mkMap=>simp[dZ,kI.dW]
 case look fk z ok x y=>grind [dZ,kI.dW,cG]
 case gy fk c x y=>grind [dZ,kI.dW,cG]
 case N0 x=>simp[dZ,kI.dW,cG h]
 case Ox x=>simp[dZ,kI.dW,cG h]
 case ES x=>simp[dZ,kI.dW,cG h]
 case Ay m x y=>simp[dZ,kI.dW,cG (x:=x) fun t ht=>h t (.inl ht),cG (x:=y) fun t ht=>h t (.inr ht)]
 case xg a b c x y=>grind [dZ,kI.dW,cG]
 case D5 a x y=>simp[dZ,kI.dW,cG (x:=x) fun t ht=>h t (.inl ht),cG (x:=y) fun t ht=>h t (.inr ht)]
 case MZ a=>simp[dZ,kI.dW]
 case mkS z x=>simp[dZ,kI.dW,cG h]
 case N6 z x=>simp[dZ,kI.dW,cG h]
 case iface t x=>simp[dZ,kI.dW,cG h]
 case raise x=>simp[dZ,kI.dW,cG h]
theorem y8{f:Nat}{vs:List ag}{M:aL}{x:ag×aL}(h:aM C f vs M=some x)(hn:vs.flatMap ag.ids=[]):x.2=M/\∀M2,aM C f vs M2=some (x.1,M2):=by
 have hre:∀M,reach M []=[]:=fun M=>rfl
 unfold aM at h;rw[hn,hre] at h;split at h
 ·rename_i hf;obtain⟨B,hB,h⟩:=bo h;simp only[kh] at hB;cases hB;split at h
  ·obtain⟨y,hy,h⟩:=bo h;split at h
   ·rename_i hc;cases h;have hy2:y.2=[]:=cp hc.1;refine⟨by simp[mF],fun M2=>?_⟩
    unfold aM;rw[hn,hre,az hf];simp only[kh,cd];rw[az (show lX M2 []=[] from rfl),hy,cd,az hc,hy2]
    simp[mF]
   ·cases h
  ·cases h
 ·cases h
theorem G5{op:kI}(hc:op.wM=true){bt:Env}{M:aL}{x:ag×aL}(h:dZ C bt M op=some x)(hn:op.dW bt=[]):x.2=M/\∀M2,dZ C bt M2 op=some (x.1,M2):=by
 cases op<;>simp only[kI.wM,af] at hc
 case call f l =>
  grind [dZ,kI.dW,y8]
 case vR f l =>
  simp only[dZ,kI.dW] at h hn ⊢;split at h<;>grind [y8]
theorem Ms{op:kI}(he:op.OX=false)(hl:op.OY=false){bt:Env}{M:aL}{x:ag×aL}(h:dZ C bt M op=some x):x.2=M/\∀M2,dZ C bt M2 op=some (x.1,M2):=by
 cases op<;>simp only[kI.OX,kI.OY,reduceCtorEq] at he hl<;>simp only[dZ] at h ⊢
 case AO y lo hi =>
  split at h
  ·rename_i s e;obtain⟨hh,h1,h⟩:=bo h;obtain⟨l,h2,h⟩:=bo h;obtain⟨hp,h⟩:=di h;cases h;simp_all
  ·cases h
 case AP n y lo hi mx =>
  split at h
  ·rename_i tk xs e;obtain⟨hw,h⟩:=di h;obtain⟨hh,h1,h⟩:=bo h;obtain⟨l,h2,h⟩:=bo h;split at h
   ·obtain⟨hp,h⟩:=di h;cases h;simp_all
   ·split at h
    ·rename_i k m em;obtain⟨hp,h⟩:=di h;rcases kQ h with ⟨hb,h⟩|⟨hb,h⟩<;>(cases h)
     ·simp_all
     ·exact⟨rfl,fun M2=>by rw[gb hw]; simp only[h1,h2,cd,hb,nF]; exact gb hp⟩
    ·cases h
  ·rename_i id v0 sz' al ah e;obtain⟨hw,h⟩:=di h;obtain⟨hh,h1,h⟩:=bo h;obtain⟨l,h2,h⟩:=bo h;split at h
   ·obtain⟨hp,h⟩:=di h;rcases kQ h with ⟨hb,h⟩|⟨hb,h⟩<;>(cases h)
    ·simp_all
    ·exact⟨rfl,fun M2=>by rw[gb hw]; simp only[h1,h2,cd,hb,nF]; exact gb hp⟩
   ·split at h
    ·rename_i k m em;obtain⟨hp,h⟩:=di h;rcases kQ h with ⟨hb,h⟩|⟨hb,h⟩
     ·cases h;simp_all
     ·rcases kQ h with ⟨hb2,h⟩|⟨hb2,h⟩<;>(cases h)
      ·exact⟨rfl,fun M2=>by rw[gb hw]; grind [cd,va,nF,gb]⟩
      ·exact⟨rfl,fun M2=>by rw[gb hw]; grind [cd,nF,gb]⟩
    ·cases h
  ·cases h
 case vU n y i =>
  split at h
  ·obtain⟨hp,h⟩:=di h;obtain⟨e,h1,h⟩:=bo h;split at h
   ·rename_i hw;cases h;simp_all
   ·cases h
  ·obtain⟨hp,h⟩:=di h;cases h;exact⟨rfl,fun M2=>by rw[gb hp]⟩
  ·cases h
 case Aj m n y i =>
  split at h
  ·obtain⟨hp,h⟩:=di h;cases h;exact⟨rfl,fun M2=>by rw[gb hp]⟩
  ·obtain⟨hp,h⟩:=di h;cases h;exact⟨rfl,fun M2=>by rw[gb hp]⟩
  ·cases h
 case DZ f l =>
  grind
 case Al y i =>
  split at h
  ·obtain⟨hp,h⟩:=di h;obtain⟨e,h1,h⟩:=bo h;cases h;exact⟨rfl,fun M2=>by rw[gb hp,h1,cd]⟩
  ·cases h
 case pick c y z =>
  split at h
  ·rcases kQ h with ⟨rfl,h⟩|⟨rfl,h⟩<;>(cases h; exact⟨rfl,fun _=>rfl⟩)
  ·cases h
 case lits n ps =>
  obtain⟨l,h1,h⟩:=bo h;cases h;exact⟨rfl,fun M2=>by rw[h1,cd]⟩
 case iface t y =>
  split at h
  ·cases h;exact⟨rfl,fun M2=>rfl⟩
  ·obtain⟨v,hv,h⟩:=bo h;cases h;exact⟨rfl,fun M2=>by rw[hv]; rfl⟩
 case mkS z y =>
  split at h
  ·obtain⟨hp,h⟩:=di h;cases h;exact⟨rfl,fun M2=>gb hp⟩
  ·cases h
 case raise y =>
  grind
 all_goals first
  |(cases h; exact⟨rfl,fun _=>rfl⟩)
  |(obtain⟨_,ha,h⟩:=bo h; cases h; exact⟨rfl,fun _=>by rw[ha]; rfl⟩)
  |(split at h<;>first
    |(cases h; exact⟨rfl,fun _=>rfl⟩)
    |(obtain⟨_,ha,h⟩:=bo h; cases h; exact⟨rfl,fun _=>by rw[ha]; rfl⟩)
    |cases h
    |grind)
theorem IH{M M2:aL}{id:Nat}{b:cD}(hp:M <+: M2\/M2 <+: M)(hid:id<M2.length)(hb:nth M id=some b):nth M2 id=some b:=by
 rw[eN] at hb ⊢;rcases hp with ⟨t,rfl⟩|⟨t,rfl⟩
 ·rw[bl (aF hb)]; omega
 grind
theorem Ih{op:kI}(hl:op.OY=true){bt:Env}{M:aL}{x:ag×aL}(h:dZ C bt M op=some x):x.2=M /\
  ∀ {M2:aL} (z:gQ),(∀id b,id∈(z.ev bt).ia->id<M2.length->nth M id=some b->nth M2 id=some b)->∀ {j:J} {w:World} {v:Value},(op = .jv z\/(∃n,op = .nD n z)\/∃fk zr ok k,op = .look fk zr ok z k)->fY j M2 w (z.ev bt) v->dZ C bt M2 op=some (x.1,M2):=by
 cases op<;>simp only[kI.OY,af] at hl
 case nD n y =>
  simp only[dZ] at h ⊢;split at h
  ·rename_i id off e;split at h
   ·rename_i cs hM;split at h
    ·rename_i hle;cases h;refine⟨rfl,fun {M2} z hp {j w v} hz hr=>?_⟩
     have:z=y:=by rcases hz with hz|⟨n',hz⟩|⟨_,_,_,_,hz⟩<;>cases hz<;>rfl
     subst this;rw[e] at hr;obtain⟨b,hid,_⟩:=hr.pK;rw[hp _ _ (by rw[e]; simp[ag.ia]) hid hM]
     simp only;rw[az hle]
    ·cases h
   ·cases h
  ·grind
  ·rename_i id ver i off e;split at h
   ·rename_i sz v0 xs hM;split at h
    ·rename_i hv0;obtain⟨el,hel,h⟩:=bo h;split at h
     ·rename_i hle;cases h;refine⟨rfl,fun {M2} z hp {j w v} hz hr=>?_⟩
      have:z=y:=by rcases hz with hz|⟨n',hz⟩|⟨_,_,_,_,hz⟩<;>cases hz<;>rfl
      subst this;rw[e] at hr;obtain⟨_,hid,_⟩:=hr.sm;rw[hp _ _ (by rw[e]; simp[ag.ia]) hid hM]
      simp only[hel,cd];rw[az hv0,az hle]
     ·cases h
    ·cases h
   ·cases h
  ·cases h
 case jv y =>
  simp only[dZ] at h ⊢;split at h
  ·rename_i id off e;split at h
   ·rename_i cs hM;obtain⟨c,hc,h⟩:=bo h;cases h;refine⟨rfl,fun {M2} z hp {j w v} hz hr=>?_⟩
    have:z=y:=by rcases hz with hz|⟨n',hz⟩|⟨_,_,_,_,hz⟩<;>cases hz<;>rfl
    subst this;rw[e] at hr;obtain⟨b,hid,_⟩:=hr.pK;rw[hp _ _ (by rw[e]; simp[ag.ia]) hid hM]
    simp only[hc,cd]
   ·cases h
  ·obtain⟨c,hc,h⟩:=bo h;cases h;exact⟨rfl,fun {M2} hp {j w v} z hz hr=>by simp only[hc,cd]⟩
  ·rename_i id ver i off e;split at h
   ·rename_i sz v0 xs hM;split at h
    ·rename_i hv0;obtain⟨el,hel,h⟩:=bo h;obtain⟨c,hc,h⟩:=bo h;cases h;refine⟨rfl,fun {M2} z hp {j w v} hz hr=>?_⟩
     have:z=y:=by rcases hz with hz|⟨n',hz⟩|⟨_,_,_,_,hz⟩<;>cases hz<;>rfl
     subst this;rw[e] at hr;obtain⟨_,hid,_⟩:=hr.sm;rw[hp _ _ (by rw[e]; simp[ag.ia]) hid hM]
     simp only[hel,hc,cd];rw[az hv0]
    ·cases h
   ·cases h
  ·cases h
 case look fk zr ok y k =>
  simp only[dZ] at h ⊢;obtain⟨e,he,h⟩:=bo h;obtain⟨r,hr',h⟩:=bo h;cases h;refine⟨rfl,fun {M2} z hp {j w v} hz hr=>?_⟩
  have:z=y:=by rcases hz with hz|⟨n',hz⟩|⟨_,_,_,_,hz⟩<;>cases hz<;>rfl
  subst this
  have:mapOf M2 (z.ev bt)=some e:=by
   unfold mapOf at he ⊢;split at he
   ·rename_i id e0;rw[e0] at hr;obtain⟨b,⟨ks,vs,hm⟩,_⟩:=hr.u9;split at he
    ·rename_i ks' vs' hM;rw[hp _ _ (by rw[e0]; simp[ag.ia]) (aF hm) hM]
     exact he
    ·cases he
   ·exact he
   ·cases he
  rw[this,cd,hr',cd]
end
section
variable {P:Program} {C:eO} {A:B5}
def Ju(C:eO)(o:cQ)(bt:Env)(M:aL)(v:ag)(M':aL):Prop :=
 ((∀t want,o.guard=some (t,want)->ir bt t = .bool want)/\pP C o bt M=some (v,M')) \/
 (∃t want,o.guard=some (t,want)/\(ir bt t = .bool (!want)\/ir bt t = .tuple [])/\v = .tuple []/\M'=M)
def oI(bt:Env)(l:List cQ)(vals:Nat->ag)(L:Nat->Bool):Nat->Env
 |0=>bt
 |k+1=>match l[k]? with
  |some o=>if L k then rp (oI bt l vals L k) o.dst (vals k) else oI bt l vals L k
  |none=>oI bt l vals L k
theorem Aa(bt:Env)(o:cQ)(r:List cQ)(vals:Nat->ag):∀k,oI bt (o::r) vals (fun _=>true) (k+1)=oI (rp bt o.dst (vals 0)) r (fun i=>vals (i+1)) (fun _=>true) k
 |0=>rfl
 |k+1=>by
  rw[oI,Aa _ o r _ k];rfl
def XC(l:List cQ)(bt:Env)(vals:Nat->ag)(mems:Nat->aL)(N:Nat)(x:Out):Prop :=
 (N=l.length/\(∀k,k<N->(vals k).jU=false)/\x=⟨.normal,oI bt l vals (fun _=>true) N,mems N⟩) \/
 ∃n y v,N=n+1/\l[n]?=some y/\y.lets=true/\vals n = .oC v/\(∀k,k<n->(vals k).jU=false)/\x=⟨.oC v,[],mems N⟩
theorem trace:∀ {l:List cQ} {bt:Env} {M:aL} {x:Out},gU C l bt M=some x->∃(N:Nat) (vals:Nat->ag) (mems:Nat->aL),N<=l.length/\mems 0=M /\
  (∀(k:Nat)(o:cQ),k<N->l[k]?=some o->Ju C o (oI bt l vals (fun _=>true) k) (mems k) (vals k) (mems (k+1)))/\XC l bt vals mems N x
 | [],bt,M,x,h=>by
  simp only[gU] at h; injection h with h
  exact⟨0,fun _ => .any,fun _=>M,ar _,rfl,fun k o hk=>by simp,.inl ⟨rfl,fun k hk=>by rfl,h.symm⟩⟩
 |o::r,bt,M,x,h=>by
  have key:∀(v:ag)(M':aL),Ju C o bt M v M'->v.jU=false->gU C r (rp bt o.dst v) M'=some x->∃(N:Nat) (vals:Nat->ag) (mems:Nat->aL),N<=(o::r).length/\mems 0=M /\
    (∀(k:Nat)(p:cQ),k<N->(o::r)[k]?=some p->Ju C p (oI bt (o::r) vals (fun _=>true) k) (mems k) (vals k) (mems (k+1)))/\XC (o::r) bt vals mems N x:=by
   intro v M' hs hnp hr;obtain⟨N,vals,mems,h0,h1,h2,h3⟩:=trace hr;refine⟨N+1,fun i=>match i with|0=>v|i+1=>vals i,fun i=>match i with|0=>M|i+1=>mems i,by simpa using h0,rfl,fun k p hk hp=>?_,?_⟩
   ·grind [oI,Aa]
   ·have np:∀n,(∀k,k<n->(vals k).jU=false)->∀k,k<n+1->((fun i=>match i with|0=>v|i+1=>vals i:Nat->ag) k).jU=false:=by
     grind
    rcases h3 with ⟨e1,e2,e3⟩|⟨n,y,u,e1,e2,e3,e4,e5,e6⟩
    ·refine .inl ⟨by simp[e1],np N e2,?_⟩
     rw[Aa]; omega
    ·exact .inr ⟨n+1,y,u,by rw[e1],by simpa using e2,e3,e4,np n e5,e6⟩
  rcases pF h with ⟨y,h1,h2,⟨h3,h4⟩|⟨v,h3,h4,rfl⟩⟩|⟨t,want,h1,h2,h3⟩
  ·exact key y.1 y.2 (.inl ⟨h1,h2⟩) h3 h4
  ·refine⟨1,fun _=>y.1,fun i=>match i with|0=>M|_=>y.2,by simp,rfl,fun k p hk hp=>?_,.inr ⟨0,o,v,rfl,rfl,h3,h4,fun k hk=>by omega,rfl⟩⟩
   have:k=0:=by omega
   subst this;simp at hp; subst hp;exact .inl ⟨h1,h2⟩
  ·exact key (.tuple []) M (.inr ⟨t,want,h1,h2,rfl,rfl⟩) rfl h3
section
variable {bt:Env} {l:List cQ} {vals:Nat->ag} {L L':Nat->Bool} {t:Nat}
def wr(l:List cQ)(k t:Nat):Prop:=∃o,l[k]?=some o/\o.dst=some t
theorem Lx(k:Nat)(h:wr l k t)(hL:L k=true):ir (oI bt l vals L (k+1)) t=vals k:=by
 obtain⟨o,h1,h2⟩:=h;rw[oI];simp_all [rp,ir]
theorem Ab(k:Nat)(h:¬(wr l k t/\L k=true)):ir (oI bt l vals L (k+1)) t=ir (oI bt l vals L k) t:=by
 rw[oI];split
 ·rename_i o ho;split
  ·rename_i hk;unfold rp;split
   ·rename_i d hd;rw[ir,ak];rintro rfl;exact h ⟨⟨o,ho,hd⟩,hk⟩
   rfl
  rfl
 rfl
def uR{i:Nat}:∀n,i<=n->(∀k,i<=k->k<n->¬(wr l k t/\L k=true))->ir (oI bt l vals L n) t=ir (oI bt l vals L i) t
 |0,hi,_=>by rw[show i=0 by omega]
 |n+1,hi,h=>by
  by_cases he:i=n+1
  ·rw[he]
  ·rw[Ab n (h n (by omega) (by simp))]
   exact uR n (by omega) fun k h1 h2=>h k h1 (by omega)
theorem xq:∀n,(∀k,k<n->wr l k t->L k=L' k)->ir (oI bt l vals L n) t=ir (oI bt l vals L' n) t
 |0,_=>rfl
 |n+1,h=>by
  have ih:=xq n fun k hk=>h k (by omega)
  by_cases hw:wr l n t
  ·cases hL:L n<;>grind [Lx,Ab]
  grind [Ab]
end
def left(L:Nat->Bool):Nat->Nat
 |0=>0
 |k+1=>left L k+if L k then 0 else 1
theorem Ez{L:Nat->Bool}:∀ {n},left L n=0->∀k,k<n->L k=true
 |0,_,k,hk=>by omega
 |n+1,h,k,hk=>by
  rw[left] at h
  by_cases he:k=n
  ·grind
  ·exact Ez (n:=n) (by omega) k (by omega)
theorem H9{L L':Nat->Bool}{i:Nat}(hi:L i=false)(hi':L' i=true)(hne:∀k,k≠i->L' k=L k):∀n,left L n=left L' n+if i<n then 1 else 0
 |0=>by rfl
 |n+1=>by
  have ih:=H9 hi hi' hne n;rw[left,left]
  grind
theorem x6{bs:List Nat}{l:List cQ}:∀(r:List cQ)(k m:Nat)(y:cQ),(pO bs l k r)[m]?=some y->∃x,r[m]?=some x/\y.dst=x.dst/\y.op=x.op/\y.guard=x.guard
 | [],k,m,y,h=>by simp_all [pO]
 |x::r,k,m,y,h=>by
  rw[pO] at h;cases m with
  |zero=>grind
  |succ m =>
   obtain⟨z,h1,h2⟩:=x6 r _ m y (by simpa using h)
   grind
def x7{bs:List Nat}{l:List cQ}:∀(r:List cQ)(k:Nat),(pO bs l k r).length=r.length
 | [],_=>rfl
 |x::r,k=>by rw[pO,av,x7 r _,av]
theorem Co{ops:Array Oper}:∀ {r:List Oper} {g:List Bool} {l:List cQ},tF P A ops g r=some l->l.length=r.length/\∀(k:Nat)(o:Oper),r[k]?=some o->∃x b,l[k]?=some x/\Lq P A ops b o=some x
 | [],g,l,h=>by grind [tF]
 |o::r,g,l,h=>by
  obtain⟨x,hx,h⟩:=ba h;obtain⟨l',hl,h⟩:=ba h;injection h with h; obtain⟨h1,h2⟩:=Co hl
  grind
structure Ord(ops:Array Oper)(l:List cQ):Prop where
 len:l.length=ops.size
 Vh:∀(k:Nat)(o:Oper)(e:Edge),ops[k]?=some o->e∈o.after.toList->Region.binds .any e=true->e.on<k
 alone:∀(k:Nat)(y:cQ),l[k]?=some y->y.wW=true->y.op.wM=true
 opl:∀(k:Nat)(y:cQ),l[k]?=some y->KG y.op=true
 XT:∀(k i:Nat)(y x:cQ),l[k]?=some y->y.tM=true->y.grow=false->l[i]?=some x->x.op.OY=true->(i<k->ahead (qQ ops.toList) i k=true)/\(k<i->ahead (qQ ops.toList) k i=true)
 sep:∀(k i:Nat)(y x:cQ),l[k]?=some y->y.sep≠[]->l[i]?=some x->x.op.OY=true->(k<i->ahead (qQ ops.toList) k i=true)/\(i<k->ahead (qQ ops.toList) i k=true\/∃z,x.op.MA=some z/\z∈y.sep/\ahv l i k z=true)
 meet:∀(i k:Nat)(x y:cQ),i<k->l[i]?=some x->l[k]?=some y->meet x y=true->ahead (qQ ops.toList) i k=true
 stop:∀(i k:Nat)(y:cQ),l[k]?=some y->y.lets=true->i<l.length->(k<i->ahead (qQ ops.toList) k i=true)/\(i<k->ahead (qQ ops.toList) i k=true\/∀x,l[i]?=some x->x.op.OX=false)
 eff:∀(i k:Nat)(x y:cQ),i<k->l[i]?=some x->l[k]?=some y->x.tM=true->y.tM=true->ahead (qQ ops.toList) i k=true\/(Bl ops l i=true/\Bl ops l k=true)
theorem adb{ops:Array Oper}{l:List cQ}(eY:l.length=ops.size)(h:Gs ops (qQ ops.toList) l=true):Ord ops l:=by
 unfold Gs at h
 have hk:∀(k:Nat)(y:cQ)(o:Oper),l[k]?=some y->ops[k]?=some o->(o.after.toList.all (fun e => !Region.binds .any e||decide (e.on<k))=true/\((!y.wW||y.op.wM)&&KG y.op)=true/\((!(y.tM && !y.grow)||fenced (qQ ops.toList) l k)&&(y.sep.isEmpty||BX (qQ ops.toList) l k y.sep))=true/\(!y.lets||K5 (qQ ops.toList) l k)=true) /\
   ∀(i:Nat)(x:cQ),i<k->l[i]?=some x->(!Go.Abs.meet x y||ahead (qQ ops.toList) i k)=true/\(!(x.tM&&y.tM)||(ahead (qQ ops.toList) i k||(Bl ops l i&&Bl ops l k)))=true:=by
  intro k y o hy ho;have h1:=bw.1 h k (fA.2 (aF hy));rw[eN,hy,ho] at h1;rw[bn,bn,bn] at h1;obtain⟨⟨⟨a1,a2⟩,a3⟩,a45⟩:=h1;rw[bn] at a45;obtain⟨a5,a4⟩:=a45;refine⟨⟨a1,a2,a3,a5⟩,fun i x hi hx=>?_⟩
  have h2:=bw.1 a4 i (fA.2 hi);rw[eN,hx] at h2;simpa[bn] using h2
 have hop:∀k,k<l.length->∃o,ops[k]?=some o:=fun k hk=>⟨ops[k]'(by omega),bb (by omega)⟩
 refine⟨eY,fun k o e ho he hb=>?_,fun k y hy hn=>?_,fun k y hy=>?_,fun k i y x hy hE hg hx hl=>?_,fun k i y x hy hsp hx hl=>?_,fun i k x y hi hx hy hm=>?_,fun i k y hy hl hi=>?_,fun i k x y hi hx hy hE hE'=>?_⟩
 ·grind
 ·grind
 ·obtain⟨o,ho⟩:=hop k (aF hy);have:=(hk k y o hy ho).1.2.1;rw[bn] at this;exact this.2
 ·obtain⟨o,ho⟩:=hop k (aF hy);have h1:=(bn _ _▸(hk k y o hy ho).1.2.2.1:_/\_).1;have h2:fenced (qQ ops.toList) l k=true:=by simpa[hE,hg] using h1
  have h3:=bw.1 h2 i (fA.2 (aF hx));rw[eN,hx] at h3;simp only[hl,cX,dg] at h3;refine⟨fun hik=>by rw[az hik] at h3; exact h3,fun hki=>?_⟩
  rw[ak (by omega)] at h3
  have:¬i=k:=by omega
  simpa[this] using h3
 ·obtain⟨o,ho⟩:=hop k (aF hy);have h1:=(bn _ _▸(hk k y o hy ho).1.2.2.1:_/\_).2
  have h2:BX (qQ ops.toList) l k y.sep=true:=by
   grind
  have h3:=bw.1 h2 i (fA.2 (aF hx));rw[eN,hx] at h3;simp only[hl,cX,dg] at h3;refine⟨fun hki=>?_,fun hik=>?_⟩
  ·have hne:(i==k)=false:=by simp; omega
   rw[hne,ak (by omega),dg] at h3
   exact h3
  ·have hne:(i==k)=false:=by simp; omega
   rw[hne,az hik,dg,cN] at h3;rcases h3 with h3|h3
   ·exact .inl h3
   ·right;split at h3
    ·rename_i z hz;rw[bn] at h3;exact⟨z,hz,by simpa using h3.1,h3.2⟩
    ·cases h3
 ·obtain⟨o,ho⟩:=hop k (aF hy);have:=((hk k y o hy ho).2 i x hi hx).1;simpa[hm] using this
 ·obtain⟨o,ho⟩:=hop k (aF hy);have h1:=(hk k y o hy ho).1.2.2.2;rw[hl,cX,dg] at h1;have h2:=bw.1 h1 i (fA.2 hi);refine⟨fun hki=>?_,fun hik=>?_⟩
  ·have hne:(i==k)=false:=by simp; omega
   rw[hne,ak (by omega),dg] at h2
   exact h2
  ·have hne:(i==k)=false:=by simp; omega
   rw[hne,az hik,dg,cN] at h2;refine h2.imp id fun h3 x hx=>?_
   rw[eN,hx] at h3;simpa using h3
 ·obtain⟨o,ho⟩:=hop k (aF hy);have:=((hk k y o hy ho).2 i x hi hx).2;simpa[hE,hE'] using this
structure FQ(n:Nat)(mems:Nat->aL)(E A:Nat->Bool)(L:Nat->Bool)(q:Nat)(G:aL):Prop where
 qn:q<=n
 last:q=0\/∃p,q=p+1/\E p=true/\L p=true
 rest:∀k,q<=k->k<n->E k=true->L k=false
 len:G.length=(mems q).length
 at':∀id:Nat,G[id]?=(mems q)[id]?\/(G[id]?=some .vq/\∃k,k<q/\A k=true/\L k=false/\(mems k).length=id)
 un:∀k,k<q->A k=true->L k=false->G[(mems k).length]?=some .vq
theorem FQ.full{n:Nat}{mems:Nat->aL}{E A L:Nat->Bool}{q:Nat}{G:aL}(g:FQ n mems E A L q G)(h:∀k,k<q->A k=true->L k=true):G=mems q:=by
 apply cS;intro id;rcases g.at' _ with h1|⟨_,k,h1,h2,h3,_⟩
 ·omega
 grind
theorem fY.acX{j:J}{M:aL}{w:World}{x:ag}{v:Value}(h:fY j M w x v){id:Nat}(hid:id∈x.ia):M[id]?≠some .vq:=by
 intro hg;cases h with
 |plain h=>cases h<;>simp[ag.ia] at hid
 |c0=>simp_all [ag.ia]
 |own hk=>grind [ag.ia]
 |agg=>grind [ag.ia]
 |tuple=>simp[ag.ia] at hid
 |ptr _ hc=>grind [ag.ia]
 |jg=>simp_all [ag.ia]
 |func=>simp_all [ag.ia]
 |gH hc=>grind [ag.ia]
 |jA hc=>grind [ag.ia]
 |iG=>grind [ag.ia]
 |dk _ _ hM=>simp[ag.ia] at hid; subst hid; cases hM _ hg
 |iu _ _ hM=>simp[ag.ia] at hid; subst hid; cases hM _ hg
 |sb=>simp[ag.ia] at hid
 |jO hc=>grind [ag.ia]
 |any=>simp_all [ag.ia]
def vH{mems:Nat->aL}{i:Nat}:∀n,i<=n->(∀k,i<=k->k<n->mems k <+: mems (k+1))->mems i <+: mems n
 |0,hi,_=>by rw[show i=0 by omega]; simp
 |n+1,hi,h=>by
  by_cases he:i=n+1
  ·rw[he]; simp
  ·exact(vH n (by omega) fun k h1 h2=>h k h1 (by omega)).trans (h n (by omega) (by simp))
def cy.De{j:J}{M:aL}{w:World}{bt env':Env}{a:Act}(h:cy j M w bt a)(he:∀t,ir env' t=ir bt t):cy j M w env' a:=⟨fun t=>by rw[he t]; exact h.at' t,h.gl⟩
theorem II(hmix:P.follows .mixedOrders=true)(hC:pj P C){rd:Option Nat}{nd:Nat}{id:Nat}{ops:Array Oper}{l0 l:List cQ}(hl0:tF P A ops [] ops.toList=some l0)(hg:AA ops l0=some l)
  {bt:Env} {M:aL} {x:Out} (hx:gU C l bt M=some x) {j:J} {w:World} {a:Act} (hr:Rel j M w) (hG:sE j M w) (he:cy j M w bt a) (hs:a.tmps.size=A.n) {Q:Exit->Act->World->Prop}
  (hQ:∀a' w' j',Rel j' x.mem w'->cy j' x.mem w' x.bt a'->Ext j M w j' x.mem w'->a'.tmps.size=A.n->a'.defers=a.defers->Q (rN x.e) a' w'):(Code.region id ops true).wpIn (Wd rd) nd P Q a w:=by
 obtain⟨c1,c2⟩:=Co hl0;have hlen0:l0.length=ops.size:=by simpa using c1
 unfold AA at hg;split at hg
 case isFalse=>cases hg
 rename_i hok;injection hg with hg
 rw[hg] at hok;have eY:l.length=ops.size:=by rw[<-hg,x7]; exact hlen0
 have od:=adb eY hok
 have hop:∀(k:Nat)(y:cQ),l[k]?=some y->∃o x0 b,ops[k]?=some o/\Lq P A ops b o=some x0/\y.dst=x0.dst/\y.op=x0.op/\y.guard=x0.guard:=by
  intro k y hy;rw[<-hg] at hy;obtain⟨x0,h1,h2,h3,h4⟩:=x6 _ _ _ _ hy;have hk:k<ops.size:=by rw[<-hlen0]; exact aF h1
  have ho:ops[k]?=some ops[k]:=bb hk;obtain⟨x1,b,h5,h6⟩:=c2 k ops[k] (by simp[hk])
  rw[h1] at h5; cases h5;exact⟨_,x0,b,ho,h6,h2,h3,h4⟩
 obtain⟨N,vals,mems,hN,m0,st,hxe⟩:=trace hx
 let E:Nat->Bool:=fun k=>match l[k]? with|some y=>y.tM|none=>false
 have hE:∀ {k:Nat} {y:cQ},l[k]?=some y->E k=y.tM:=fun {k y} h=>by simp only[E,h]
 have hEs:∀ {k:Nat},E k=true->∃y,l[k]?=some y/\y.tM=true:=fun {k} h=>by
  simp only[E] at h;split at h
  ·exact⟨_,by assumption,h⟩
  ·cases h
 -- memory stays at what is no effect,and grows at what may
 have stays:∀k,k<N->E k=false->mems (k+1)=mems k:=by
  intro k hkN hEk;have hk:k<l.length:=by omega
  have hy:=aj hk;rw[hE hy] at hEk;rcases st k _ hkN hy with ⟨_,h⟩|⟨_,_,_,_,_,h⟩
  ·rcases rF h with ⟨hn,hi,h1⟩|⟨hn,_,h1⟩|⟨hn,_,_,h1⟩
   ·exact(G5 (od.alone k _ hy hn) h1 hi).1
   all_goals
    have hE0:l[k].op.OX=false:=by simpa[cQ.tM,hn] using hEk
    cases hl:l[k].op.OY with
    |true=>exact(Ih hl h1).1
    |false=>exact(Ms hE0 hl h1).1
  ·exact h
 have grows:∀k (y:cQ),k<N->l[k]?=some y->y.tM=true->y.grow=true->mems k <+: mems (k+1)\/(y.sep≠[]/\yH (oI bt l vals (fun _=>true) k) (mems k) (mems (k+1)) y.sep):=by
  intro k y hkN hy hEy hgr;rcases st k y hkN hy with ⟨_,h⟩|⟨_,_,_,_,_,h⟩
  ·rcases rF h with ⟨hn,_,_⟩|⟨_,hg',_⟩|⟨_,_,hp,_⟩
   ·simp[cQ.tM,hn] at hEy
   ·rw[hgr] at hg'; cases hg'
   ·exact hp
  ·rw[h]; exact .inl (ig _)
 let A0:Nat->Bool:=Bl ops l
 have hA:∀k,k<N->A0 k=true->∃(y:cQ) (o:Oper) (V:Nat->ag) (B:cD),l[k]?=some y/\ops[k]?=some o/\y.guard=none/\E k=true/\vals k=V (mems k).length/\mems (k+1)=mems k++[B]/\(V (mems k).length).jU=false /\
   ∀ {env':Env} {j:J} {G:aL} {w:World} {a:Act} {p:Nat} {K:Act->World->Prop} {KP:Value->World->Prop},(∀t,t∈y.op.k9->ir env' t=ir (oI bt l vals (fun _=>true) k) t)->Rel j G w->sE j G w->cy j G w env' a->G[p]?=some .vq ->
    (∀v w',iJ j G w (V p,G.set p B) v w'->K (a.put o.dst v) w')->tD P o a w K KP:=by
  intro k hkN hAk;have hk:k<l.length:=by omega
  obtain⟨y,hy⟩:∃y,l[k]?=some y:=⟨_,aj hk⟩;obtain⟨o,ho⟩:∃o,ops[k]?=some o:=⟨_,bb (by omega)⟩
  obtain⟨o',x0,b,ho',hco,f1,f2,f3⟩:=hop k _ hy;rw[ho] at ho'; cases ho';obtain⟨g1,_⟩:=zX hco;rw[<-f2] at g1;simp only[A0,Bl,ho,eN,hy,bn,Option.isNone_iff_eq_none] at hAk;obtain⟨k2,k3⟩:=hAk
  have h1:dZ C (oI bt l vals (fun _=>true) k) (mems k) y.op=some (vals k,mems (k+1)):=by
   rcases st k y hkN hy with ⟨_,h⟩|⟨t',want,h,_⟩
   ·rcases rF h with ⟨_,_,h1⟩|⟨_,_,h1⟩|⟨_,_,_,h1⟩<;>exact h1
   ·rw[k3] at h; cases h
  have hnm:y.op.wM=false->y.wW=false:=fun hc=>by
   cases hn:y.wW with
   |false=>rfl
   |true=>have:=od.alone k y hy hn; rw[hc] at this; cases this
  split at k2
  ·rename_i cs hcs;split at k2
   case h_2=>cases k2
   rename_i t hot;have hn:=hnm (by rw[hcs]; rfl)
   rw[hcs] at h1 g1;simp only[dZ] at h1;injection h1 with h1
   refine⟨y,o,fun p => .ptr p 0,.cells cs,hy,ho,k3,by rw[hE hy]; simp[cQ.tM,hn,hcs,kI.OX],(congrArg Prod.fst h1).symm,(congrArg Prod.snd h1).symm,rfl,fun {env' j G w a p K KP} _ hr hG he hp hK=>?_⟩
   obtain⟨us,tt,hRC,hRan⟩:=MS hot g1 a w;exact .inl ⟨_,_,hRan,hK _ _ (Ht hr hp (hRC _ _ _) tt)⟩
  ·rename_i z hcs;split at k2
   case h_2=>cases k2
   rename_i t yy hot;have hn:=hnm (by rw[hcs]; rfl)
   rw[hcs] at h1 g1;simp only[dZ] at h1;obtain⟨cs,hcc,h1⟩:=bo h1;injection h1 with h1
   have hz:ef yy=some z:=by
    simp only[M5,hot] at g1;obtain⟨z',hz',g1⟩:=ba g1;injection g1 with g1; cases g1
    exact hz'
   refine⟨y,o,fun p => .ptr p 0,.cells cs,hy,ho,k3,by rw[hE hy]; simp[cQ.tM,hn,hcs,kI.OX],(congrArg Prod.fst h1).symm,(congrArg Prod.snd h1).symm,rfl,fun {env' j G w a p K KP} hag hr hG he hp hK=>?_⟩
   have hev:=cG (x:=z) (fun t ht=>hag t (by rw[hcs]; exact ht))
   exact .inl ⟨_,_,.inl (by simp[execOp,hot,Instr.box,newVar,newRow]),hK _ _ (Ht hr hp (tp (cH he hz) (by rw[hev]; exact hcc)) t)⟩
  ·rename_i f args hcs;split at k2
   case h_2=>cases k2
   rename_i c hot;split at k2
   case h_2=>cases k2
   rename_i f0 hcal;have hn:=hnm (by rw[hcs]; rfl)
   rw[hcs] at h1 g1;obtain⟨xs,sz,n,hx0,_⟩:=yl hC hot hcal g1 h1;refine⟨y,o,fun p => .slice (.own p) xs,.tick sz n,hy,ho,k3,by rw[hE hy]; simp[cQ.tM,hn,hcs,kI.OX],congrArg Prod.fst hx0,congrArg Prod.snd hx0,rfl,fun {env' j G w a p K KP} hag hr hG he hp hK=>?_⟩
   have h2:dZ C env' (mems k) (.vQ f args)=some (vals k,mems (k+1)):=by
    rw[(DU (C:=C) (M:=mems k) (op := .vQ f args) fun t ht=>hag t (by rw[hcs]; exact ht)).1]
    exact h1
   obtain⟨xs',sz',n',hx1,hrun⟩:=yl hC hot hcal g1 h2;rw[hx0] at hx1;injection hx1 with e1 e2
   injection e1 with _ e1
   have e3:=iy e2;injection e3 with e3 _
   injection e3 with e3 e4
   subst e1; subst e3; subst e4;exact hrun hr hG he hp hK
  ·cases k2
 have hAE:∀k,k<N->A0 k=true->E k=true:=fun k hk h=>by
  obtain⟨y,o,V,B,_,_,_,h1,_⟩:=hA k hk h;exact h1
 -- where nothing but boxes is made memory grows
 have pref:∀a b,a<=b->b<=N->(∀k,a<=k->k<b->E k=true->A0 k=true)->mems a <+: mems b:=fun a b hab hb hk=>vH b hab fun k h1 h2=>by
  cases hEk:E k with
  |false=>rw[stays k (by omega) hEk]; exact ig _
  |true =>
   obtain⟨y,o,V,B,_,_,_,_,_,h3,_⟩:=hA k (by omega) (hk k h1 h2 hEk)
   rw[h3]; exact j4 _ _
 have same:∀a b,a<=b->b<=N->(∀k,a<=k->k<b->E k=false)->mems b=mems a:=by
  intro a b hab;induction b with
  |zero=>intro _ _; rw[show a=0 by omega]
  |succ b ih =>
   intro hb hk
   by_cases he:a=b+1
   ·rw[he]
   ·rw[stays b (by omega) (hk b (by omega) (by omega)),ih (by omega) (by omega) fun k h1 h2=>hk k h1 (by omega)]
 -- where a box of that length is made
 have Xb:∀a b,a<=b->b<=N->(∀k,a<=k->k<b->E k=true->A0 k=true)->∀id,(mems a).length<=id->id<(mems b).length->∃k,a<=k/\k<b/\A0 k=true/\(mems k).length=id:=by
  intro a b hab;induction b with
  |zero=>intro _ _ id h1 h2; rw[show a=0 by omega] at h1; omega
  |succ b ih =>
   intro hb hk id h1 h2
   by_cases he:a=b+1
   ·rw[he] at h1; omega
   ·cases hEb:E b with
    |false =>
     rw[stays b (by omega) hEb] at h2
     obtain⟨k,g1,g2,g3⟩:=ih (by omega) (by omega) (fun k h1 h2=>hk k h1 (by omega)) id h1 h2
     exact⟨k,g1,by omega,g3⟩
    |true =>
     have hAb:=hk b (by omega) (by omega) hEb
     obtain⟨y,o,V,B,_,_,_,_,_,h3,_⟩:=hA b (by omega) hAb
     rw[h3] at h2;simp only[aK,av,aH] at h2
     by_cases hid:id<(mems b).length
     ·obtain⟨k,g1,g2,g3⟩:=ih (by omega) (by omega) (fun k h1 h2=>hk k h1 (by omega)) id h1 hid
      exact⟨k,g1,by omega,g3⟩
     ·exact⟨b,by omega,by omega,hAb,by omega⟩
 refine wpIn_region_any hmix ?_
 have key:∀(fuel:Nat)(listed:Array Bool)(a1:Act)(w1:World),listed.size=ops.size->left (fun k=>listed.getD k false) l.length=fuel->Down ops (fun k=>listed.getD k false)->(∀k,k<l.length->listed.getD k false=true->k<N/\(vals k).jU=false) ->
   (∃j1 q G,FQ l.length mems E A0 (fun k=>listed.getD k false) q G/\Rel j1 G w1/\cy j1 G w1 (oI bt l vals (fun k=>listed.getD k false) l.length) a1 /\
    Ext j M w j1 G w1/\a1.tmps.size=A.n/\a1.defers=a.defers)->wpAnyIn (Wd rd) nd P .any ops Q fuel listed a1 w1:=by
  have ends:∀(listed:Array Bool)(a1:Act)(w1:World),(∀k,k<l.length->listed.getD k false=true) ->
    (∃j1 q G,FQ l.length mems E A0 (fun k=>listed.getD k false) q G/\Rel j1 G w1/\cy j1 G w1 (oI bt l vals (fun k=>listed.getD k false) l.length) a1 /\
    Ext j M w j1 G w1/\a1.tmps.size=A.n/\a1.defers=a.defers)->(∀k,k<l.length->listed.getD k false=true->k<N/\(vals k).jU=false)->Q .normal a1 w1:=by
   intro listed a1 w1 hall hI hin;obtain⟨j1,q,G,gp,r1,e1,x1,s1,d1⟩:=hI;rcases hxe with ⟨n1,_,n3⟩|⟨n,y,v,n1,n2,_,n4,_,_⟩
   ·have hm:G=mems l.length:=by
     have hqn:=gp.qn;rw[gp.full fun k hk _=>hall k (by omega),same q l.length gp.qn (by omega) fun k h1 h2=>?_]
     cases hEk:E k with
     |false=>rfl
     |true =>
      have:=gp.rest k h1 h2 hEk;rw[hall k h2] at this; cases this
    rw[hm] at r1 e1 x1;rw[n3,n1] at hQ;exact hQ a1 w1 j1 r1 (e1.De fun t=>xq _ fun k hk _=>(hall k hk).symm) x1 s1 d1
   ·have hnl:=aF n2;have:=(hin n hnl (hall n hnl)).2;rw[n4] at this; cases this
  intro fuel;induction fuel with
  |zero =>
   intro listed a1 w1 hsz hleft hd hin hI;have hall:=Ez hleft;refine⟨?_,ends listed a1 w1 hall hI hin⟩;apply List.eq_nil_iff_forall_not_mem.2;intro i hi;obtain⟨h1,oi,h2,_⟩:=mem_ready.1 hi;have hil:i<l.length:=by rw[eY]; exact(fq.1 h2).1
   have h3:=hall i hil;simp only[cW] at h1 h3;have:i<listed.size:=by omega
   rw[bb this] at h1 h3;simp at h1 h3;rw[h1] at h3; cases h3
  |succ fuel ih =>
   intro listed a1 w1 hsz hleft hd hin hI;refine⟨fun hnil=>?_,fun i hi=>?_⟩
   ·refine ends listed a1 w1 ?_ hI hin;intro k;induction k using Nat.strongRecOn with
    |_ k ihk =>
     intro hk;cases hL:listed.getD k false with
     |true=>rfl
     |false =>
      exfalso;have hks:k<ops.size:=by omega
      have ho:ops[k]?=some ops[k]:=bb hks
      have:k∈Region.ready .any ops listed:=by
       refine mem_ready.2 ⟨?_,_,ho,fun e he hb=>?_⟩
       ·simp only[cW] at hL ⊢;have hkl:k<listed.size:=by omega
        rw[bb hkl] at hL ⊢;simpa using hL
       ·have:=od.Vh k _ e ho (by simpa using he) hb
        exact ihk e.on this (by omega)
      rw[hnil] at this;cases this
   ·obtain⟨hun0,o,ho,hall⟩:=mem_ready.1 hi;obtain⟨j1,q,G,gp,r1,e1,x1,s1,d1⟩:=hI;have his:i<ops.size:=(fq.1 ho).1;have hil:i<l.length:=by omega
    have hils:i<listed.size:=by omega
    have hLi:listed.getD i false=false:=by
     simp only[cW] at hun0 ⊢;rw[bb hils] at hun0 ⊢;simpa using hun0
    have hL'i:(listed.setIfInBounds i true).getD i false=true:=by
     simp only[cW,gJ,hils,aE];rfl
    have hL'ne:∀k,k≠i->(listed.setIfInBounds i true).getD k false=listed.getD k false:=fun k hk=>by
     simp only[cW,eW (dD hk)]
    have hy:=aj hil;obtain⟨o',x0,b,ho',hco,f1,f2,f3⟩:=hop i _ hy;rw[ho] at ho'; cases ho';obtain⟨g1,g2,_,g4,g5⟩:=zX hco;rw[<-f2] at g1;rw[<-f1] at g2;rw[<-f3] at g5;generalize hyy:l[i]=y at *;have hall':∀e,e∈o.after.toList->Region.binds .any e=true->listed.getD e.on false=true:=fun e h1 h2=>hall e (by simpa using h1) h2
    have rdy:∀k,ahead (qQ ops.toList) k i=true->listed.getD k false=true:=fun k h=>G3 (L:=fun k=>listed.getD k false) hd od.Vh ho hall' h
    have nol:∀k,k<l.length->ahead (qQ ops.toList) i k=true->listed.getD k false=false:=fun k hk h=>by
     cases hL:listed.getD k false with
     |false=>rfl
     |true =>
      have:=Cd (L:=fun k=>listed.getD k false) hd od.Vh k h (by omega) hL
      rw[hLi] at this; cases this
    have hiN:i<N:=by
     rcases bH i N with h|h
     ·exact h
     rcases hxe with ⟨n1,_,_⟩|⟨n,y',v,n1,n2,n3,n4,_,_⟩
     ·omega
     ·have h5:=rdy n ((od.stop i n y' n2 n3 hil).1 (by omega))
      have:=(hin n (aF n2) h5).2;rw[n4] at this; cases this
    have agree:∀t,t∈y.reads->ir (oI bt l vals (fun k=>listed.getD k false) l.length) t=ir (oI bt l vals (fun _=>true) i) t:=by
     intro t ht;refine(uR l.length (Nat.le_of_lt hil) fun k h1 h2=>?_).trans (xq i fun k hk hw=>?_)
     ·rintro⟨⟨x',hx',hdx⟩,hLk⟩
      by_cases hki:k=i
      ·subst hki; rw[hLi] at hLk; cases hLk
      ·have hm:meet y x'=true:=by simp[meet,hdx,ht]
       rw[nol k h2 (od.meet i k y x' (by omega) hy hx' hm)] at hLk
       cases hLk
     ·obtain⟨x',hx',hdx⟩:=hw;have hm:meet x' y=true:=by simp[meet,hdx,ht]
      exact rdy k (od.meet k i x' y hk hx' hy hm)
    have newEnv:∀t,ir (oI bt l vals (fun k=>(listed.setIfInBounds i true).getD k false) l.length) t=ir (rp (oI bt l vals (fun k=>listed.getD k false) l.length) y.dst (vals i)) t:=by
     intro t
     by_cases hdt:y.dst=some t
     ·rw[hdt];simp only[rp,ir,aE];rw[uR (i:=i+1) l.length (by omega) fun k h1 h2=>?_]
      ·exact Lx i ⟨y,hy,hdt⟩ hL'i
      ·rintro⟨⟨x',hx',hdx⟩,hLk⟩;rw[hL'ne k (by omega)] at hLk
       have hm:meet y x'=true:=by simp[meet,hdt,hdx]
       rw[nol k h2 (od.meet i k y x' (by omega) hy hx' hm)] at hLk
       cases hLk
     ·have e2:ir (rp (oI bt l vals (fun k=>listed.getD k false) l.length) y.dst (vals i)) t=ir (oI bt l vals (fun k=>listed.getD k false) l.length) t:=by
       unfold rp;split
       ·rename_i d hd';rw[ir,ak];rintro rfl;exact hdt hd'
       ·rfl
      rw[e2];refine xq _ fun k _ hw=>hL'ne k ?_
      rintro rfl;obtain⟨x',hx',hdx⟩:=hw;rw[hy] at hx'; cases hx';exact hdt hdx
    have hqN:q<=N:=by
     rcases gp.last with h|⟨p,hp1,hp2,hp3⟩
     ·omega
     ·obtain⟨z0,hz0,_⟩:=hEs hp2;have:=(hin p (aF hz0) hp3).1;omega
    -- effects that are ordered
    have effA:∀a b,a<b->E a=true->E b=true->(A0 a=false\/A0 b=false)->ahead (qQ ops.toList) a b=true:=by
     intro a b hab ha hb hn;obtain⟨x',hx',hE'⟩:=hEs ha;obtain⟨y',hy',hE2⟩:=hEs hb;rcases od.eff a b x' y' hab hx' hy' hE' hE2 with h|⟨h1,h2⟩
     ·exact h
     ·rcases hn with hn|hn
      ·rw[show A0 a=true from h1] at hn; cases hn
      ·rw[show A0 b=true from h2] at hn; cases hn
    have inL:∀a b,b<l.length->ahead (qQ ops.toList) a b=true->listed.getD b false=true->listed.getD a false=true:=fun a b hb h1 h2=>Cd (L:=fun k=>listed.getD k false) hd od.Vh b h1 (by omega) h2
    -- what is between one that is not done and the last that is
    have betw:∀k,k<q->E k=true->A0 k=true->listed.getD k false=false->∀m,k<=m->m<q->E m=true->A0 m=true:=by
     intro k hkq hEk hAk hLk m h1 h2 hEm;cases hAm:A0 m with
     |true=>rfl
     |false =>
      exfalso;rcases gp.last with h|⟨p,hp1,hp2,hp3⟩
      ·omega
      have hqn:=gp.qn
      have hkm:k<m:=by
       rcases bH k m with h|h
       ·exact h
       ·have:k=m:=by omega
        subst this; rw[hAk] at hAm; cases hAm
      have a1:=effA k m hkm hEk hEm (.inr hAm)
      have hLm:listed.getD m false=true:=by
       by_cases hmp:m=p
       ·rw[hmp]; exact hp3
       ·exact inL m p (by omega) (effA m p (by omega) hEm hp2 (.inl hAm)) hp3
      rw[inL k m (by omega) a1 hLm] at hLk; cases hLk
    have gC:E i=false->FQ l.length mems E A0 (fun k=>(listed.setIfInBounds i true).getD k false) q G:=by
     intro hEi;have hne:∀k,E k=true->(listed.setIfInBounds i true).getD k false=listed.getD k false:=fun k hk=>hL'ne k (by rintro rfl; rw[hEi] at hk; cases hk)
     refine⟨gp.qn,gp.last.imp (fun h=>h) fun⟨p,h1,h2,h3⟩=>⟨p,h1,h2,by simp only[hne p h2]; exact h3⟩,fun k h1 h2 h3=>by simp only[hne k h3]; exact gp.rest k h1 h2 h3,gp.len,fun id=>?_,fun k h1 h2 h3=>?_⟩
     ·rcases gp.at' id with h|⟨h,k,h1,h2,h3,h4⟩
      ·exact .inl h
      ·exact .inr ⟨h,k,h1,h2,by simp only[hne k (hAE k (by omega) h2)]; exact h3,h4⟩
     ·simp only[hne k (hAE k (by omega) h2)] at h3
      exact gp.un k h1 h2 h3
    have gB:E i=true->A0 i=false->G=mems i/\FQ l.length mems E A0 (fun k=>(listed.setIfInBounds i true).getD k false) (i+1) (mems (i+1)):=by
     intro hEi hAi
     have hqi:q<=i:=by
      rcases gp.last with h|⟨p,hp1,hp2,hp3⟩
      ·omega
      ·have hqn:=gp.qn;rcases bH i p with h|h
       ·rw[inL i p (by omega) (effA i p h hEi hp2 (.inl hAi)) hp3] at hLi; cases hLi
       ·by_cases hip:i=p
        ·subst hip; simp only[hLi] at hp3; cases hp3
        ·omega
     have done:∀k,k<i->E k=true->listed.getD k false=true:=fun k hk hEk=>rdy k (effA k i hk hEk hEi (.inr hAi))
     refine⟨?_,by omega,.inr ⟨i,rfl,hEi,hL'i⟩,fun k h1 h2 h3=>by simp only[hL'ne k (show k≠i by omega)]; exact gp.rest k (by omega) h2 h3,rfl,fun id => .inl rfl,fun k h1 h2 h3=>?_⟩
     ·rw[gp.full fun k hk hAk=>done k (by omega) (hAE k (by omega) hAk)]
      refine(same q i hqi (by omega) fun k h1 h2=>?_).symm
      cases hEk:E k with
      |false=>rfl
      |true =>
       have:=gp.rest k h1 (by omega) hEk
       simp only[done k h2 hEk] at this; cases this
     ·have hki:k≠i:=by rintro rfl; rw[hAi] at h2; cases h2
      simp only[hL'ne k hki,done k (by omega) (hAE k (by omega) h2)] at h3
      cases h3
    have down':Down ops (fun k=>(listed.setIfInBounds i true).getD k false):=by
     intro k p e hp hL he' hb
     have hsome:listed.getD e.on false=true:=by
      by_cases hki:k=i
      ·subst hki;rw[ho] at hp; cases hp;exact hall' e he' hb
      ·exact hd k p e hp (by show listed.getD k false=true; rw[<-hL'ne k hki]; exact hL) he' hb
     show(listed.setIfInBounds i true).getD e.on false=true
     by_cases hei:e.on=i
     ·rw[hei]; exact hL'i
     ·rw[hL'ne _ hei]; exact hsome
    have left':left (fun k=>(listed.setIfInBounds i true).getD k false) l.length=fuel:=by
     have:=H9 (L:=fun k=>listed.getD k false) (L':=fun k=>(listed.setIfInBounds i true).getD k false) (i:=i) hLi hL'i (fun k hk=>hL'ne k hk) l.length
     rw[az hil] at this;omega
    have hin':(vals i).jU=false->∀k,k<l.length->(listed.setIfInBounds i true).getD k false=true->k<N/\(vals k).jU=false:=by
     intro hnp k hk hL
     by_cases hki:k=i
     ·rw[hki]; exact⟨hiN,hnp⟩
     ·rw[hL'ne k hki] at hL; exact hin k hk hL
    have hgslot:∀t want,y.guard=some (t,want)->t∈y.reads:=fun t want h=>by simp[cQ.reads,h]
    have hopslot:∀t,t∈y.op.k9->t∈y.reads:=fun t h=>by simp[cQ.reads,h]
    unfold wpOpIn;rw[ho];simp only;rcases st i y hiN hy with ⟨hgd,hstep⟩|⟨t,want,hgt,hgv,hv0,hm0⟩
    ·rw[az (yO e1 s1 g5 fun t want h=>by rw[agree t (hgslot t want h)]; exact hgd t want h)]
     cases hAi:A0 i with
     |true =>
      obtain⟨y',o',V,B,n1,n2,n3,hEi,n6,n7,npan,hruns⟩:=hA i hiN hAi;rw[hy] at n1; cases n1;rw[ho] at n2; cases n2;have hag:∀t,t∈y.op.k9->ir (oI bt l vals (fun k=>listed.getD k false) l.length) t=ir (oI bt l vals (fun _=>true) i) t:=fun t ht=>agree t (hopslot t ht)
      have fin:∀q' G' G1 j1' p,FQ l.length mems E A0 (fun k=>(listed.setIfInBounds i true).getD k false) q' G'->Rel j1' G1 w1->Ext j1 G w1 j1' G1 w1->G1[p]?=some .vq->p=(mems i).length->G'=G1.set p B ->
        o.wpIn (Wd rd) nd P a1 w1 (wpAnyIn (Wd rd) nd P .any ops Q fuel (listed.setIfInBounds i true)) Q:=by
       intro q' G' G1 j1' p hG' hr1 hx1 hp hpe hGe;refine tD.wpIn (KP:=fun _ _=>False) (zn g1) (hruns hag hr1 ((hG.mono x1).mono hx1) (e1.mono hx1) hp ?_) fun u w' h=>h.elim
       rintro v w' ⟨j',p1,p2,p3⟩;rw[<-hGe] at p1 p2 p3;simp only at p1 p2 p3;refine ih (listed.setIfInBounds i true) _ _ (by simpa using hsz) left' down' (hin' (by rw[n6]; exact npan)) ⟨j',q',G',hG',p1,?_,x1.trans (hx1.trans p2),by rw[wZ]; exact s1,by rw[put_defers]; exact d1⟩
       refine cy.De ?_ newEnv;rw[g2,n6,<-hpe];exact(e1.mono (hx1.trans p2)).put s1 g4 p3
      rcases bH i q with hiq|hqi
      ·-- its place is there
       have hu:=gp.un i hiq hAi hLi;have hpi:=pref (i+1) q (by omega) hqN fun k h1 h2=>betw i hiq hEi hAi hLi k (by omega) h2
       have hat:(mems q)[(mems i).length]?=some B:=by
        obtain⟨t',ht'⟩:=hpi;rw[<-ht',n7,da,br (ar _)];simp
       refine fin q (G.set (mems i).length B) G j1 (mems i).length ⟨gp.qn,?_,fun k h1 h2 h3=>by simp only[hL'ne k (show k≠i by omega)]; exact gp.rest k h1 h2 h3,by simpa using gp.len,fun id=>?_,fun k h1 h2 h3=>?_⟩ r1 (Ext.refl _ _ _) hu rfl rfl
       ·refine gp.last.imp (fun h=>h) fun⟨p,h1,h2,h3⟩=>⟨p,h1,h2,?_⟩
        have hpi:p≠i:=by rintro rfl; simp only[hLi] at h3; cases h3
        simp only[hL'ne p hpi]; exact h3
       ·by_cases hid:(mems i).length=id
        ·subst hid;rw[dG (aF hu)];exact .inl hat.symm
        ·rw[cE hid];rcases gp.at' id with h|⟨h,k,h1,h2,h3,h4⟩
         ·exact .inl h
         ·have hki:k≠i:=by rintro rfl; exact hid h4
          refine .inr ⟨h,k,h1,h2,?_,h4⟩;simp only[hL'ne k hki]; exact h3
       ·have hki:k≠i:=by rintro rfl; simp only[hL'i] at h3; cases h3
        simp only[hL'ne k hki] at h3
        have hne:(mems i).length≠(mems k).length:=by
         rcases bH k i with h|h
         ·obtain⟨_,_,_,_,_,_,_,hEk,_,m7,_⟩:=hA k (by omega) h2
          have:=(pref (k+1) i (by omega) (by omega) fun m g1 g2=>betw k h1 hEk h2 h3 m (by omega) (by omega)).length_le
          rw[m7] at this;simp at this; omega
         ·have:=(pref (i+1) k (by omega) (by omega) fun m g1 g2=>betw i hiq hEi hAi hLi m (by omega) (by omega)).length_le
          rw[n7] at this;simp at this; omega
        rw[cE hne];exact gp.un k h1 h2 h3
      ·-- behind all that is made
       have allA:∀k,q<=k->k<i->E k=true->A0 k=true:=fun k h1 h2 h3=>by
        cases hAk:A0 k with
        |true=>rfl
        |false =>
         have:=gp.rest k h1 (by omega) h3
         simp only[rdy k (effA k i h2 h3 hEi (.inl hAk))] at this; cases this
       have hpi:=pref q i hqi (by omega) allA
       have hle:=hpi.length_le;have hln:=gp.len;have hsum:G.length+((mems i).length-(mems q).length)=(mems i).length:=by omega
       obtain⟨j1',hr1,hx1⟩:=AI r1 ((mems i).length-(mems q).length+1);have hgl:(G++List.replicate ((mems i).length-(mems q).length) cD.vq).length=(mems i).length:=by simp; omega
       have hG1:G++List.replicate ((mems i).length-(mems q).length+1) cD.vq=(G++List.replicate ((mems i).length-(mems q).length) cD.vq)++[cD.vq]:=by rw[nz,<-da]
       have hg1:(G++List.replicate ((mems i).length-(mems q).length+1) cD.vq)[(mems i).length]?=some .vq:=by
        rw[br (by omega),jI,az (by omega)]
       have hset:∀(A:aL)(m:Nat),A.length=m->A++[B]=(A++[cD.vq]).set m B:=fun A m h=>by subst h; simp
       have hg2:G++List.replicate ((mems i).length-(mems q).length) cD.vq++[B]=(G++List.replicate ((mems i).length-(mems q).length+1) cD.vq).set (mems i).length B:=by
        rw[hG1]; exact hset _ _ hgl
       refine fin (i+1) (G++List.replicate ((mems i).length-(mems q).length) cD.vq++[B]) _ j1' (mems i).length ⟨by omega,.inr ⟨i,rfl,hEi,hL'i⟩,fun k h1 h2 h3=>by simp only[hL'ne k (show k≠i by omega)]; exact gp.rest k (by omega) h2 h3,by rw[n7]; simp; omega,fun id=>?_,fun k h1 h2 h3=>?_⟩ hr1 hx1 hg1 rfl hg2
       ·rcases bH id G.length with h|h
        ·have e1:(G++List.replicate ((mems i).length-(mems q).length) cD.vq++[B])[id]?=G[id]?:=by
          rw[da,bl h]
         have e2:(mems (i+1))[id]?=(mems q)[id]?:=by
          obtain⟨t',ht'⟩:=hpi;rw[n7,<-ht',da,bl (by omega)]
         rw[e1,e2];rcases gp.at' id with h|⟨h,k,h1,h2,h3,h4⟩
         ·exact .inl h
         ·exact .inr ⟨h,k,by omega,h2,by simp only[hL'ne k (show k≠i by omega)]; exact h3,h4⟩
        ·rcases bH id (mems i).length with h'|h'
         ·refine .inr ⟨?_,?_⟩
          ·rw[bl (by simp; omega),br h,jI,az (by omega)]
          ·obtain⟨k,k1,k2,k3,k4⟩:=Xb q i hqi (by omega) allA id (by omega) h'
           exact⟨k,by omega,k3,by simp only[hL'ne k (show k≠i by omega)]; exact gp.rest k k1 (by omega) (hAE k (by omega) k3),k4⟩
         ·left;rw[n7,br (by simp; omega),br h']
          congr 1;simp; omega
       ·have hki:k≠i:=by rintro rfl; simp only[hL'i] at h3; cases h3
        simp only[hL'ne k hki] at h3;rcases bH k q with h|h
        ·have hu:=gp.un k h h2 h3;rw[da,bl (aF hu)];exact hu
        ·obtain⟨_,_,_,_,_,_,_,hEk,_,m7,_⟩:=hA k (by omega) h2
         have b1:=(pref (k+1) i (by omega) (by omega) fun m g1 g2=>allA m (by omega) g2).length_le
         have b2:=(pref q k h (by omega) fun m g1 g2=>allA m g1 (by omega)).length_le
         rw[m7] at b1;simp at b1;rw[bl (by simp; omega),br (by omega),jI,az (by omega)]
     |false =>
     have hex:∃q' G',dZ C (oI bt l vals (fun k=>listed.getD k false) l.length) G y.op=some (vals i,G')/\FQ l.length mems E A0 (fun k=>(listed.setIfInBounds i true).getD k false) q' G'/\(y.lets=true->G'=mems (i+1)):=by
      have pan0:E i=false->y.lets=true->G=mems (i+1):=by
       intro hEi cu
       have hqi:q<=i:=by
        rcases gp.last with h|⟨p,hp1,hp2,hp3⟩
        ·omega
        ·have hqn:=gp.qn;rcases bH i p with h|h
         ·rw[inL i p (by omega) ((od.stop p i y hy cu (by omega)).1 h) hp3] at hLi; cases hLi
         ·by_cases hip:i=p
          ·subst hip; simp only[hLi] at hp3; cases hp3
          ·omega
       have done:∀k,k<i->E k=true->listed.getD k false=true:=fun k hk hEk=>by
        obtain⟨x',hx',hE'⟩:=hEs hEk;rcases(od.stop k i y hy cu (by omega)).2 hk with h4|h4
        ·exact rdy k h4
        ·have:=h4 x' hx';simp[cQ.tM,this] at hE'
       rw[stays i hiN hEi,gp.full fun k hk hAk=>done k (by omega) (hAE k (by omega) hAk)]
       refine(same q i hqi (by omega) fun k h1 h2=>?_).symm
       cases hEk:E k with
       |false=>rfl
       |true =>
        have:=gp.rest k h1 (by omega) hEk
        simp only[done k h2 hEk] at this; cases this
      obtain⟨q1,q2⟩:=DU (C:=C) (M:=G) (op:=y.op) fun t ht=>agree t (hopslot t ht)
      rw[q1];rcases rF hstep with ⟨hn,hids,h1⟩|⟨hn,hgr,h1⟩|⟨hn,hgr,hp,h1⟩
      ·have hEi:E i=false:=by rw[hE hy]; simp[cQ.tM,hn]
       exact⟨q,G,(G5 (od.alone i y hy hn) h1 hids).2 _,gC hEi,pan0 hEi⟩
      all_goals
       cases hEo:y.op.OX with
       |true =>
        have hEi:E i=true:=by rw[hE hy]; simp[cQ.tM,hn,hEo]
        obtain⟨k1,k2⟩:=gB hEi hAi;exact⟨i+1,mems (i+1),by rw[k1]; exact h1,k2,fun _=>rfl⟩
       |false =>
        have hEi:E i=false:=by rw[hE hy]; simp[cQ.tM,hEo]
        refine⟨q,G,?_,gC hEi,pan0 hEi⟩;cases hlo:y.op.OY with
        |false=>exact(Ms hEo hlo h1).2 _
        |true =>
         -- a load: the memory of the moment and that of the text agree at its box
         have hz:∃z,(y.op = .jv z\/(∃n,y.op = .nD n z)\/∃fk zr ok k,y.op = .look fk zr ok z k)/\∀t,t∈z.k9->t∈y.op.k9:=by
          generalize y.op=op at hlo;cases op<;>simp only[kI.OY,af] at hlo
          case nD n z=>exact⟨z,.inr (.inl ⟨n,rfl⟩),fun t h=>h⟩
          case look fk zr ok z k=>exact⟨z,.inr (.inr ⟨fk,zr,ok,k,rfl⟩),fun t h=>by simp[kI.k9,h]⟩
          case jv z=>exact⟨z,.inl rfl,fun t h=>h⟩
         obtain⟨z,hz1,hz2⟩:=hz
         have hrep:∃v,fY j1 G w1 (z.ev (oI bt l vals (fun _=>true) i)) v:=by
          rw[<-cG (x:=z) fun t ht=>agree t (hopslot t (hz2 t ht))]
          cases z with
          |tmp t=>exact⟨_,e1.at' t⟩
          |ll c =>
           have:=od.opl i y hy;rcases hz1 with hz1|⟨n,hz1⟩|⟨_,_,_,_,hz1⟩<;>(rw[hz1] at this; cases this)
         obtain⟨v,hv⟩:=hrep
         have hsame:∀id b,id∈(z.ev (oI bt l vals (fun _=>true) i)).ia->id<G.length->nth (mems i) id=some b->nth G id=some b:=by
          intro id bx hidz hidl hbx;have hq3:=gp.rest;have hq4:=gp.last;have hqn:=gp.qn;rw[gp.len] at hidl
          have hG0:nth G id=nth (mems q) id:=by
           rw[eN,eN];rcases gp.at' id with h|⟨h,_⟩
           ·exact h
           ·exact absurd h (hv.acX hidz)
          rw[hG0];have hni:E i=false:=by rw[hE hy]; simp[cQ.tM,hEo]
          by_cases hqi:q<=i
          ·refine IH (.inr (vH i hqi fun k h2 h3=>?_)) hidl hbx
           cases hEk:E k with
           |false=>rw[stays k (by omega) hEk]; exact ig _
           |true =>
            obtain⟨y',hz1',hz2'⟩:=hEs hEk
            have hunl:¬listed.getD k false=true:=by
             have h5:=hq3 k h2 (by omega) hEk
             rw[h5]; simp
            cases hzg:y'.grow with
            |false=>exact absurd (rdy k ((od.XT k i y' y hz1' hz2' hzg hy hlo).2 h3)) hunl
            |true =>
             rcases grows k y' (by omega) hz1' hz2' hzg with hg'|⟨hsp,_⟩
             ·exact hg'
             ·exact absurd (rdy k ((od.sep k i y' y hz1' hsp hy hlo).1 h3)) hunl
          ·have chain:∀n,i<=n->n<=q->nth (mems n) id=some bx:=by
            intro n;induction n with
            |zero=>intro h0 _; rw[show 0=i by omega]; exact hbx
            |succ n ihn =>
             intro h0 h0'
             by_cases he:i=n+1
             ·rw[<-he]; exact hbx
             ·have hb':=ihn (by omega) (by omega)
              cases hEk:E n with
              |false=>rw[stays n (by omega) hEk]; exact hb'
              |true =>
               obtain⟨y',hz1',hz2'⟩:=hEs hEk;cases hAn:A0 n with
               |true =>
                obtain⟨_,_,_,_,_,_,_,_,_,m7,_⟩:=hA n (by omega) hAn
                rw[eN] at hb' ⊢;rw[m7,bl (aF hb')];exact hb'
               |false =>
               have hkni:n≠i:=by rintro rfl; rw[hEk] at hni; cases hni
               have hdone:listed.getD n false=true:=by
                rcases hq4 with h0|⟨p,hp1,hp2,hp3⟩
                ·omega
                ·by_cases hkp:n=p
                 ·subst hkp; exact hp3
                 ·exact inL n p (by omega) (effA n p (by omega) hEk hp2 (.inl hAn)) hp3
               have hnol:ahead (qQ ops.toList) i n=true->False:=fun ha=>by
                have:=nol n (by omega) ha
                rw[this] at hdone; cases hdone
               cases hzg:y'.grow with
               |false=>exact absurd ((od.XT n i y' y hz1' hz2' hzg hy hlo).1 (by omega)) hnol
               |true =>
                rcases grows n y' (by omega) hz1' hz2' hzg with hg'|⟨hsp,hsa⟩
                ·obtain⟨t,ht⟩:=hg';rw[eN] at hb' ⊢;rw[<-ht,bl (aF hb')];exact hb'
                ·rcases(od.sep n i y' y hz1' hsp hy hlo).2 (by omega) with ha|⟨zs,hzs,hmem,hnw⟩
                 ·exact(hnol ha).elim
                 ·have hslot:z = .tmp zs:=by
                   rcases hz1 with hz1|⟨m,hz1⟩|⟨_,_,_,_,hz1⟩<;>(rw[hz1] at hzs; cases z<;>simp[kI.MA] at hzs; rw[hzs])
                  subst hslot
                  have hsame0:ir (oI bt l vals (fun _=>true) n) zs=ir (oI bt l vals (fun _=>true) i) zs:=by
                   refine uR n (by omega) fun p hp1 hp2=>?_
                   rintro⟨⟨x',hx',hdx⟩,_⟩;have:=bw.1 hnw p (fA.2 hp2);rw[eN,hx'] at this;simp[hdx,Nat.not_lt.2 hp1] at this
                  have hat:∀ {sl:List Nat},yH (oI bt l vals (fun _=>true) n) (mems n) (mems (n+1)) sl->zs∈sl->nth (mems (n+1)) id=nth (mems n) id:=by
                   intro sl;induction sl with
                   |nil=>intro _ h; cases h
                   |cons z0 r0 ih0 =>
                    intro hs hm;rcases bc.1 hm with rfl|hm
                    ·have h6:=hs.1;rw[hsame0] at h6;simp only[gQ.ev] at hidz;split at h6
                     ·rename_i id' off' he';rw[he'] at hidz;simp[ag.ia] at hidz;subst hidz;exact h6
                     ·exact h6.elim
                    ·exact ih0 hs.2 hm
                  rw[hat hsa hmem]; exact hb'
           exact chain q (by omega) (ar _)
         exact(Ih hlo h1).2 z hsame hz1 hv
     obtain⟨q',G',haop,hG',hpan⟩:=hex;refine tD.wpIn (KP:=fun u w'=>GS j1 G w1 (vals i,G') u w') (zn g1) (Df hC g1 haop r1 (hG.mono x1) e1 ?_ fun u w' h=>h) ?_
     ·rintro v w' ⟨j',p1,p2,p3⟩
      have hnp:(vals i).jU=false:=by
       cases hvi:vals i<;>first|rfl|(rw[hvi] at p3; exact p3.KE.elim)
      refine ih (listed.setIfInBounds i true) _ w' (by simpa using hsz) left' down' (hin' hnp) ⟨j',q',G',hG',p1,?_,x1.trans p2,by rw[wZ]; exact s1,by rw[put_defers]; exact d1⟩
      refine cy.De ?_ newEnv;rw[g2];exact(e1.mono p2).put s1 g4 p3
     ·rintro u w' ⟨hu,j',p1,p2⟩;simp only at hu;rcases hxe with ⟨n1,n2,_⟩|⟨n,y',v,n1,n2,n3,n4,n5,n6⟩
      ·have:=n2 i hiN; rw[hu] at this; cases this
      ·have hin0:i=n:=by
        rcases bH i n with h|h
        ·have:=n5 i h; rw[hu] at this; cases this
        ·omega
       subst hin0;rw[hy] at n2; cases n2;rw[hu] at n4; cases n4;have hmem:G'=mems N:=by rw[hpan n3,n1]
       rw[hmem] at p1 p2;rw[n6] at hQ;exact hQ a1 w' j' p1 (e1.nil p2) (x1.trans p2) s1 d1
    ·rw[ak (by rw[Fp e1 s1 g5 hgt (by rw[agree t (hgslot t want hgt)]; exact hgv)]; simp)]
     have hmem:∃q',FQ l.length mems E A0 (fun k=>(listed.setIfInBounds i true).getD k false) q' G:=by
      cases hEi:E i with
      |true =>
       have hAi:A0 i=false:=by
        cases hAi:A0 i with
        |false=>rfl
        |true =>
         obtain⟨y',_,_,_,n1,_,n5,_⟩:=hA i hiN hAi;rw[hy] at n1; cases n1;rw[n5] at hgt; cases hgt
       obtain⟨k1,k2⟩:=gB hEi hAi;rw[hm0,<-k1] at k2;exact⟨_,k2⟩
      |false=>exact⟨_,gC hEi⟩
     obtain⟨q',hG'⟩:=hmem;refine⟨fun _ _=>trivial,?_⟩
     refine ih (listed.setIfInBounds i true) _ w1 (by simpa using hsz) left' down' (hin' (by rw[hv0]; rfl)) ⟨j1,q',G,hG',r1,?_,x1,by rw[wZ]; exact s1,by rw[put_defers]; exact d1⟩
     refine cy.De ?_ newEnv;rw[g2,hv0];exact e1.put s1 g4 (.tuple (vs := #[]) rfl fun i c v h=>by simp at h)
 have q:Quiet w { w with drawn:=w.drawn+1 }:=⟨ar _,rfl,rfl,rfl⟩
 have hrep:∀k,(Array.replicate ops.size false).getD k false=false:=fun k=>by
  simp only[cW,Array.getElem?_replicate];split<;>rfl
 have hleft:left (fun k=>(Array.replicate ops.size false).getD k false) l.length=ops.size:=by
  have:∀n,left (fun k=>(Array.replicate ops.size false).getD k false) n=n:=by
   intro n;induction n with
   |zero=>rfl
   |succ n ihn=>rw[left,ihn,hrep n]; rfl
  rw[this,eY]
 refine key ops.size _ a _ (by simp) hleft (fun k o e _ hL=>by rw[show(fun k=>(Array.replicate ops.size false).getD k false) k=false from hrep k] at hL; cases hL) (fun k _ hL=>by rw[hrep k] at hL; cases hL) ⟨j,0,M,⟨cA _,.inl rfl,fun k _ _ _=>hrep k,by rw[m0],fun id => .inl (by rw[m0]),fun k h=>by omega⟩,?_,?_,?_,hs,rfl⟩
 ·exact hr.grow q.size rfl rfl rfl fun _ _=>rfl
 ·refine cy.De (cy.mono he (Ext.grow q.size rfl rfl rfl fun _ _=>rfl)) fun t=>?_
  exact uR (i:=0) l.length (cA _) fun k _ _ hc=>by have h2:=hc.2; rw[hrep k] at h2; cases h2
 ·exact Ext.grow q.size rfl rfl rfl fun _ _=>rfl
end
def IJ{F:Fence}{nd:Nat}{P:Program}{c:Code}{Q Q':Exit->Act->World->Prop}{n:Nat}{a:Act}{w:World}(h:Code.roundsIn F nd P c Q n a w)(hq:∀e a w,Q e a w->Q' e a w):Code.roundsIn F nd P c Q' n a w:=by
 induction n generalizing a w with
 |zero=>exact h
 |succ n ih =>
  refine wpIn_mono h fun e a' w' h'=>?_
  cases e<;>simp[Exit.then] at h' ⊢ <;> first|exact ih h'|exact hq _ _ _ h'
theorem oL{bN:Nat}{M:aL}(hb:bN<=M.length):(jS bN M).length=bN:=by grind [jS]
theorem kM{bN:Nat}{M:aL}{i:Nat}(hi:i<bN):(jS bN M)[i]?=(M[i]?).map (cD.back bN M):=by
 grind [jS]
theorem Pr(bN:Nat)(M:aL)(b:cD):(b.back bN M).tag=b.tag:=by cases b<;>rfl
def JE(bN:Nat)(M:aL)(b:cD):(b.back bN M).fixed=b.fixed:=by cases b<;>rfl
def JG{bN:Nat}{M:aL}{b:cD}(h:b.loose=true):b.back bN M=b:=by cases b<;>first|rfl|cases h
section
variable {bN:Nat} {M:aL} {j:J} {w:World} (hb:bN<=M.length)
include hb
def wA{b off:Nat}(h:nV j M w b off):nV j (jS bN M) w b off:=by
 refine⟨h.lt,fun id hid hj=>?_,h.nx⟩
 rw[oL hb] at hid;obtain⟨sz,n,h1,h2⟩:=h.ids _ (by omega) hj
 exact⟨sz,n,by rw[kM hid,h1]; rfl,h2⟩
def mb:∀b off,nV j M w b off->nV j (jS bN M) w b off/\w.cell? ⟨b,off,none⟩=w.cell? ⟨b,off,none⟩:=fun b off hs=>⟨wA hb hs,rfl⟩
def Ll{id:Nat}(cu:id<bN)(hM:∀bx,M[id]?=some bx->bx.loose=true):(jS bN M)[id]?=M[id]?:=by
 have h0:=aj (show id<M.length by omega)
 rw[kM cu,h0,cB,JG (hM _ h0)]
variable (hr:Rel j M w)
include hr
theorem zN{x:ag}{v:Value}(h:fY j M w x v):fY j (jS bN M) w (x.js bN M) v:=by
 cases h with
 |plain h =>
  have:x.js bN M=x:=by cases h<;>rfl
  rw[this];exact .plain (h.mono (mb hb))
 |c0 A=>exact .c0 A
 | @own k xs v sz n hk hn hp ht =>
  simp only[ag.js];split
  ·rename_i cu;exact .own (sz:=sz) (n:=n) (by rw[kM cu,hk]; rfl) hn (hp.mono (mb hb)) ht
  ·exact .plain (hp.mono (mb hb))
 |agg=>exact .any _
 |tuple=>exact .any _
 | @ptr id off b hid hc hj =>
  simp only[ag.js];split
  ·rename_i cu;obtain⟨cs,hc⟩:=hc;exact .ptr (by rw[oL hb]; omega) ⟨_,by rw[kM cu,hc]; rfl⟩ hj
  ·exact .any _
 |jg h=>exact .jg fun k c hk=>⟨(h k c hk).1,wA hb (h k c hk).2.1,(h k c hk).2.2.mono (mb hb)⟩
 |func=>exact .any _
 | @gH id b hc hj =>
  simp only[ag.js];split
  ·rename_i cu;obtain⟨ks,vs,hc⟩:=hc;exact .gH ⟨_,_,by rw[kM cu,hc]; rfl⟩ hj
  ·exact .any _
 | @jA id b hc hj =>
  simp only[ag.js];split
  ·rename_i cu;obtain⟨ks,vs,hc⟩:=hc;exact .jA ⟨_,_,by rw[kM cu,hc]; rfl⟩ hj
  ·exact .any _
 |iG cu hf hx hw hk hv hks hvs =>
  exact .iG cu (fun i hi=>hf i (by rw[oL hb] at hi; omega)) hx hw hk hv (fun i k e h1 h2=>(hks i k e h1 h2).mono (mb hb)) (fun i k e h1 h2=>(hvs i k e h1 h2).mono (mb hb))
 | @jO t id off b hc hj =>
  simp only[ag.js];split
  ·rename_i cu;obtain⟨cs,hc⟩:=hc;exact .jO ⟨_,by rw[kM cu,hc]; rfl⟩ hj
  ·exact .any _
 |sb hl hd=>exact .sb hl fun i c v h1 h2=>(hd i c v h1 h2).mono (mb hb)
 | @dk id ver sz0 lo hi v h0 hid hM hv =>
  simp only[ag.js];split
  ·rename_i cu;have e:=Ll hb cu hM;exact .dk h0 (by rw[oL hb]; omega) (fun bx hbx=>hM bx (e▸hbx)) fun sz v' xs h=>hv sz v' xs (e▸h)
  ·rename_i hge;split
   ·rename_i sz v' xs hMi;split
    ·rename_i he;subst he;obtain⟨_,k2⟩:=hv sz v' xs hMi;obtain⟨rfl,l1,l2,⟨rfl,_,A,rfl⟩|⟨b,cap,vs,t,l3,rfl,l5,l6,l7⟩⟩:=k2 rfl
     ·simp only[List.take_nil,List.drop_nil];exact .plain (fI.nil _ _ _)
     obtain⟨b',vs',t',g1,g2,g3,g4,g5⟩:=hr.yf hMi l3;rw[l3] at g1; cases g1;refine .plain (xj g2 g4 g5 (fun b off h=>wA hb h) (fun off _=>⟨hr.lt id b hid l3,fun id' hid' hj'=>?_,hr.uG id b hid l3 off⟩) l1 l2 l5)
     rw[oL hb] at hid';have:=hr.inj id' id b (by omega) hid hj' l3
     omega
    ·exact .any _
   ·exact .any _
 | @iu id ver i off v h0 hid hM hv =>
  simp only[ag.js];split
  ·rename_i cu;have e:=Ll hb cu hM;exact .iu h0 (by rw[oL hb]; omega) (fun bx hbx=>hM bx (e▸hbx)) fun sz v' xs h=>hv sz v' xs (e▸h)
  ·exact .any _
 |any v=>exact .any v
theorem ja{x:ag}{v:Value}(h:fY j M w x v):fY j (jS bN M) w (x.jC bN M) v:=by
 by_cases hag:∃f cs,x = .func f cs
 ·obtain⟨f,caps,rfl⟩:=hag;obtain⟨vs,rfl,hl,hc⟩:=h.sn;refine .func (by grind) fun i c u hi hu=>?_
  rw[aZ,aO] at hi;obtain⟨c0,hc0,rfl⟩:=hi
  grind [zN]
 ·have e1:x.jC bN M=x.js bN M:=by cases x<;>first|rfl|grind
  grind [zN]
theorem zO{x:ag}{v:Value}(h:fY j M w x v):fY j (jS bN M) w (x.jR bN M) v:=by
 by_cases hag:∃cs,x = .agg cs
 ·obtain⟨cs,rfl⟩:=hag;obtain⟨vs,rfl,hl,hc⟩:=h.mc;refine .agg (by grind) fun i c u hi hu=>?_
  grind [ja]
 ·have e1:x.jR bN M=x.jC bN M:=by cases x<;>first|rfl|grind
  grind [ja]
theorem MX{x:ag}{v:Value}(h:fY j M w x v):fY j (jS bN M) w (x.nW bN M) v:=by
 by_cases hag:∃cs,x = .tuple cs
 ·obtain⟨cs,rfl⟩:=hag;obtain⟨vs,rfl,hl,hc⟩:=h.tx;refine .tuple (by grind) fun i c u hi hu=>?_
  grind [zO]
 ·have e1:x.nW bN M=x.jR bN M:=by cases x<;>first|rfl|grind
  grind [zO]
theorem MW{bt:Env}{a:Act}(h:cy j M w bt a):cy j (jS bN M) w (vP bN M bt) a:=by
 refine⟨fun t=>?_,h.gl.hU fun b off hs=>wA hb hs⟩
 have:ir (vP bN M bt) t=(ir bt t).nW bN M:=by
  clear h hr hb;induction bt with
  |nil=>rfl
  |cons p r ih =>
   grind [vP,ir]
 rw[this];exact MX hb hr (h.at' t)
theorem Ci{x:ag}{v:Value}(h:fY j M w x v):fY j (jS bN M) w (x.jW bN M) v:=by
 cases x with
 |slice tk xs=>exact .plain (h.dH.mono (mb hb))
 |gH id =>
  simp only[ag.jW];split
  ·have:=zN hb hr h;simp_all [ag.js]
  ·split
   ·rename_i ks vs hM;split
    ·rename_i hp;simp only[bn,bw] at hp;obtain⟨b,_,hj,rfl⟩:=h.u9;obtain⟨b',hj',es,clock,g1,g2,g3,g4,g5⟩:=hr.fix id _ hM rfl;have:b'=b:=by grind
     subst this;have hid  := aF hM
     exact .iG (hr.lt id _ hid hj) (fun i hi he=>by
      rw[oL hb] at hi;have:=hr.inj i id _ (by omega) hid he hj
      omega) (hr.uG id _ hid hj) g1 g2 g3 (fun i k e h1 h2=>(g4 i k e h1 h2).mono (mb hb))
      fun i u e h1 h2=>(BC.wX (g5 i u e h1 h2) (hp.1 u (aR h1))).mono (mb hb)
    ·exact .any _
   ·exact .any _
 |func f caps=>exact ja hb hr h
 |agg cs=>exact ja hb hr h
 |tuple cs=>exact ja hb hr h
 |bool b=>exact ja hb hr h
 |int k n=>exact ja hb hr h
 |str s=>exact ja hb hr h
 |ptr id off=>exact ja hb hr h
 |jg cs=>exact ja hb hr h
 |jA id=>exact ja hb hr h
 |dk id v sz lo hi=>exact ja hb hr h
 |iu id v i off=>exact ja hb hr h
 |sb f fs=>exact ja hb hr h
 |jO t id off=>exact ja hb hr h
 |iG ks vs=>exact ja hb hr h
 |raw v=>exact ja hb hr h
 |oC v=>exact h.KE.elim
 |any=>exact .any _
theorem Cj{x:ag}{v:Value}(h:fY j M w x v):fY j (jS bN M) w (x.kc bN M) v:=by
 by_cases hag:∃cs,x = .agg cs
 ·obtain⟨cs,rfl⟩:=hag;obtain⟨vs,rfl,hl,hc⟩:=h.mc;refine .agg (by grind) fun i c u hi hu=>?_
  grind [Ci]
 ·have e1:x.kc bN M=x.jW bN M:=by cases x<;>first|rfl|grind
  grind [Ci]
theorem DX{x:ag}{v:Value}(h:fY j M w x v):fY j (jS bN M) w (x.ml bN M) v:=by
 by_cases hag:∃cs,x = .tuple cs
 ·obtain⟨cs,rfl⟩:=hag;obtain⟨vs,rfl,hl,hc⟩:=h.tx;refine .tuple (by grind) fun i c u hi hu=>?_
  grind [Cj]
 ·have e1:x.ml bN M=x.kc bN M:=by cases x<;>first|rfl|grind
  grind [Cj]
theorem JF{b:Nat}{bx:cD}(h:Holds j M w b bx):Holds j (jS bN M) w b (bx.back bN M):=by
 cases bx with
 |cells cs =>
  obtain⟨vs,t,h1,h2,h3⟩:=h;refine⟨vs,t,h1,by grind,fun q c v hc hv=>?_⟩
  grind [ja]
 |tick=>trivial
 |map ks vs =>
  obtain⟨es,clock,h1,h2,h3,h4,h5⟩:=h;refine⟨es,clock,h1,h2,by grind,fun i k e hk he=>(h4 i k e hk he).mono (mb hb),fun i k e hk he=>?_⟩
  grind [zO]
 |nG s pos=>exact h
 |vq=>trivial
 |arr=>trivial
theorem yX:Rel j (jS bN M) w:=by
 have ln:=oL hb;refine⟨fun i i' b hi hi'=>hr.inj i i' b (by omega) (by omega),fun i b hi=>hr.lt i b (by omega),fun i bx h hf=>?_,fun i sz n b h hj=>?_,fun i sz ver xs h=>?_,fun i b hi=>hr.uG i b (by omega),hr.zK⟩
 ·have hi:i<bN:=by grind
  rw[kM hi,aO] at h;obtain⟨bx0,h1,rfl⟩:=h;obtain⟨b,g1,g2⟩:=hr.fix i bx0 h1 (by rw[<-JE bN M]; omega)
  grind [JF]
 ·have hi:i<bN:=by rw[<-ln]; grind
  rw[kM hi,aO] at h;obtain⟨bx,h1,h2⟩:=h;cases bx with
  |tick sz0 n0=>exact hr.tick i sz0 n0 b h1 hj
  |cells cs=>cases h2
  |map ks vs=>cases h2
  |nG s p=>cases h2
  |vq=>cases h2
  |arr sz v xs=>cases h2
 ·have hi:i<bN:=by rw[<-ln]; grind
  rw[kM hi,aO] at h;obtain⟨bx,h1,h2⟩:=h;cases bx with
  |arr sz0 v0 xs0 =>
   injection h2 with e1 e2 e3
   subst e1; subst e2; subst e3;obtain⟨g0,g1⟩|⟨b,vs,t,g1,g2,g3,g4,g5⟩:=hr.arr i _ _ _ h1
   ·grind
   exact .inr ⟨b,vs,t,g1,g2,g3,g4,fun q x k c hx hk=>(g5 q x k c hx hk).imp fun u hu=>⟨hu.1,hu.2.mono (mb hb)⟩⟩
  |cells cs=>cases h2
  |map ks vs=>cases h2
  |nG s p=>cases h2
  |vq=>cases h2
  |tick sz n=>cases h2
omit hr in
theorem wz{j0:J}{M0:aL}{w0:World}(h0:M0.length<=bN)(hx:Ext j0 M0 w0 j M w):Ext j0 M0 w0 j (jS bN M) w where
 len:=by rw[oL hb]; omega
 size:=hx.size
 os:=hx.os
 tape:=hx.tape
 output:=hx.output
 X:=hx.X
 fix:=fun i bx h hf=>by
  obtain⟨h1,bx',h2,h3⟩:=hx.fix i bx h hf
  grind [aF,kM,Pr,trans]
 tick:=fun i sz n h=>by
  obtain⟨n',h1,h2,h3⟩:=hx.tick i sz n h;have hi:i<bN:=by grind
  exact⟨n',h1,by rw[kM hi,h2]; rfl,h3⟩
 arr:=fun i sz v xs h=>by
  have hi:i<bN:=by grind
  rcases hx.arr i sz v xs h with ⟨n',g⟩|⟨v',xs',g1,g2⟩
  ·exact .inl ⟨n',by rw[kM hi,g]; rfl⟩
  ·exact .inr ⟨v',xs',by rw[kM hi,g1]; rfl,g2⟩
 tags:=hx.tags
 hU:=fun b off h=>⟨wA hb (hx.hU b off h).1,(hx.hU b off h).2⟩
 ur:=fun b cu h=>⟨(hx.ur b cu h).1,fun i hi=>(hx.ur b cu h).2 i (by rw[oL hb] at hi; omega)⟩
end
def UO(A:B5)(j:J)(M:aL)(w:World)(a:Act)(o:Out):Exit->Act->World->Prop:=fun e a' w' =>
 e=rN o.e/\a'.tmps.size=A.n/\a'.defers=a.defers/\∃j',Rel j' o.mem w'/\cy j' o.mem w' o.bt a'/\Ext j M w j' o.mem w'
theorem AG{A:B5}{j:J}{M:aL}{w:World}{a:Act}{o:Out}{live:List Nat}{a':Act}{w':World}{j':J}(h1:Rel j' o.mem w')(h2:cy j' o.mem w' o.bt a')(h3:Ext j M w j' o.mem w')(h4:a'.tmps.size=A.n)
  (h5:a'.defers=a.defers):UO A j M w a (o.ri live) (rN o.e) a' w':=by
 obtain⟨e,bt,M'⟩:=o;cases e
 case normal=>exact⟨rfl,h4,h5,j',h1,h2.ri _,h3⟩
 all_goals exact⟨rfl,h4,h5,j',h1,h2,h3⟩
section
variable {P:Program} {C:eO} {A:B5}
theorem mP(hmix:P.follows .mixedOrders=true)(hC:pj P C){rd:Option Nat}{nd:Nat}:∀(c:Code){ac:cz},comp P A c=some ac->∀ {bt:Env} {M:aL} {o:Out},fm C ac bt M=some o->∀ {j:J} {w:World} {a:Act},Rel j M w->sE j M w->cy j M w bt a ->
  a.tmps.size=A.n->c.wpIn (Wd rd) nd P (UO A j M w a o) a w
 | .skip,ac,hc,bt,M,o,h,j,w,a,hr,hG,he,hs=>by
  simp only[comp] at hc; cases hc;simp only[fm] at h; cases h;exact wpIn_skip ⟨rfl,hs,rfl,j,hr,he,Ext.refl j M w⟩
 | .exit id,ac,hc,bt,M,o,h,j,w,a,hr,hG,he,hs=>by
  simp only[comp] at hc; cases hc;simp only[fm] at h; cases h;exact wpIn_exit ⟨rfl,hs,rfl,j,hr,he,Ext.refl j M w⟩
 | .ret,ac,hc,bt,M,o,h,j,w,a,hr,hG,he,hs=>by
  simp only[comp] at hc; cases hc;simp only[fm] at h; cases h;exact wpIn_ret ⟨rfl,hs,rfl,j,hr,he,Ext.refl j M w⟩
 | .region id ops draw,ac,hc,bt,M,o,h,j,w,a,hr,hG,he,hs=>by
  simp only[comp] at hc;cases draw with
  |true =>
   simp only[aE] at hc;obtain⟨l0,hl0,hc⟩:=ba hc;obtain⟨l,hl,hc⟩:=ba hc;cases hc;simp only[fm] at h;obtain⟨x,hx,h⟩:=bo h
   grind [II,AG]
  |false =>
   simp only[af,aw] at hc;obtain⟨l,hl,hc⟩:=ba hc;cases hc;simp only[fm] at h;obtain⟨x,hx,h⟩:=bo h;cases h;refine wpIn_region ?_;rw[ny];exact xC hC (grow:=[]) ops.toList 0 (by rfl) hl hx hr hG he hs fun a' w' j' h1 h2 h3 h4 h5=>AG h1 h2 h3 h4 h5
 | .seq x y,ac,hc,bt,M,o,h,j,w,a,hr,hG,he,hs=>by
  simp only[comp] at hc;obtain⟨ax,hx,hc⟩:=ba hc;obtain⟨ay,hy,hc⟩:=ba hc;cases hc;simp only[fm] at h;obtain⟨o1,h1,h⟩:=bo h;refine wpIn_seq (wpIn_mono (mP hmix hC x hx h1 hr hG he hs) ?_);rintro e a1 w1 ⟨he1,hs1,hd1,j1,r1,e1,x1⟩;rcases tJ h with ⟨hn,h2⟩|⟨hn,h2⟩
  ·rw[hn] at he1;subst he1;refine wpIn_mono (mP hmix hC y hy h2 r1 (hG.mono x1) e1 hs1) ?_;rintro e a2 w2 ⟨he2,hs2,hd2,j2,r2,e2,x2⟩;exact⟨he2,hs2,hd2.trans hd1,j2,r2,e2,x1.trans x2⟩
  ·subst h2;have:rN o.e ≠ .normal:=by cases ho:o.e<;>simp_all [rN]
   subst he1
   cases hx:rN o.e<;>first
    |exact absurd hx this
    |(simp only[Exit.then]; exact⟨hx.symm,hs1,hd1,j1,r1,e1,x1⟩)
 | .cond c x y,ac,hc,bt,M,o,h,j,w,a,hr,hG,he,hs=>by
  simp only[comp] at hc;obtain⟨cc,hcc,hc⟩:=ba hc;obtain⟨ax,hx,hc⟩:=ba hc;obtain⟨ay,hy,hc⟩:=ba hc;cases hc;simp only[fm] at h;have h1:=cH he hcc;split at h
  ·rename_i t ht;rw[ht] at h1;rcases kQ h with ⟨rfl,h⟩|⟨rfl,h⟩
   ·exact wpIn_cond_true h1.jb (mP hmix hC x hx h hr hG he hs)
   ·exact wpIn_cond_false h1.jb (mP hmix hC y hy h hr hG he hs)
  grind
 | .block id c,ac,hc,bt,M,o,h,j,w,a,hr,hG,he,hs=>by
  simp only[comp] at hc;obtain⟨ax,hx,hc⟩:=ba hc;cases hc;simp only[fm] at h;obtain⟨o1,h1,h⟩:=bo h;cases h;refine wpIn_block (wpIn_mono (mP hmix hC c hx h1 hr hG he hs) ?_);rintro e a1 w1 ⟨he1,hs1,hd1,j1,r1,e1,x1⟩;subst he1;cases ho:o1.e with
  |normal=>simp only[rN,Exit.inBlock]; refine⟨?_,hs1,hd1,j1,?_⟩<;>simp[zq,ho,rN,r1,e1,x1]
  |ret=>simp only[rN,Exit.inBlock]; refine⟨?_,hs1,hd1,j1,?_⟩<;>simp[zq,ho,rN,r1,e1,x1]
  |oC v=>simp only[rN,Exit.inBlock]; refine⟨?_,hs1,hd1,j1,?_⟩<;>simp[zq,ho,rN,r1,e1,x1]
  |exit i =>
   simp only[rN,Exit.inBlock]
   by_cases hi:i=id
   ·rw[az hi]; refine⟨?_,hs1,hd1,j1,?_⟩<;>simp[zq,ho,rN,hi,r1,e1,x1]
   ·rw[ak hi]; refine⟨?_,hs1,hd1,j1,?_⟩<;>simp[zq,ho,rN,hi,r1,e1,x1]
 | .loop c,ac,hc,bt,M,o,h,j,w,a,hr,hG,he,hs=>by
  simp only[comp] at hc;obtain⟨ax,hx,hc⟩:=ba hc;injection hc with hc
  obtain⟨g,hg,n,hn⟩:∃g:Nat->Nat->Nat,(∀p q,p<=q->p<=g p q/\g p q<=q)/\∃n,iter g (fm C ax) (find A.lp (lq c)) n bt M=some o:=by
   unfold L9 at hc;split at hc<;>subst hc<;>simp only[fm] at h<;>obtain⟨n,hn⟩:=uC h
   ·exact⟨gR,fun p q h=>⟨h,ar _⟩,n,hn⟩
   ·exact⟨gL,fun p q h=>⟨ar _,h⟩,n,hn⟩
  refine wpIn_loop_rounds n ?_
  have key:∀n bt M j1 w1 a1,iter g (fm C ax) (find A.lp (lq c)) n bt M=some o->Rel j1 M w1->sE j1 M w1->cy j1 M w1 bt a1->a1.tmps.size=A.n ->
    Code.roundsIn (Wd rd) nd P c (UO A j1 M w1 a1 o) n a1 w1:=by
   intro n;induction n with
   |zero=>intro bt M j1 w1 a1 h; cases h
   |succ n ih =>
    intro bt M j1 w1 a1 h r1 hG1 e1 s1;rw[iter] at h;obtain⟨o1,h1,h⟩:=bo h;rw[roundsIn_succ];refine wpIn_mono (mP hmix hC c hx h1 r1 hG1 (e1.ri _) s1) ?_;rintro e a2 w2 ⟨he2,hs2,hd2,j2,r2,e2,x2⟩;rcases tJ h with ⟨hn,h2⟩|⟨hn,h2⟩
    ·rw[hn] at he2;subst he2;obtain⟨b1,b2⟩:=hg _ _ x2.len;have:=ih _ _ j2 w2 a2 h2 (yX b2 r2) (hG1.mono (wz b2 b1 x2)) (MW b2 r2 (e2.ri _)) hs2;simp only[rN,Exit.then]
     exact IJ this fun e a3 w3 ⟨g1,g2,g3,j3,g4,g5,g6⟩=>⟨g1,g2,g3.trans hd2,j3,g4,g5,(wz b2 b1 x2).trans g6⟩
    ·subst h2;have:rN o.e ≠ .normal:=by cases ho:o.e<;>simp_all [rN]
     subst he2
     cases hx:rN o.e<;>first
      |exact absurd hx this
      |(simp only[Exit.then]; exact⟨hx.symm,hs2,hd2,j2,r2,e2,x2⟩)
  grind
 | .rangeFunc ..,ac,hc,bt,M,o,h,j,w,a,hr,hG,he,hs=>by grind [comp]
 | .scope _,ac,hc,bt,M,o,h,j,w,a,hr,hG,he,hs=>by grind [comp]
 | .label _,ac,hc,bt,M,o,h,j,w,a,hr,hG,he,hs=>by grind [comp]
 | .goto _,ac,hc,bt,M,o,h,j,w,a,hr,hG,he,hs=>by grind [comp]
 | .refuse _,ac,hc,bt,M,o,h,j,w,a,hr,hG,he,hs=>by simp_all [comp]
theorem BW{bt:Env}{M:aL}{j:J}{w:World}{a:Act}(hr:Rel j M w)(he:cy j M w bt a):∀ {rs:List ResultVar} {ars:List sy} {l:List ag},He P rs=some ars->pS bt M ars=some l ->
  ∃vs:List Value,(rs.mapM fun r=>(match r with | .tmp t=>pure (a.tmps.getD t undef) | .cell q t=>do loadVar t (<-asAddr (a.tmps.getD q undef)):Sem Value)).run P w = .ok vs w/\l.length=vs.length /\
   ∀(i:Nat)(c:ag)(v:Value),l[i]?=some c->vs[i]?=some v->fY j M w c v
 | [],ars,l,h1,h2=>by
  simp_all [He,pS]
 | .tmp t::rs,ars,l,h1,h2=>by
  simp only[He] at h1;obtain⟨ars',h3,h1⟩:=ba h1;cases h1;simp only[pS,zx,cd] at h2;obtain⟨l',h4,h2⟩:=bo h2;cases h2;obtain⟨vs,g1,g2,g3⟩:=BW hr he h3 h4
  refine⟨a.tmps.getD t undef::vs,by
   rw[List.mapM_cons,Sem.run_bind];simp_all,by simp[g2],fun i c v hc hv=>?_⟩
  cases i with
  |zero=>simp only[dX,iC] at hc hv; subst hc; subst hv; exact he.at' t
  |succ i=>grind
 | .cell q t::rs,ars,l,h1,h2=>by
  simp only[He] at h1;obtain⟨g,hg,h1⟩:=ba h1;obtain⟨n,hn,h1⟩:=ba h1;obtain⟨ars',h3,h1⟩:=ba h1;cases h1;simp only[pS] at h2;obtain⟨c0,hc0,h2⟩:=bo h2;obtain⟨l',h4,h2⟩:=bo h2;cases h2;obtain⟨vs,g1,g2,g3⟩:=BW hr he h3 h4;have hq:=he.at' q
  have hload:∃v,(do loadVar t (<-asAddr (a.tmps.getD q undef)):Sem Value).run P w = .ok v w/\fY j M w c0 v:=by
   cases g with
   |true =>
    simp only[aE,zx] at hc0;split at hc0
    ·rename_i id off e;rw[e] at hq;obtain⟨b,_,_,hj,hv⟩:=hq.pK;rw[eN] at hc0;split at hc0
     ·rename_i cs hM;split at hc0
      ·rename_i hle;cases hc0;obtain⟨us,t0,hw,hl,hcs,hcell⟩:=wB hr hM hj
       have hrun:=oJ (P:=P) (w:=w) b off n (fun k=>(us[off+k]?).getD undef) fun k hk=>by
        rw[hcell,bb (by omega)]; simp
       refine⟨_,by simp only[hv,asAddr,Sem.run_bind,Sem.run_pure,Result.andThen_ok,loadVar,kR hg,aE,jd hn,hrun]; rfl,.agg (by simp; omega) fun p c u hc hu=>?_⟩
       grind
      ·cases hc0
     ·cases hc0
    ·cases hc0
   |false =>
    simp only[af,aw,zx] at hc0;split at hc0
    ·rename_i id off e;rw[e] at hq;obtain⟨b,_,_,hj,hv⟩:=hq.pK;rw[eN] at hc0;split at hc0
     ·rename_i cs hM;rw[eN] at hc0;obtain⟨us,t0,hw,hl,hcs,hcell⟩:=wB hr hM hj;have cu:=aF hc0;have hu:us[off]?=some (us[off]'(by omega)):=bb (by omega)
      exact⟨_,by simp[hv,asAddr,loadVar,kR hg,hcell,hu],hcs _ _ _ hc0 hu⟩
     ·cases hc0
    ·cases hc0
  obtain⟨v0,hv0,hr0⟩:=hload;refine⟨v0::vs,?_,by simp[g2],fun i c v hc hv=>?_⟩
  ·rw[List.mapM_cons,Sem.run_bind,hv0];simp_all
  grind
def Ah:∀(args:List ag)(i t:Nat),ir (j5 i args) t=if i<=t then (args[t-i]?).getD .any else .any
 | [],i,t=>by simp[j5,ir]
 |v::r,i,t=>by
  rw[j5,ir,Ah r (i+1) t]
  by_cases h:i=t
  ·subst h; simp
  ·rw[ak h]
   by_cases h2:i<=t
   ·rw[az (by omega),az h2,show t-i=(t-(i+1))+1 by omega]; simp
   ·rw[ak (by omega),ak h2]
def Ml{j:J}{M:aL}{w:World}:∀ {l:List ag} {us:List Value},l.length=us.length->(∀(i:Nat)(c:ag)(v:Value),l[i]?=some c->us[i]?=some v->fY j M w c v) ->
  fY j M w (one l) (if h:us.toArray.size=1 then us.toArray[0] else .tuple us.toArray)
 | [c0],[v0],_,h=>by simpa[one] using h 0 c0 v0 rfl rfl
 | [],[],_,_=>by simpa[one] using(fY.tuple (j:=j) (M:=M) (w:=w) (cs:=[]) (vs := #[]) rfl fun i c v h=>by simp at h)
 |c0::c1::r,v0::v1::s,hl,h=>by
  have:¬(v0::v1::s).toArray.size=1:=by simp
  rw[dif_neg this];exact .tuple (by simpa using hl) fun i c v h1 h2=>h i c v h1 (by simpa using h2)
 | [],_::_,hl,_=>by simp at hl
 | [_],[],hl,_=>by simp at hl
 | [_],_::_::_,hl,_=>by simp at hl
 |_::_::_,[],hl,_=>by simp at hl
 |_::_::_,[_],hl,_=>by simp at hl
def Ef(hmix:P.follows .mixedOrders=true)(hC:pj P C){f:Nat}{fn:eU}{A:B5}{func:Func}(hf:P.funcs[f]?=some func)(hc:oN P A func=some fn){args:List ag}{M:aL}{x:ag×aL}{B:Nat}(hB:M.length<=B)(hB2:B<=M.length\/B<=x.2.length)
  (hl:args.length=fn.nparams) (h:bJ (fm C fn.body (j5 0 args) M) (finish fn.results B)=some x):kN P f=true/\eP P f args M x:=by
 unfold oN at hc;split at hc
 ·cases hc
 ·rename_i c hbody;split at hc
  ·rename_i hcond;obtain⟨hname,hn,hle⟩:=hcond;obtain⟨b,hb,hc⟩:=ba hc;obtain⟨rs,hrs,hc⟩:=ba hc;cases hc;refine⟨by simp[kN,hf,hbody,hname],fun j w vs hr hG eY hv=>?_⟩
   obtain⟨o,ho,hfin⟩:=bo h;simp only at hl;refine calls_of_wp hf hbody ?_;have hsz:(vs++Array.replicate (func.ntmps-vs.size) undef).size=A.n:=by simp; omega
   have he:cy j M w (j5 0 args) { tmps:=vs++Array.replicate (func.ntmps-vs.size) undef,defers:=[] }:=by
    refine⟨fun t=>?_,hG⟩
    rw[Ah,az (cA _),bV];rcases bH t args.length with ht|ht
    ·have h1:=aj ht;have cu:t<vs.size:=by omega
     have h2:=bb cu;rw[h1];have h3:=hv t _ _ h1 h2
     have:(vs++Array.replicate (func.ntmps-vs.size) undef).getD t undef=vs[t]:=by
      simp[cW,cr cu,h2]
     rw[this];exact h3
    ·rw[eJ ht]; exact .any _
   refine wp_mono (wpIn_wide.1 (mP (rd:=none) (nd:=0) hmix hC c hb ho hr hG he hsz)) ?_;rintro e a' w' ⟨he1,hs1,hd1,j1,r1,e1,x1⟩
   by_cases hpan:∃u,o.e = .oC u
   ·obtain⟨u,hu⟩:=hpan;rw[hu] at he1; subst he1;simp only[finish,hu] at hfin;cases hfin
    have hb:B<=o.mem.length:=by
     have:=x1.len;rcases hB2 with h|h
     ·omega
     ·simp[jS] at h; omega
    exact⟨hd1,.inr ⟨u,rfl,rfl,j1,yX hb r1,wz hb hB x1⟩⟩
   have hno:∀i,o.e ≠ .exit i:=by
    intro i hi;simp[finish,hi] at hfin
   have hfin':bJ (pS o.bt o.mem rs) (fun l=>some ((one l).ml B o.mem,jS B o.mem))=some x:=by
    unfold finish at hfin;split at hfin
    ·rename_i i hi; exact absurd hi (hno i)
    ·rename_i u hu; exact absurd ⟨u,hu⟩ hpan
    ·exact hfin
   obtain⟨l,hl',hfin'⟩:=bo hfin';cases hfin';obtain⟨us,u1,u2,u3⟩:=BW (P:=P) r1 e1 hrs hl'
   have hbase:B<=o.mem.length:=by
    have:=x1.len;rcases hB2 with h|h
    ·omega
    ·simp[jS] at h; omega
   have hres:(results func a'.tmps).run P w' = .ok (if h:us.toArray.size=1 then us.toArray[0] else .tuple us.toArray) w':=by
    unfold results;rw[kV,Sem.run_bind,Sem.run_map];refine cZ (congrArg (fun r:Result (List Value)=>Result.andThen (r.andThen fun a w' => .ok a.toArray w') _) (cZ ?_ u1)) rfl
    rfl
   have hone:fY j1 o.mem w' (one l) (if h:us.toArray.size=1 then us.toArray[0] else .tuple us.toArray):=by
    exact Ml u2 u3
   have hfinal:∃v,(results func a'.tmps).run P w' = .ok v w'/\vr j M w ((one l).ml B o.mem,jS B o.mem) (.returned v) w' :=
    ⟨_,hres,.inl ⟨_,rfl,j1,yX hbase r1,wz hbase hB x1,DX hbase r1 hone⟩⟩
   cases hoe:o.e with
   |exit i=>exact absurd hoe (hno i)
   |oC u=>exact absurd ⟨u,hoe⟩ hpan
   |normal=>rw[hoe] at he1; subst he1; exact⟨hd1,hfinal⟩
   |ret=>rw[hoe] at he1; subst he1; exact⟨hd1,hfinal⟩
  ·cases hc
def Qp(hmix:P.follows .mixedOrders=true)(hC:pj P C){f:Nat}{fn:eU}{A:B5}{func:Func}(hf:P.funcs[f]?=some func)(hc:oN P A func=some fn){args:List ag}{M:aL}{x:ag×aL}
  (hl:args.length=fn.nparams) (h:bJ (fm C fn.body (j5 0 args) M) (finish fn.results M.length)=some x):kN P f=true/\eP P f args M x :=
 Ef hmix hC hf hc (ar _) (.inl (ar _)) hl h
noncomputable def KS(C:eO)(fn:eU)(d:Nat)(args:List ag)(M:aL):Option (ag×aL) :=
 if args.length=fn.nparams then bJ (bJ (fm C fn.body (j5 0 args) M) (finish fn.results (M.length+d))) fun x=>if x.2.length=M.length+d then some x else none else none
def NK(hmix:P.follows .mixedOrders=true)(hC:pj P C){f:Nat}{fn:eU}{A:B5}{func:Func}(hf:P.funcs[f]?=some func)(hc:oN P A func=some fn){d:Nat}{args:List ag}{M:aL}{x:ag×aL}
  (h:KS C fn d args M=some x):kN P f=true/\eP P f args M x:=by
 unfold KS at h;split at h
 ·rename_i hl;obtain⟨y,hy,h⟩:=bo h;split at h
  ·rename_i eY;cases h;exact Ef hmix hC hf hc (Nat.le_add_right _ _) (.inr (by omega)) hl hy
  ·cases h
 ·cases h
def aa1{C:eO}{fn:eU}{d:Nat}{args:List ag}{M:aL}{x:ag×aL}(hl:args.length=fn.nparams)(h:bJ (fm C fn.body (j5 0 args) M) (finish fn.results (M.length+d))=some x)(hx:x.2.length=M.length+d):KS C fn d args M=some x:=by
 unfold KS;rw[az hl,h,cd,az hx]
structure xV(P:Program)(T:BD):Prop where
 code:∀f fn,T.code f=some fn->∃A func,P.funcs[f]?=some func/\oN P A func=some fn
 sO:∀f g,T.sO f=some g->∀args M x,g args M=some x->kN P f=true/\eP P f args M x
def yV(hmix:P.follows .mixedOrders=true){T:BD}(hT:xV P T):∀n,pj P (kU T n)
 |0,f,args,M,x,h=>by
  unfold kU at h;split at h
  ·rename_i g hg; exact hT.sO f g hg args M x h
  ·cases h
 |n+1,f,args,M,x,h=>by
  rw[kU] at h;split at h
  ·rename_i g hg; exact hT.sO f g hg args M x h
  ·split at h
   ·cases h
   ·rename_i fn hfn;split at h
    ·rename_i hl;obtain⟨A,func,h1,h2⟩:=hT.code f fn hfn;exact Qp hmix (yV hmix hT n) h1 h2 hl h
    ·cases h
def uh(hmix:P.follows .mixedOrders=true){T:BD}(hT:xV P T):pj P (aq T):=fun f args M x h=>by
 obtain⟨n,hn⟩:=uC h;exact yV hmix hT n f args M x hn
end
section
variable {j:J} {M:aL} {w w':World}
def n9(b:Nat):∀(l:List Value)(o:Nat)(w:World),w.setCells b o l=oV w b o l
 | [],_,_=>rfl
 |v::r,o,w=>by rw[World.setCells,oV,n9 b r]
end
noncomputable def pR(sz bytes:Nat):List ag->aL->Option (ag×aL)
 | [.slice _ xs],M=>match xs with
  | []=>some (.slice .c0 [],M)
  |x::r=>cv (wid (x::r) sz/\dQ (x::r).length bytes) (some (.dk M.length 0 sz 0 (x::r).length,M++[.arr sz 0 (x::r)]))
 |_,_=>none
noncomputable def Zj(sz bytes:Nat):List ag->aL->Option (ag×aL)
 | [.slice _ xs],M=>cv (wid xs sz/\dQ xs.length bytes) (some (.slice .sh xs,M))
 |_,_=>none
noncomputable def xE(sz bytes:Nat):List ag->aL->Option (ag×aL)
 | [.slice _ xs],M=>cv (wid xs sz/\dQ xs.length bytes) (some (.slice (.own M.length) xs,M++[.tick sz xs.length]))
 |_,_=>none
noncomputable def oz(sz:Nat):List ag->aL->Option (ag×aL)
 | [.dk id ver sz' lo hi,.int .i64 i,.int .i64 i'],M=>match nth M id with
  |some (.arr sz0 v xs)=>cv (v=ver/\sz'=sz/\lo=0/\hi=xs.length/\0<=i/\i.toNat<xs.length/\i'=i+1/\xs.length<=2 ^ 44)
    (some (.dk id (ver+1) sz 0 (xs.length-1),j6 M id (.arr sz0 (ver+1) (xs.take i.toNat++xs.drop (i.toNat+1)))))
  |_=>none
 |_,_=>none
noncomputable def nn(sz bytes:Nat):List ag->aL->Option (ag×aL)
 | [.dk id ver sz' lo hi,.int .i64 i,.slice _ [e]],M=>match nth M id with
  |some (.arr sz0 v xs)=>cv (v=ver/\sz'=sz/\lo=0/\hi=xs.length/\0<=i/\i.toNat<=xs.length/\e.cells.length=sz/\dQ (xs.length+1) bytes)
    (some (.dk id (ver+1) sz 0 (xs.length+1),j6 M id (.arr sz0 (ver+1) (xs.take i.toNat++e::xs.drop i.toNat))))
  |_=>none
 | [.slice .c0 [],.int .i64 i,.slice _ [e]],M=>cv (i=0/\e.cells.length=sz) (some (.dk M.length 0 sz 0 1,M++[.arr sz 0 [e]]))
 |_,_=>none
def BL(P:Program)(f:Nat)(E:TypeId)(sz bytes:Nat):Prop:=∀(b off n c:Nat)(news:List Value)(w:World),news.length=n*sz->n<=maxLen->n*bytes<=140737488355328->(∀j u,news[j]?=some u->w.cell? ⟨b,off+j,none⟩=some u)->(∀u∈news,u.oneCell'=true) ->
 Calls P f #[.slice (some ⟨b,off,none⟩) n c] w fun e w'=>∃v',e = .returned v'/\w'.ownsRow w.heap.size E sz v' n news/\v' ≠ .slice none 0 0/\Below w.heap.size w w'
def yU(P:Program)(f:Nat):Prop:=∀(A:Option Addr)(c:Nat)(w:World),Calls P f #[.slice A 0 c] w fun e w'=>(∃B,e = .returned (.slice B 0 0))/\Below w.heap.size w w'
def Xz(P:Program)(f sz:Nat)(z:List Value):Prop:=∀(blk cap i i' n:Nat)(cs:List Value)(w:World),cs.length=n*sz->n<=cap->n<=9223372036854775807->i<n->i'=i+1 ->
 (∀p v,cs[p]?=some v->w.cell? ⟨blk,p,none⟩=some v/\w.frozen? ⟨blk,p,none⟩=false/\v.oneCell'=true) ->
 Calls P f #[.slice (some ⟨blk,0,none⟩) n cap,.int .i64 i,.int .i64 i'] w fun e w'=>e = .returned (.slice (some ⟨blk,0,none⟩) (n-1) cap) /\
  w'=(w.drew.setCells blk (i*sz) (cs.drop (i'*sz))).setCells blk ((n-1)*sz) z
def xe(sz:Nat)(w:World)(b:Nat)(row:Array Value)(t:TypeId)(n i:Nat)(cs vs:List Value)(e:Ending)(w':World):Prop :=
 ∃b' cap' row' t',e = .returned (.slice (some ⟨b',0,none⟩) (n+1) cap')/\n+1<=cap'/\w'.heap[b']?=some (.cells row' t' (0,0))/\cap'*sz<=row'.size /\
  (∀p,p<(n+1)*sz->row'[p]?=(cs.take (i*sz)++(vs++cs.drop (i*sz)))[p]?)/\Quiet w w' /\
  ((b'=b/\t'=t/\row'.size=row.size/\∀b0,b0≠b->b0<w.heap.size->w'.heap[b0]?=w.heap[b0]?)\/(w.heap.size<=b'/\∀b0,b0<w.heap.size->w'.heap[b0]?=w.heap[b0]?))
def Pc(P:Program)(f sz bytes:Nat):Prop:=∀(b n c i vb voff vc:Nat)(cs vs:List Value)(w:World)(row:Array Value)(t:TypeId),i<=n->n<=c->(n+1)*bytes<=140737488355328->n+1<=9223372036854775807->vb≠b->cs.length=n*sz->vs.length=sz->w.heap[b]?=some (.cells row t (0,0))->c*sz<=row.size ->
 (∀(p:Nat)(v:Value),cs[p]?=some v->row[p]?=some v)->(∀(p:Nat)(v:Value),vs[p]?=some v->w.cell? ⟨vb,voff+p,none⟩=some v)->(∀v∈cs,v.oneCell'=true)->(∀v∈vs,v.oneCell'=true) ->
 Calls P f #[.slice (some ⟨b,0,none⟩) n c,.int .i64 i,.slice (some ⟨vb,voff,none⟩) 1 vc] w (xe sz w b row t n i cs vs)
def Pd(P:Program)(f sz:Nat):Prop:=∀(A:Option Addr)(vb voff vc:Nat)(vs:List Value)(w:World)(row:Array Value),vs.length=sz->(∀(p:Nat)(v:Value),vs[p]?=some v->w.cell? ⟨vb,voff+p,none⟩=some v)->(∀v∈vs,v.oneCell'=true) ->
 Calls P f #[.slice A 0 0,.int .i64 0,.slice (some ⟨vb,voff,none⟩) 1 vc] w fun e w'=>xe sz w w.heap.size row 0 0 0 [] vs e w'
section
variable {P:Program} {f:Nat} {sz bytes:Nat} {E:TypeId}
def DB{α:Type}{vs:Array α}{p q r:ag}(h:[p,q,r].length=vs.size):∃a b c,vs = #[a,b,c]:=by
 obtain⟨l⟩:=vs
 match l,h with
 | [a,b,c],_=>simp
def BT{α:Type}{vs:Array α}{p:ag}(h:[p].length=vs.size):∃a,vs = #[a]:=by
 obtain⟨l⟩:=vs
 match l,h with
 | [a],_=>simp
def fY.w9{j:J}{M:aL}{w:World}{tk:Tk}{xs:List ag}{v:Value}(h:fY j M w (.slice tk xs) v):fI w (nV j M w) (.slice .sh xs) v:=h.dH
theorem wC(hsz:0<sz)(hby:bytes*8<=2 ^ 20/\0<bytes)
  (hC:BL P f E sz bytes) (h0:yU P f)
  {args:List ag} {M:aL} {x:ag×aL} (h:pR sz bytes args M=some x):eP P f args M x:=by
 unfold pR at h;split at h
 ·refine nr.call ?_;intro j w vs hr hG hl hv;obtain⟨u,rfl⟩:=BT hl;have h1:=(hv 0 _ u rfl rfl).w9;split at h
  ·cases h;obtain⟨A,cap,rfl,_,_⟩:=nH (size:=sz) h1 (fun y hy=>by cases hy)
   refine(h0 A cap w).mono ?_;rintro e w' ⟨⟨B,rfl⟩,hb⟩;exact⟨_,j,rfl,hr.grow hb.size hb.os hb.tape hb.output hb.block,Ext.grow hb.size hb.os hb.tape hb.output hb.block,.c0 _⟩
  ·rename_i y r;obtain⟨⟨hw,hroom⟩,h⟩:=di h;cases h;obtain⟨A,cap,rfl,hcap,h2⟩:=nH h1 hw;obtain⟨b,off,rfl,us,hrl,hul,hone,hcell⟩:=h2.resolve_left (by simp)
   unfold dQ at hroom;have hle:(y::r).length<=2 ^ 44:=bj (fx _ hby.2) hroom;refine(hC b off (y::r).length cap us w hul (by unfold maxLen; omega) (by omega) (fun p u hp=>(hcell p u hp).1) hone).mono ?_
   rintro e w' ⟨v',rfl,⟨_,hown⟩,hnn,hb⟩;obtain⟨g,cap',cur,rfl,hg,hg',hn1,_,hcs,htk⟩:=hown.resolve_left (fun h=>hnn h.1)
   have q:Quiet w w':=⟨hb.size,hb.os,hb.tape,hb.output⟩;have hob:∀b,some g=some b->w.heap.size<=b/\b<w'.heap.size:=fun b h=>by grind
   have hcl:∀p,p<us.length->cur[p]?=us[p]?:=fun p hp=>by
    rw[<-htk,bF (by rw[<-hul]; exact hp)]; simp
   have ext:Ext j M w (gy j M.length (some g)) (M++[.arr sz 0 (y::r)]) w':=Ext.push (fun b h=>(hob b h).1) q hb.block
   refine⟨_,gy j M.length (some g),rfl,hr.push hob q hb.block (fun h=>by cases h) (fun sz n b h _=>by cases h) (fun sz0 v0 xs0 he=>?_),ext,?_⟩
   ·injection he with e1 e2 e3
    subst e1; subst e3;have hat:∀j' M',Ext j M w j' M' w'->DR j' M' w' g sz (y::r):=fun j' M' hx=>lJ hg' hw (hrl.mono hx.hU) hcl
    refine .inr ⟨g,cur,E,rfl,hg',by rw[hcs]; grind,hw,fun j' M' hx q x k c hx' hk=>?_⟩
    obtain⟨vs,t,a1,a2,a3,a4⟩:=hat j' M' hx;rw[hg'] at a1; injection a1 with a1; injection a1 with a1 a1'
    subst a1;exact a4 q x k c hx' hk
   ·refine .dk (.inl ⟨g,0,cap',rfl,by omega⟩) (by simp) (fun bx hbx=>by rw[lO] at hbx; cases hbx; rfl) fun sz' v' xs hx=>?_
    rw[lO] at hx; injection hx with hx; injection hx with e1 e2 e3
    subst e1; subst e2; subst e3;exact⟨ar _,fun _=>⟨rfl,cA _,ar _,.inr ⟨g,cap',cur,E,by simp[gy],by simp,by omega,hg',by rw[aQ]; omega⟩⟩⟩
 ·cases h
theorem aau(hsz:0<sz)(hby:bytes*8<=2 ^ 20/\0<bytes)
  (hC:BL P f E sz bytes) (h0:yU P f)
  {args:List ag} {M:aL} {x:ag×aL} (h:Zj sz bytes args M=some x):eP P f args M x:=by
 unfold Zj at h;split at h
 ·rename_i tk xs;refine nr.call ?_;intro j w vs hr hG hl hv;obtain⟨u,rfl⟩:=BT hl;have h1:=(hv 0 _ u rfl rfl).w9;obtain⟨⟨hw,hroom⟩,h⟩:=di h;cases h;obtain⟨A,cap,rfl,hcap,h2⟩:=nH h1 hw;rcases h2 with rfl|⟨b,off,rfl,us,hrl,hul,hone,hcell⟩
  ·refine(h0 A cap w).mono ?_;rintro e w' ⟨⟨B,rfl⟩,hb⟩;exact⟨_,j,rfl,hr.grow hb.size hb.os hb.tape hb.output hb.block,Ext.grow hb.size hb.os hb.tape hb.output hb.block,.plain (fI.nil _ _ _)⟩
  ·unfold dQ at hroom;have hle  := bj (fx _ hby.2) hroom;refine(hC b off xs.length cap us w hul (by grind [maxLen]) (by omega) (fun p u hp=>(hcell p u hp).1) hone).mono ?_
   rintro e w' ⟨v',rfl,⟨_,hown⟩,hnn,hb⟩;obtain⟨g,cap',cur,rfl,hg,hg',hn1,_,hcs,htk⟩:=hown.resolve_left (fun h=>hnn h.1)
   have ext:Ext j M w j M w':=Ext.grow hb.size hb.os hb.tape hb.output hb.block;refine⟨_,j,rfl,hr.grow hb.size hb.os hb.tape hb.output hb.block,ext,.plain ?_⟩
   have hcl:∀p,p<us.length->cur[p]?=us[p]?:=fun p hp=>by
    rw[<-htk,bF (by omega)]; simp
   obtain⟨vs,t,a1,a2,a3,a4⟩:=lJ (j':=j) hg' hw (hrl.mono ext.hU) hcl;rw[hg'] at a1; injection a1 with a1; injection a1 with a1 a1'
   subst a1;have:=xj hg' a3 a4 (fun b off h=>h) (fun off ho=>⟨lt_of_block hg',fun id hid hji=>by have:=hr.lt id g hid hji; omega,fun hx=>by have:=hr.zK g off hx; omega⟩) (cA _) (ar _) (by omega)
   simpa using this
 grind
theorem F1(hsz:0<sz)(hby:bytes*8<=2 ^ 20/\0<bytes)
  (hC:BL P f E sz bytes) (h0:yU P f)
  {args:List ag} {M:aL} {x:ag×aL} (h:xE sz bytes args M=some x):eP P f args M x:=by
 unfold xE at h;split at h
 ·rename_i tk xs;refine nr.call ?_;intro j w vs hr hG hl hv;obtain⟨u,rfl⟩:=BT hl;have h1:=(hv 0 _ u rfl rfl).w9;obtain⟨⟨hw,hroom⟩,h⟩:=di h;cases h;obtain⟨A,cap,rfl,hcap,h2⟩:=nH h1 hw;rcases h2 with rfl|⟨b,off,rfl,us,hrl,hul,hone,hcell⟩
  ·refine(h0 A cap w).mono ?_;rintro e w' ⟨⟨B,rfl⟩,hb⟩;have q:Quiet w w':=⟨hb.size,hb.os,hb.tape,hb.output⟩;refine⟨_,gy j M.length none,rfl,hr.push (fun b h=>by cases h) q hb.block (fun h=>by cases h) (fun _ _ _ _ h=>by cases h),Ext.push (fun b h=>by cases h) q hb.block,?_⟩
   refine .own (lO ..) (ar _) (fI.nil _ _ _) fun _ => .inl ⟨by simp[gy],rfl,B,rfl⟩
  ·unfold dQ at hroom;have hle:xs.length<=2 ^ 44:=bj (fx _ hby.2) hroom;refine(hC b off xs.length cap us w hul (by grind [maxLen]) (by omega) (fun p u hp=>(hcell p u hp).1) hone).mono ?_
   rintro e w' ⟨v',rfl,⟨_,hown⟩,hnn,hb⟩;obtain⟨g,cap',cur,rfl,hg,hg',hn1,_,hcs,htk⟩:=hown.resolve_left (fun h=>hnn h.1)
   have q:Quiet w w':=⟨hb.size,hb.os,hb.tape,hb.output⟩;have hob:∀b,some g=some b->w.heap.size<=b/\b<w'.heap.size:=fun b h=>by grind
   have ext:Ext j M w (gy j M.length (some g)) (M++[.tick sz xs.length]) w':=Ext.push (fun b h=>(hob b h).1) q hb.block
   refine⟨_,gy j M.length (some g),rfl,hr.push hob q hb.block (fun h=>by cases h) (fun _ _ b _ h=>by grind),ext,?_⟩
   have hcl:∀p,p<us.length->cur[p]?=us[p]?:=fun p hp=>by
    rw[<-htk,bF (by rw[<-hul]; exact hp)]; simp
   obtain⟨vs,t,a1,a2,a3,a4⟩:=lJ (j':=gy j M.length (some g)) (M':=M++[.tick sz xs.length]) hg' hw (hrl.mono ext.hU) hcl;rw[hg'] at a1; injection a1 with a1; injection a1 with a1 a1'
   subst a1
   have:=xj (lo:=0) (hi:=xs.length) (cap:=cap') hg' a3 a4 (fun b off h=>h) (fun off ho=>⟨lt_of_block hg',fun id hid hji=>by
    rcases bH id M.length with hid'|hid'
    ·have hj:j id=some g:=by simpa[gy,gr hid'] using hji
     have:=hr.lt id g hid' hj; omega
    grind,fun hx=>by have:=hr.zK g off hx; omega⟩) (cA _) (ar _) (by omega)
   refine .own (lO ..) (ar _) (by simpa using this) fun _ => .inr ⟨g,cap',cur,E,by simp[gy],by simp,hg',by omega,by omega⟩
 ·cases h
def vx(hsz:0<sz){z:List Value}(hz:z.length=sz)
  (hD:Xz P f sz z)
  {args:List ag} {M:aL} {x:ag×aL} (h:oz sz args M=some x):eP P f args M x:=by
 unfold oz at h;split at h
 ·rename_i id ver sz' lo hi i i';rw[eN] at h;split at h
  ·rename_i sz0 v0 xs hM;obtain⟨hc,h⟩:=di h;cases h;obtain⟨rfl,rfl,rfl,rfl,hi0,hin,rfl,hbig⟩:=hc;refine nr.call ?_;intro j w vs hr hG hl hv;obtain⟨u1,u2,u3,rfl⟩:=DB hl;have h2:=(hv 1 _ u2 rfl rfl).fP;have h3:=(hv 2 _ u3 rfl rfl).fP;subst h2; subst h3;obtain⟨_,hid,_,g⟩:=(hv 0 _ u1 rfl rfl).nB;obtain⟨e1,_,_,⟨rfl,l3,B,rfl⟩|⟨b,cap,row,t0,l3,l4,l5,l6,l7⟩⟩:=(g sz0 v0 xs hM).2 rfl
   ·exact absurd hin (by simp)
   subst e1; subst l4;obtain⟨b',row',t',k1,k2,k3,k4,k5⟩:=hr.yf hM l3;rw[l3] at k1; cases k1;rw[l6] at k2; injection k2 with k2; injection k2 with k2 k2'
   subst k2; subst k2';have hrow:=xi (b:=b) k3 k4 k5;rw[bV] at l5;rw[aQ] at l7;generalize hcs:row.toList.take (xs.length*sz0)=cs at hrow;have hcl:cs.length=xs.length*sz0:=by rw[<-hcs]; simp; omega
   have hat:∀p v,cs[p]?=some v->row[p]?=some v:=fun p v hp=>by
    have cu:p<xs.length*sz0:=by rw[<-hcl]; exact aF hp
    rw[<-hcs,bF cu] at hp; simpa using hp
   obtain⟨m,rfl⟩:∃m:Nat,i=m:=⟨i.toNat,(oc (by assumption)).symm⟩
   simp only[bh] at hin ⊢;have e0:((m:Int)+1)=((m+1:Nat):Int):=rfl;rw[bV,je,e0];refine(hD b cap m (m+1) xs.length cs w hcl l5 (by omega) hin rfl (fun p v hp=>⟨by simp[World.cell?,l6,hat p v hp],by simp[World.frozen?,l6],?_⟩)).mono ?_
   ·have hp':p<(jD xs).length:=by rw[hrow.1]; exact aF hp
    exact fI.one (hrow.2 p _ v (aj hp') hp)
   ·rintro e w' ⟨rfl,hw'⟩;rw[n9,n9] at hw';have hl1:(cs.drop ((m+1)*sz0)).length=(xs.length-(m+1))*sz0:=by rw[iU,hcl,lD]
    have ha1:(m+1)*sz0=m*sz0+sz0:=by rw[bP,fK]
    have ha2:(xs.length-(m+1))*sz0=xs.length*sz0-(m*sz0+sz0):=by rw[lD,ha1]
    have ha3:(xs.length-1)*sz0=xs.length*sz0-sz0:=by rw[lD,fK]
    have ha4:m*sz0+sz0<=xs.length*sz0:=by rw[<-ha1]; exact bf _ hin
    have hd:w.drew.heap=w.heap:=rfl;obtain⟨s1,s2,s3,s4,s5,r1,s6,s7,s8,s9⟩:=lA (t:=t0) (cs.drop ((m+1)*sz0)) w.drew (m*sz0) row (by rw[hd]; exact l6) (by rw[hl1]; omega)
    obtain⟨q1,q2,q3,q4,q5,r2,q6,q7,q8,q9⟩:=lA (t:=t0) z _ ((xs.length-1)*sz0) r1 s6 (by rw[hz,s7]; omega)
    rw[<-hw'] at q1 q2 q3 q4 q5 q6;have hwd:wid (xs.take m++xs.drop (m+1)) sz0:=mU (vo k4) (vn k4)
    have iv:RL w (nV j M w) (jD (xs.take m++xs.drop (m+1))) (cs.take (m*sz0)++cs.drop ((m+1)*sz0)):=by
     rw[ou,rP m k4,tI (m+1) k4];exact(hrow.take _).append (hrow.drop _)
    have htk:(cs.take (m*sz0)).length=m*sz0:=by rw[gi,hcl]; omega
    have hput:=xh (ver':=v0+1) (xs':=xs.take m++xs.drop (m+1)) hr hM l3 (w':=w') ⟨by rw[q1,s1]; simp,q2.trans s2,q3.trans s3,q4.trans s4⟩ (fun b' hb' _=>(q5 b' hb').trans (s5 b' hb')) l6 q6 (q7.trans s7) (by omega) (fun h=>by omega) hwd iv (fun p hp=>by
     rw[aK,htk,hl1] at hp;rw[q8 p (.inl (by omega))]
     rcases bH p (m*sz0) with c1|c1
     ·rw[s8 p (.inl c1),bl (by rw[htk]; exact c1),bF c1]
      have hp1:p<cs.length:=by omega
      rw[hat p _ (aj hp1),aj hp1]
     ·rw[br (by rw[htk]; exact c1),htk]
      have:=s9 (p-m*sz0) (by rw[hl1]; omega)
      rw[cU c1] at this;exact this)
    rw[fQ];refine⟨_,j,rfl,hput.1,hput.2,.dk (.inl ⟨b,0,cap,rfl,by omega⟩) (by simpa using hid) (fun bx hbx=>by rw[dG (aF hM)] at hbx; cases hbx; rfl) fun sz' v' ys hx=>?_⟩
    rw[dG (aF hM)] at hx; injection hx with hx; injection hx with e1 e2 e3
    subst e1; subst e2; subst e3;exact⟨ar _,fun _=>⟨rfl,cA _,by simp; omega,.inr ⟨b,cap,r2,t0,l3,by simp,by omega,q6,by rw[aQ,q7,s7]; exact l7⟩⟩⟩
  ·cases h
 ·cases h
end
section
variable {sz:Nat} {w:World} {b n c i:Nat} {row:Array Value} {t:TypeId} {cs vs:List Value} {e:Ending} {w':World}
def rD(w:World)(o:Obj):(w.alloc o).heap=w.heap.push o:=rfl
def tu(w:World):w.drew.heap=w.heap:=rfl
def Bz{A B C:List Value}{p:Nat}:(A++(B++C))[p]?=if p<A.length then A[p]? else if p<A.length+B.length then B[p-A.length]? else C[p-A.length-B.length]?:=by
 split
 ·rw[bl (by assumption)]
 ·rw[br (by omega)]
  split
  ·rw[bl (by omega)]
  ·rw[br (by omega)]
def NL(hi:i<n)(hroom:n+1<=c)(hcl:cs.length=n*sz)(hvl:vs.length=sz)(hw:w.heap[b]?=some (.cells row t (0,0)))(hrow:c*sz<=row.size)(hat:∀(p:Nat)(v:Value),cs[p]?=some v->row[p]?=some v)
  (he:e = .returned (.slice (some ⟨b,0,none⟩) (n+1) c)) (hw':w'=(w.drew.setCells b ((i+1)*sz) (cs.drop (i*sz))).setCells b (i*sz) vs):xe sz w b row t n i cs vs e w':=by
 have a1:(i+1)*sz=i*sz+sz:=by rw[bP,fK]
 have a2:(n+1)*sz=n*sz+sz:=by rw[bP,fK]
 have a3:i*sz+sz<=n*sz:=by rw[<-a1]; exact bf _ hi
 have a4:(n+1)*sz<=row.size:=bj (bf _ hroom) hrow;have hdl:(cs.drop (i*sz)).length=n*sz-i*sz:=by rw[iU,hcl]
 rw[n9,n9] at hw';obtain⟨s1,s2,s3,s4,s5,r1,s6,s7,s8,s9⟩:=lA (t:=t) (cs.drop (i*sz)) w.drew ((i+1)*sz) row hw (by omega)
 obtain⟨q1,q2,q3,q4,q5,r2,q6,q7,q8,q9⟩:=lA (t:=t) vs _ (i*sz) r1 s6 (by omega)
 rw[<-hw'] at q1 q2 q3 q4 q5 q6;have htk:(cs.take (i*sz)).length=i*sz:=by rw[gi,hcl]; omega
 refine⟨b,c,r2,t,he,hroom,q6,by rw[q7,s7]; exact hrow,fun p hp=>?_,⟨by rw[q1,s1]; exact ar _,q2.trans s2,q3.trans s3,q4.trans s4⟩,.inl ⟨rfl,rfl,q7.trans s7,fun b0 h0 _=>(q5 b0 h0).trans (s5 b0 h0)⟩⟩
 rw[Bz,htk,hvl];split
 ·rename_i c1;rw[q8 p (.inl c1),s8 p (.inl (by omega)),bF c1]
  have hp1:p<cs.length:=by omega
  rw[hat p _ (aj hp1),aj hp1]
 ·rename_i c1;split
  ·have:=q9 (p-i*sz) (by omega)
   rwa[cU (by omega)] at this
  ·rw[q8 p (.inr (by omega))]
   have:=s9 (p-(i+1)*sz) (by omega)
   rw[cU (by omega)] at this
   rw[this]; congr 1; omega
def Qy(hroom:n+1<=c)(hcl:cs.length=n*sz)(hvl:vs.length=sz)(hw:w.heap[b]?=some (.cells row t (0,0)))(hrow:c*sz<=row.size)(hat:∀(p:Nat)(v:Value),cs[p]?=some v->row[p]?=some v)
  (he:e = .returned (.slice (some ⟨b,0,none⟩) (n+1) c)) (hw':w'=w.setCells b (n*sz) vs):xe sz w b row t n n cs vs e w':=by
 have a2:(n+1)*sz=n*sz+sz:=by rw[bP,fK]
 have a4:(n+1)*sz<=row.size:=bj (bf _ hroom) hrow;rw[n9] at hw';obtain⟨q1,q2,q3,q4,q5,r2,q6,q7,q8,q9⟩:=lA (t:=t) vs w (n*sz) row hw (by omega)
 rw[<-hw'] at q1 q2 q3 q4 q5 q6;refine⟨b,c,r2,t,he,hroom,q6,by rw[q7]; exact hrow,fun p hp=>?_,⟨by rw[q1]; exact ar _,q2,q3,q4⟩,.inl ⟨rfl,rfl,q7,fun b0 h0 _=>q5 b0 h0⟩⟩
 rw[<-hcl,cT,gM,bW];rcases bH p cs.length with c1|c1
 ·rw[q8 p (.inl (by omega)),bl c1,hat p _ (aj c1),aj c1]
 ·rw[br c1];have:=q9 (p-n*sz) (by omega)
  rw[cU (by omega)] at this
  rw[this,hcl]
def zj{z:Value}{E:TypeId}(hsz:0<sz)(hz:z.cells.size=sz)(hcl:cs.length=n*sz)(hvl:vs.length=sz)(hG:n+1<=c)
  (he:e = .returned (.slice (some ⟨w.heap.size,0,none⟩) (n+1) c)) (hw':w'=w.drew.alloc (.cells ((cs++vs).toArray++Builtin.zeroCells z.cells (c-(n+1))) E)):xe sz w b row t n n cs vs e w':=by
 have a2:(n+1)*sz=n*sz+sz:=by rw[bP,fK]
 have hzl:(Builtin.zeroCells z.cells (c-(n+1))).size=(c-(n+1))*sz:=by simp[Builtin.zeroCells,hz]
 have a3:c*sz=(n+1)*sz+(c-(n+1))*sz:=by rw[<-bP,cU hG]
 subst hw';refine⟨w.heap.size,c,(cs++vs).toArray++Builtin.zeroCells z.cells (c-(n+1)),E,he,hG,by rw[rD,tu]; simp,by simp[hzl,hcl,hvl]; omega,fun p hp=>?_,⟨by rw[rD,tu]; simp,rfl,rfl,rfl⟩,.inr ⟨ar _,fun b0 h0=>by rw[rD,tu]; simp[fL,gr h0]⟩⟩
 rw[cr (by simp; omega),<-hcl,cT,gM,bW]
 simp
def Qx{z:Value}{E:TypeId}(hsz:0<sz)(hz:z.cells.size=sz)(hi:i<n)(hcl:cs.length=n*sz)(hvl:vs.length=sz)(hG:n+1<=c)
  (he:e = .returned (.slice (some ⟨w.heap.size,0,none⟩) (n+1) c))
  (hw':w'=(((w.alloc (.cells ((cs.take (i*sz)).toArray++Builtin.zeroCells z.cells (n+1-i)++Builtin.zeroCells z.cells (c-(n+1))) E)).drew.setCells w.heap.size (i*sz) vs).drew).setCells w.heap.size ((i+1)*sz) (cs.drop (i*sz))):xe sz w b row t n i cs vs e w':=by
 have a1:(i+1)*sz=i*sz+sz:=by rw[bP,fK]
 have a2:(n+1)*sz=n*sz+sz:=by rw[bP,fK]
 have a3:i*sz+sz<=n*sz:=by rw[<-a1]; exact bf _ hi
 have hz1:(Builtin.zeroCells z.cells (n+1-i)).size=(n+1-i)*sz:=by simp[Builtin.zeroCells,hz]
 have hz2:(Builtin.zeroCells z.cells (c-(n+1))).size=(c-(n+1))*sz:=by simp[Builtin.zeroCells,hz]
 have a4:c*sz=(n+1)*sz+(c-(n+1))*sz:=by rw[<-bP,cU hG]
 have a5:(n+1)*sz=i*sz+(n+1-i)*sz:=by rw[<-bP,cU (by omega)]
 have htk:(cs.take (i*sz)).length=i*sz:=by rw[gi,hcl]; omega
 have hdl:(cs.drop (i*sz)).length=n*sz-i*sz:=by rw[iU,hcl]
 generalize hR:(cs.take (i*sz)).toArray++Builtin.zeroCells z.cells (n+1-i)++Builtin.zeroCells z.cells (c-(n+1))=ROW at hw';have hRs:ROW.size=c*sz:=by rw[<-hR]; simp only[fT,hz1,hz2,cJ,htk]; omega
 have hR0:∀p,p<i*sz->ROW[p]?=cs[p]?:=fun p hp=>by
  rw[<-hR,cr (by simp only[fT,hz1,cJ,htk]; omega),cr (by simp only[cJ,htk]; exact hp)]
  simp[bF hp]
 rw[n9,n9] at hw';have h0:((w.alloc (.cells ROW E)).drew).heap[w.heap.size]?=some (.cells ROW E (0,0)):=by rw[tu,rD]; simp
 obtain⟨s1,s2,s3,s4,s5,r1,s6,s7,s8,s9⟩:=lA (t:=E) vs _ (i*sz) ROW h0 (by omega)
 obtain⟨q1,q2,q3,q4,q5,r2,q6,q7,q8,q9⟩:=lA (t:=E) (cs.drop (i*sz)) (oV ((w.alloc (.cells ROW E)).drew) w.heap.size (i*sz) vs).drew ((i+1)*sz) r1 s6 (by omega)
 rw[<-hw'] at q1 q2 q3 q4 q5 q6;have hpush:((w.alloc (.cells ROW E)).drew).heap.size=w.heap.size+1:=by rw[tu,rD]; simp
 refine⟨w.heap.size,c,r2,E,he,hG,q6,by omega,fun p hp=>?_,⟨?_,q2.trans s2,q3.trans s3,q4.trans s4⟩,.inr ⟨ar _,fun b0 hb0=>?_⟩⟩
 ·rw[Bz,htk,hvl];split
  ·rename_i c1;rw[q8 p (.inl (by omega)),s8 p (.inl c1),hR0 p c1,bF c1]
  ·rename_i c1;split
   ·rw[q8 p (.inl (by omega))]
    have:=s9 (p-i*sz) (by omega)
    rwa[cU (by omega)] at this
   ·have:=q9 (p-(i+1)*sz) (by omega)
    rw[cU (by omega)] at this
    rw[this]; congr 1; omega
 ·have e1:(oV ((w.alloc (.cells ROW E)).drew) w.heap.size (i*sz) vs).drew.heap.size=(oV ((w.alloc (.cells ROW E)).drew) w.heap.size (i*sz) vs).heap.size:=rfl;omega
 ·rw[q5 b0 (by omega)]
  refine(s5 b0 (by omega)).trans ?_
  rw[tu,rD]; simp[fL,gr hb0]
end
def vE{P:Program}{f sz bytes:Nat}(hsz:0<sz)(hby:0<bytes)
  (hI:Pc P f sz bytes) (h0:Pd P f sz)
  {args:List ag} {M:aL} {x:ag×aL} (h:nn sz bytes args M=some x):eP P f args M x:=by
 unfold nn at h;split at h
 ·rename_i id ver sz' lo hi i tk el;rw[eN] at h;split at h
  ·rename_i sz0 v0 xs hM;obtain⟨hc,h⟩:=di h;cases h;obtain⟨rfl,rfl,rfl,rfl,hi0,hin,hel,hroom⟩:=hc;refine nr.call ?_;intro j w vs hr hG hl hv;obtain⟨u1,u2,u3,rfl⟩:=DB hl;have h2:=(hv 1 _ u2 rfl rfl).fP;subst h2;have h3:=(hv 2 _ u3 rfl rfl).w9;have hwe:wid [el] sz':=fun y hy=>by rw[eS.1 hy]; exact hel
   obtain⟨A,vc,rfl,_,h4⟩:=nH h3 hwe;obtain⟨vb,voff,rfl,us,hrl,hul,hone,hcell⟩:=h4.resolve_left (by simp)
   obtain⟨_,hid,_,g⟩:=(hv 0 _ u1 rfl rfl).nB;obtain⟨e1,_,_,⟨rfl,l3,B,rfl⟩|⟨b,cap,row,t0,l3,l4,l5,l6,l7⟩⟩:=(g sz0 v0 xs hM).2 rfl
   ·subst e1;have hm0:i=0:=by simp at hin; omega
    subst hm0;have hvl:us.length=sz0:=by simpa using hul
    refine(h0 B vb voff vc us w #[] hvl (fun p v hp=>(hcell p v hp).1) hone).mono ?_
    rintro e w' ⟨b',cap',row',t',rfl,d1,d2,d3,d4,q,d5⟩
    have hbk:w.heap.size<=b'/\∀b0,b0<w.heap.size->w'.heap[b0]?=w.heap[b0]?:=by
     rcases d5 with ⟨rfl,_,_,d7⟩|d5
     ·exact⟨ar _,fun b0 hb0=>d7 b0 (gr hb0) hb0⟩
     ·exact d5
    have hrel:=Rel.uw (ver':=v0+1) (xs':=[el]) hM hr q hbk.2 hbk.1 (lt_of_block d2) (by omega) (fun j' M' hx=>lJ d2 hwe (hrl.mono hx.hU) (fun p hp=>by have:=d4 p (by omega); simpa using this))
    have hext:=Ext.uw (j:=j) (ver':=v0+1) (xs':=[el]) hM q hbk.2 hbk.1 (by omega)
    rw[fQ];refine⟨_,_,rfl,by simpa using hrel,by simpa using hext,.dk (.inl ⟨b',0,cap',rfl,by simpa using d1⟩) (by simpa using hid) (fun bx hbx=>by rw[dG (aF hM)] at hbx; cases hbx; rfl) fun sz' v' ys hx=>?_⟩
    rw[dG (aF hM)] at hx; injection hx with hx; injection hx with e1 e2 e3
    subst e1; subst e2; subst e3;exact⟨ar _,fun _=>⟨rfl,cA _,by simp,.inr ⟨b',cap',row',t',by simp[gy],by simp,by simpa using d1,d2,by rw[aQ]; exact d3⟩⟩⟩
   subst e1; subst l4;obtain⟨b',row',t',k1,k2,k3,k4,k5⟩:=hr.yf hM l3;rw[l3] at k1; cases k1;rw[l6] at k2; injection k2 with k2; injection k2 with k2 k2'
   subst k2; subst k2';have hrow:=xi (b:=b) k3 k4 k5;rw[bV] at l5;rw[aQ] at l7;generalize hcs:row.toList.take (xs.length*sz0)=cs at hrow;have hcl:cs.length=xs.length*sz0:=by rw[<-hcs]; simp; omega
   have hat:∀p v,cs[p]?=some v->row[p]?=some v:=fun p v hp=>by
    have cu:p<xs.length*sz0:=by rw[<-hcl]; exact aF hp
    rw[<-hcs,bF cu] at hp; simpa using hp
   obtain⟨m,rfl⟩:∃m:Nat,i=m:=⟨i.toNat,(oc (by assumption)).symm⟩
   simp only[bh] at hin ⊢;unfold dQ at hroom;have hbig:xs.length+1<=2 ^ 44:=bj (fx _ hby) hroom;have hvl:us.length=sz0:=by simpa using hul
   have hvb:vb≠b:=by
    rintro rfl;obtain⟨s,n,hs1,_⟩:=(hcell 0 _ (aj (by omega))).2.ids id hid l3
    rw[hM] at hs1; cases hs1
   rw[bV,je];refine(hI b xs.length cap m vb voff vc cs us w row t0 hin l5 (by omega) (by omega) hvb hcl hvl l6 l7 hat (fun p v hp=>(hcell p v hp).1) (fun v hv=>?_) hone).mono ?_
   ·obtain⟨p,hp⟩:=bO hv;have hp':p<(jD xs).length:=by rw[hrow.1]; exact aF hp
    exact fI.one (hrow.2 p _ v (aj hp') hp)
   ·rintro e w' ⟨b',cap',row',t',rfl,d1,d2,d3,d4,q,d5⟩
    have hwd:wid (xs.take m++el::xs.drop m) sz0:=mU (vo k4) (fun y hy=>by
     rcases bc.1 hy with rfl|hy
     ·exact hel
     ·exact vn k4 y hy)
    have iv:RL w (nV j M w) (jD (xs.take m++el::xs.drop m)) (cs.take (m*sz0)++(us++cs.drop (m*sz0))):=by
     rw[ou,ov,rP m k4,tI m k4];have hrl':RL w (nV j M w) el.cells us:=by simpa[jD] using hrl
     exact(hrow.take _).append (hrl'.append (hrow.drop _))
    have eY:(xs.take m++el::xs.drop m).length=xs.length+1:=by simp; omega
    have hpl:(cs.take (m*sz0)++(us++cs.drop (m*sz0))).length=(xs.length+1)*sz0:=by rw[<-iv.1,im hwd,eY]
    rw[fQ];rcases d5 with ⟨rfl,rfl,d6,d7⟩|⟨d6,d7⟩
    ·have hput:=xh (ver':=v0+1) (xs':=xs.take m++el::xs.drop m) hr hM l3 q d7 l6 d2 d6 (by omega) (fun h=>by omega) hwd iv (fun p hp=>d4 p (by rw[<-hpl]; exact hp))
     refine⟨_,j,rfl,hput.1,hput.2,.dk (.inl ⟨b',0,cap',rfl,by omega⟩) (by simpa using hid) (fun bx hbx=>by rw[dG (aF hM)] at hbx; cases hbx; rfl) fun sz' v' ys hx=>?_⟩
     rw[dG (aF hM)] at hx; injection hx with hx; injection hx with e1 e2 e3
     subst e1; subst e2; subst e3;exact⟨ar _,fun _=>⟨rfl,cA _,by omega,.inr ⟨b',cap',row',t',l3,by simp,by omega,d2,by rw[aQ]; exact d3⟩⟩⟩
    ·have hrel:=Rel.uw (ver':=v0+1) (xs':=xs.take m++el::xs.drop m) hM hr q d7 d6 (lt_of_block d2) (by omega) (fun j' M' hx=>lJ d2 hwd (iv.mono hx.hU) (fun p hp=>d4 p (by rw[<-hpl]; exact hp)))
     have hext:=Ext.uw (j:=j) (ver':=v0+1) (xs':=xs.take m++el::xs.drop m) hM q d7 d6 (by omega)
     refine⟨_,_,rfl,hrel,hext,.dk (.inl ⟨b',0,cap',rfl,by omega⟩) (by simpa using hid) (fun bx hbx=>by rw[dG (aF hM)] at hbx; cases hbx; rfl) fun sz' v' ys hx=>?_⟩
     rw[dG (aF hM)] at hx; injection hx with hx; injection hx with e1 e2 e3
     subst e1; subst e2; subst e3;exact⟨ar _,fun _=>⟨rfl,cA _,by omega,.inr ⟨b',cap',row',t',by simp[gy],by simp,by omega,d2,by rw[aQ]; exact d3⟩⟩⟩
  ·cases h
 ·rename_i i tk el;obtain⟨hc,h⟩:=di h;cases h;obtain⟨rfl,hel⟩:=hc;refine nr.call ?_;intro j w vs hr hG hl hv;obtain⟨u1,u2,u3,rfl⟩:=DB hl;have h2:=(hv 1 _ u2 rfl rfl).fP;subst h2;have h3:=(hv 2 _ u3 rfl rfl).w9;have hwe:wid [el] sz:=fun y hy=>by rw[eS.1 hy]; exact hel
  obtain⟨A,vc,rfl,_,h4⟩:=nH h3 hwe;obtain⟨vb,voff,rfl,us,hrl,hul,hone,hcell⟩:=h4.resolve_left (by simp)
  obtain⟨B,rfl⟩:=(hv 0 _ u1 rfl rfl).Cn;have hvl:us.length=sz:=by simpa using hul
  refine(h0 B vb voff vc us w #[] hvl (fun p v hp=>(hcell p v hp).1) hone).mono ?_
  rintro e w' ⟨b',cap',row',t',rfl,d1,d2,d3,d4,q,d5⟩
  have hbk:w.heap.size<=b'/\∀b0,b0<w.heap.size->w'.heap[b0]?=w.heap[b0]?:=by
   rcases d5 with ⟨rfl,_,_,d7⟩|d5
   ·exact⟨ar _,fun b0 hb0=>d7 b0 (gr hb0) hb0⟩
   ·exact d5
  have hob:∀b,some b'=some b->w.heap.size<=b/\b<w'.heap.size:=fun b h=>by cases h; exact⟨hbk.1,lt_of_block d2⟩
  have ext:Ext j M w (gy j M.length (some b')) (M++[.arr sz 0 [el]]) w':=Ext.push (fun b h=>(hob b h).1) q hbk.2
  refine⟨_,gy j M.length (some b'),rfl,hr.push hob q hbk.2 (fun h=>by cases h) (fun sz n b h _=>by cases h) (fun sz0 v0 xs0 he=>?_),ext,?_⟩
  ·injection he with e1 e2 e3
   subst e1; subst e3;refine .inr ⟨b',row',t',rfl,d2,by simp at d1 d3 ⊢; exact bj (Nat.le_mul_of_pos_left _ (by omega)) d3,hwe,fun j' M' hx q x k c hx' hk=>?_⟩
   obtain⟨vs,t,a1,a2,a3,a4⟩:=lJ (j':=j') (M':=M') d2 hwe (hrl.mono hx.hU) (fun p hp=>by have:=d4 p (by omega); simpa using this)
   rw[d2] at a1; injection a1 with a1; injection a1 with a1 a1'
   subst a1;exact a4 q x k c hx' hk
  ·refine .dk (.inl ⟨b',0,cap',rfl,by omega⟩) (by simp) (fun bx hbx=>by rw[lO] at hbx; cases hbx; rfl) fun sz' v' xs hx=>?_
   rw[lO] at hx; injection hx with hx; injection hx with e1 e2 e3
   subst e1; subst e2; subst e3;exact⟨ar _,fun _=>⟨rfl,cA _,ar _,.inr ⟨b',cap',row',t',by simp[gy],by simp,by omega,d2,by rw[aQ]; exact d3⟩⟩⟩
 ·cases h
end Go.Abs
namespace Go.Proofs.YtcbopkblmebjiaaGreatDoor
open Go Go.Abs
open Go.RowKit Go.Lib
def Fy{P:Program}(w:World){o:Oper}{a:Act}{K:Act->World->Prop}{Q:Exit->Act->World->Prop}(d s:Operand)(t t':TypeId)
  (ho:o.op = .call { callee := .builtin .copy,args := #[d,s],argTypes := #[t,t'] }) (v u:Value) (hd:a.eval d=v) (hs:a.eval s=u) {v':Value} {w':World}
  (hr:(Builtin.copy_ #[t,t'] o.type #[v,u]).run P w = .ok v' w') (h:K (a.put o.dst v') w'):o.wp P a w K Q:=by
 unfold Oper.wp execOp;simp only[ho,resolve,invoke,builtin,Sem.run_bind,Sem.run_pure,Result.andThen_ok,List.map_toArray,aW,bp,hd,hs,hr];exact h
def kv{P:Program}(w:World){ops:Array Oper}{rest:List Oper}{o:Oper}{a:Act}{Q:Exit->Act->World->Prop}(hgd:o.guard=none)(d s:Operand)(t t':TypeId)
  (ho:o.op = .call { callee := .builtin .copy,args := #[d,s],argTypes := #[t,t'] }) (v u:Value) (hd:a.eval d=v) (hs:a.eval s=u) {v':Value} {w':World}
  (hr:(Builtin.copy_ #[t,t'] o.type #[v,u]).run P w = .ok v' w') (h:wpList P ops Q rest (a.put o.dst v') w'):wpList P ops Q (o::rest) a w :=
 wpList_plain hgd fun _ hK=>Fy w d s t t' ho v u hd hs hr (hK _ _ h)
def qM{P:Program}{ops:Array Oper}{o:Oper}{a:Act}{w:World}{K:Act->World->Prop}{Q:Exit->Act->World->Prop}{E:Prop}
  (hg:o.guard=none) (d x:Operand) (dT sT:TypeId) (hop:o.op=Op.call { callee:=Callee.builtin Builtin.copy,args := #[d,x],argTypes := #[dT,sT] })
  (v u:Value) (hd:a.eval d=v) (hx:a.eval x=u) {v':Value} {w':World} (hr:(Builtin.copy_ #[dT,sT] o.type #[v,u]).run P w = .ok v' w') (hK:K (a.put o.dst v') w') :
  if Region.wanted o (yielded ops a.tmps) then Oper.wp P o a w K Q else E:=by
 rw[az (show Region.wanted o (yielded ops a.tmps)=true by simp[Region.wanted,hg])]
 exact Fy w d x dT sT hop v u hd hx hr hK
def uE{P:Program}{ops:Array Oper}{o:Oper}{a:Act}{w:World}{K:Act->World->Prop}{Q:Exit->Act->World->Prop}{E:Prop}
  (hg:o.guard=none) (d x:Operand) (dT sT:TypeId) (hop:o.op=Op.call { callee:=Callee.builtin Builtin.append,args := #[d,x],argTypes := #[dT,sT] })
  (v u:Value) (hd:a.eval d=v) (hx:a.eval x=u) {v':Value} {w':World} (hr:(Builtin.append_ #[dT,sT] o.type #[v,u]).run P w = .ok v' w') (hK:K (a.put o.dst v') w') :
  if Region.wanted o (yielded ops a.tmps) then Oper.wp P o a w K Q else E:=by
 rw[az (show Region.wanted o (yielded ops a.tmps)=true by simp[Region.wanted,hg])]
 exact wp_append_run w d x dT sT hop v u hd hx v' w' hr hK
section
variable {P:Program} {S E:TypeId} {k by' f fo:Nat} {z:Value}
def xG(w:World)(dT sT ty elem:TypeId)(k b o dLen dCap:Nat)(a:Addr)(sLen sCap:Nat)(cs:List Value)(m:Nat)
  (hu:P.underlying dT=some (.slice elem)) (hs:(P.info? elem).map (·.size)=some k) (hm:m=Nat.min sLen dLen) (hn:cs.length=m*k)
  (hsrc:∀j v,cs[j]?=some v->w.cell? (a.add j)=some v) (hc:∀j,j<cs.length->(w.cell? ⟨b,o+j,none⟩).isSome=true) (hf:∀j,j<cs.length->w.frozen? ⟨b,o+j,none⟩=false) (h1:∀v∈cs,v.oneCell'=true) :
  (Builtin.copy_ #[dT,sT] ty #[.slice (some ⟨b,o,none⟩) dLen dCap,.slice (some a) sLen sCap]).run P w = .ok (goInt m) (w.setCells b o cs):=by
 have hl:=run_loadCells_list (P:=P) w a cs hsrc;have hst:=run_storeCells_cells (P:=P) b o cs 0 w (by simpa using hc) (by simpa using hf) h1
 cases hq:P.info? elem with
 |none=>simp[hq] at hs
 |some i =>
  have hi:i.size=k:=by simpa[hq] using hs
  simp only[cV] at hst;rw[hn] at hl;subst hm;simp[Builtin.copy_,run_underlying hu,Builtin.lenOf,Builtin.firstCells,sizeOf,typeInfo,hq,hi,hl,hst]
def Dr(w:World)(tS tR e:TypeId)(ht:P.underlying tS=some (.slice e))(size:Nat)(hz:∀w,(Go.sizeOf e).run P w = .ok size w)
  (a b:Addr) (la ca lb cb:Nat) (hne:a.block≠b.block) (tA tB:TypeId) (kA:Nat) (vs:Array Value) (hsa:w.shape? a.block=some (tA,kA+1)) (hb:w.heap[b.block]?=some (.cells vs tB (0,0))) :
  (Extern.SlicesOverlaps.overlaps #[tS,tS] #[tR] #[.slice (some a) la ca,.slice (some b) lb cb]).run P w = .ok (.bool false) w:=by
 have hnb:(a.block != b.block)=true:=by simpa using hne
 have hnb':(a.block==b.block)=false:=by simpa using hne
 have hsb:w.shape? b.block=some (tB,vs.size):=by simp[World.shape?,hb]
 have hfb:∀o s,w.frozen? ⟨b.block,o,s⟩=false:=fun o s=>by simp[World.frozen?,hb]
 have hfb':w.frozen? b=false:=by simp[World.frozen?,hb]
 rw[show Extern.SlicesOverlaps.overlaps #[tS,tS] #[tR] #[.slice (some a) la ca,.slice (some b) lb cb]=(underlying tS >>= _) from rfl]
 by_cases h0:la=0\/lb=0\/size=0
 ·simp[run_underlying ht,hz,h0]
 ·cases hfa:w.frozen? a with
  |true=>simp[run_underlying ht,hz,h0,hnb,hnb',frozen,noView,viewAt,mayBeOne,stringish,shape,Sem.run,hsa,hsb,hfa,hfb,hfb']
  |false =>
   cases hfe:w.frozen? { block:=a.block,off:=kA+1 } <;>
   simp[run_underlying ht,hz,h0,hnb,hnb',frozen,noView,viewAt,mayBeOne,stringish,shape,Sem.run,hsa,hsb,hfa,hfb,hfb',hfe]
def BJ(w:World)(t e ty:TypeId)(ht:P.underlying t=some (.slice e)){i:TypeInfo}(hi:P.info? e=some i){z:Value}(hz:i.zero=some z)(b o n c:Nat)(hn:0<n)
  (zs:List Value) (hzs:zs=(Builtin.zeroCells z.cells n).toList) (hc:∀j,j<zs.length->(w.cell? ⟨b,o+j,none⟩).isSome=true) (hf:∀j,j<zs.length->w.frozen? ⟨b,o+j,none⟩=false) (h1:∀v∈zs,v.oneCell'=true) :
  (Builtin.clear_ #[t] ty #[.slice (some ⟨b,o,none⟩) n c]).run P w = .ok (.tuple #[]) (w.setCells b o zs):=by
 have hst:=run_storeCells_cells (P:=P) b o zs 0 w (by simpa using hc) (by simpa using hf) h1
 simp only[cV] at hst;rw[hzs] at hst;obtain⟨m,rfl⟩:∃m,n=m+1:=⟨n-1,by omega⟩
 rw[hzs];simp[Builtin.clear_,run_underlying ht,zeroValue,typeInfo,hi,hz,hst]
def qo(b:Nat)(vs:List Value)(o:Nat)(w:World)(h:∀j,j<vs.length->(w.cell? ⟨b,o+j,none⟩).isSome=true)(k:Nat)(hk:(w.cell? ⟨b,k,none⟩).isSome=true):((w.setCells b o vs).cell? ⟨b,k,none⟩).isSome=true:=by
 by_cases hin:o<=k/\k<o+vs.length
 ·have:=World.cell?_setCells_in b vs o w h (k-o) (by omega)
  rw[show o+(k-o)=k by omega] at this
  rw[this];simp
 ·rw[World.cell?_setCells_out b vs o w ⟨b,k,none⟩ (fun _ _=>by show k<o\/o+vs.length<=k; omega)]
  exact hk
structure El(P:Program)(S E:TypeId)(k by':Nat)(z:Value):Prop where
 u:P.underlying S=some (.slice E)
 i:∃i0,P.info? E=some i0/\i0.size=k/\i0.zero=some z/\i0.bytes=by'
 c:z.cells.size=k
 o:∀v∈z.cells.toList,v.oneCell'=true
 p:0<k
 b:0<by'
def El.of(hu:P.underlying S=some (.slice E))(hi:(P.info? E).map (fun i=>(i.size,i.zero,i.bytes))=some (k,some z,by'))(hc:z.cells.size=k/\z.cells.toList.all (·.oneCell')=true)(hp:0<k)(hb:0<by'):El P S E k by' z:=by
 obtain⟨i0,h1,h2⟩:=aO.1 hi;injection h2 with h2 h3
 injection h3 with h3 h4
 exact⟨hu,⟨i0,h1,h2,h3,h4⟩,hc.1,bw.1 hc.2,hp,hb⟩
def El.s(h:El P S E k by' z):(P.info? E).map (·.size)=some k:=by
 obtain⟨i0,h1,h2,_⟩:=h.i;rw[h1]; simp[h2]
def El.so(h:El P S E k by' z)(w:World):(Go.sizeOf E).run P w = .ok k w:=by
 obtain⟨i0,h1,h2,_⟩:=h.i;simp[sizeOf,typeInfo,h1,h2]
def El.q(h:El P S E k by' z):(∀(w:World)(a:Option Addr)(n c n' c':Nat),(binOp .eql S (.slice a n c) (.slice none n' c')).run P w = .ok (.bool a.isNone) w)/\∀w,Sem.run P (underlying S) w = .ok (TypeDesc.slice E) w :=
 ⟨fun w a n c n' c'=>Lib.run_eql_slice_nil w _ _ a n c n' c' h.u,run_underlying h.u⟩
def B7(P:Program)(f:Nat)(S E:TypeId):Prop:=∀(b off n c:Nat)(w:World)(K:Value->World->Prop),
 (∀ {ops:Array Oper} {rest:List Oper} {o:Oper} {a:Act} {Q:Exit->Act->World->Prop},o.guard=none->∀s x,o.op = .call { callee := .builtin .append,args := #[s,x],argTypes := #[S,S] }->a.eval s = .slice (some ⟨w.heap.size,0,none⟩) 0 0 ->
  a.eval x = .slice (some ⟨b,off,none⟩) n c->(∀v' w1,K v' w1->wpList P ops Q rest (a.put o.dst v') w1)->wpList P ops Q (o::rest) a (w.alloc (.cells #[] E))) ->
 Calls P f #[.slice (some ⟨b,off,none⟩) n c] w fun e w'=>∃v',e = .returned v'/\K v' w'
def B6(P:Program)(f:Nat)(S E:TypeId):Prop:=∀(A:Option Addr)(c:Nat)(w:World),
 (∀ty a,(Builtin.append_ #[S,S] ty #[.slice (some ⟨w.heap.size,0,none⟩) 0 0,.slice (some a) 0 c]).run P (w.alloc (.cells #[] E)) = .ok (.slice (some ⟨w.heap.size,0,none⟩) 0 0) (w.alloc (.cells #[] E))) ->
 Calls P f #[.slice A 0 c] w fun e w'=>(∃B,e = .returned (.slice B 0 0))/\(w'=w\/w'=w.alloc (.cells #[] E))
def y9(h:El P S E k by' z)(hw:B7 P f S E):BL P f E k by':=by
 intro b off n c news w hl hn hbig hc h1;obtain⟨i0,g1,g2,g3,g4⟩:=h.i;refine(hw b off n c w (fun v' w'=>w'.ownsRow w.heap.size E k v' n news/\v' ≠ .slice none 0 0/\Below w.heap.size w w') ?_).mono fun e w' ⟨v',e1,e2⟩=>⟨v',e1,e2⟩
 intro ops rest o a Q hg s x ho hs hx hK;refine wpList_append_own _ hg s x S ho w.heap.size E i0 z k by' h.u g1 g3 g2 g4 h.c h.p _ _ _ hs (World.ownsRow_made w #[] 0 (ar _) (cA _) (by simp)) ⟨b,off,none⟩ n c news hx hl (fun j u hj=>?_) h1 (by rw[aQ]; exact hn) (by rw[aQ]; exact hbig) (by simp) ?_
 ·rw[Addr.add_lit];exact Lib.cell?_alloc_some _ (hc j u hj)
 ·intro v' w1 hown hgrow hnil;refine hK v' w1 ⟨by simpa using hown,by simpa using hnil,?_⟩
  exact((Below.refl _ w).alloc (ar _) _).grown hgrow (by simp) (by intro k hk; simp[Value.ownBlock] at hk; omega)
def xn(h:El P S E k by' z)(hw:B6 P f S E):yU P f:=by
 intro A c w;refine(hw A c w fun ty a=>?_).mono fun e w' ⟨h1,h2⟩=>⟨h1,?_⟩
 ·simp[Builtin.append_,run_underlying h.u,h.so,Builtin.lenOf,Builtin.firstCells,loadCells,loadCellsFrom,storeCells]
 ·rcases h2 with rfl|rfl
  ·exact Below.refl _ _
  ·exact(Below.refl _ w).alloc (ar _) _
def Uw(P:Program)(f:Nat)(S:TypeId)(k:Nat):Prop:=∀(blk cap i j n:Nat)(A:Addr)(w W1 W2:World),(if cap=j then some (⟨blk,0,none⟩:Addr) else some ⟨blk,j*k,none⟩)=some A ->
 (∀ty,(Builtin.append_ #[S,S] ty #[.slice (some ⟨blk,0,none⟩) i cap,.slice (some A) (n-j) (cap-j)]).run P w.drew = .ok (.slice (some ⟨blk,0,none⟩) (i+(n-j)) cap) W1) ->
 (∀ty,(Builtin.clear_ #[S] ty #[.slice (some ⟨blk,(i+(n-j))*k,none⟩) (n-(i+(n-j))) (cap-(i+(n-j)))]).run P W1 = .ok (.tuple #[]) W2) ->
 n<=cap->n<=9223372036854775807->i<n->i<=cap->i<j->j<=cap->j<=n ->
 Calls P f #[.slice (some ⟨blk,0,none⟩) n cap,.int .i64 i,.int .i64 j] w fun e w'=>e = .returned (.slice (some ⟨blk,0,none⟩) (i+(n-j)) cap)/\w'=W2
def JS(h:El P S E k by' z)(hw:Uw P f S k):Xz P f k z.cells.toList:=by
 intro blk cap i j n cs w hl hcap hm hi hj hH;obtain⟨i0,g1,g2,g3,g4⟩:=h.i;have a1:j*k=i*k+k:=by rw[hj,lZ]
 have a2:j*k<=n*k:=bf _ (by omega)
 have a3:(n-j)*k=n*k-j*k:=lD ..;have a4:(n-1)*k=n*k-k:=by rw[lD,fK]
 obtain⟨news,hnews⟩:∃news,news=cs.drop (j*k):=⟨_,rfl⟩;have eY:news.length=(n-j)*k:=by rw[hnews,iU,hl,a3]
 have hsome:∀p,p<n*k->(w.cell? ⟨blk,p,none⟩).isSome=true/\w.frozen? ⟨blk,p,none⟩=false:=fun p hp=>by
  obtain⟨h1,h2,_⟩:=hH p _ (aj (by omega))
  exact⟨by rw[h1]; rfl,h2⟩
 obtain⟨A,hA,hsrc⟩:∃A:Addr,(if cap=j then some (⟨blk,0,none⟩:Addr) else some ⟨blk,j*k,none⟩)=some A/\∀t u,news[t]?=some u->w.drew.cell? (A.add t)=some u:=by
  by_cases hc:cap=j
  ·refine⟨⟨blk,0,none⟩,by simp[hc],fun t u hu=>?_⟩
   have e0:n-j=0:=by omega
   have h0:news.length=0:=by rw[eY,e0,je]
   rw[ct.1 h0] at hu;simp at hu
  ·refine⟨⟨blk,j*k,none⟩,by simp[hc],fun t u hu=>?_⟩
   rw[hnews,cI] at hu;rw[Addr.add_lit];exact(hH _ _ hu).1
 have s2:∀u∈news,u.oneCell'=true:=by
  intro u hu;rw[hnews] at hu;obtain⟨p,hp⟩:=bO (dy hu);exact(hH p u hp).2.2
 have hW1c:∀p,p<n*k->((w.drew.setCells blk (i*k) news).cell? ⟨blk,p,none⟩).isSome=true:=fun p hp =>
  qo blk news _ w.drew (fun q hq=>(hsome (i*k+q) (by rw[eY] at hq; omega)).1) p (hsome p hp).1
 have hW1f:∀p,p<n*k->(w.drew.setCells blk (i*k) news).frozen? ⟨blk,p,none⟩=false:=fun p hp=>by
  rw[World.frozen?_setCells];exact(hsome p hp).2
 have hin:i+(n-j)=n-1:=by omega
 have hzl:z.cells.toList.length=k:=by simp[h.c]
 have hzz:∀q,q<z.cells.toList.length->(n-1)*k+q<n*k:=fun q hq=>by
  have:k<=n*k:=Nat.le_mul_of_pos_left _ (by omega)
  omega
 refine(hw blk cap i j n A w (w.drew.setCells blk (i*k) news) ((w.drew.setCells blk (i*k) news).setCells blk ((n-1)*k) z.cells.toList) hA (fun ty=>?_) (fun ty=>?_) hcap hm hi (by omega) (by omega) (by omega) (by omega)).mono ?_
 ·have hr:=run_append_room_cells (P:=P) w.drew S ty E i0 h.u g1 blk 0 i cap A (n-j) (cap-j) news (by rw[g2,eY]) hsrc s2 (by omega) (fun q hq=>by rw[g2,aQ]; exact(hsome _ (by omega)).1) (fun q hq=>by rw[g2,aQ]; exact(hsome _ (by omega)).2)
  rw[g2,aQ] at hr;exact hr
 ·rw[hin];exact BJ _ _ _ ty h.u g1 g3 blk _ _ _ (by omega) _ (by rw[show n-(n-1)=1 by omega,ru]; simp) (fun q hq=>hW1c _ (hzz q hq)) (fun q hq=>hW1f _ (hzz q hq)) h.o
 ·rintro e w' ⟨rfl,rfl⟩;exact⟨by rw[hin],by rw[hnews]⟩
def FT(P:Program)(f fo:Nat)(S:TypeId)(k:Nat):Prop:=∀(b n c i vb voff vc:Nat)(vs:List Value)(w W1:World),
 (∀lb cb,(callFunc fo #[.slice (some ⟨vb,voff,none⟩) 1 vc,.slice (some ⟨b,(i+1)*k,none⟩) lb cb]).run P w = .ok (.value (.bool false)) w) ->
 (∀ty dc sc,(Builtin.copy_ #[S,S] ty #[.slice (some ⟨b,(i+1)*k,none⟩) (n-i) dc,.slice (some ⟨b,i*k,none⟩) (n+1-i) sc]).run P w.drew = .ok (goInt ((n-i:Nat):Int)) W1) ->
 (∀W:World,(∀x,W.cell? x=W1.cell? x)->(∀x,W.frozen? x=W1.frozen? x)->∀ty dc,(Builtin.copy_ #[S,S] ty #[.slice (some ⟨b,i*k,none⟩) (n+1-i) dc,.slice (some ⟨vb,voff,none⟩) 1 vc]).run P W = .ok (goInt 1) (W.setCells b (i*k) vs)) ->
 i<n->n+1<=c->n+1<=9223372036854775807->¬((i:Int)=(n:Int))->IntKind.i64.wrap ((i:Int)+1)=(i:Int)+1->(0:Int)<=(i:Int)+1->i<=n->((i:Int)+1).toNat=i+1->¬(c=i+1)->(i:Int)<=(n:Int)+1->¬(c=i) ->
 Calls P f #[.slice (some ⟨b,0,none⟩) n c,.int .i64 i,.slice (some ⟨vb,voff,none⟩) 1 vc] w fun e w'=>e = .returned (.slice (some ⟨b,0,none⟩) (n+1) c)/\w'=W1.setCells b (i*k) vs
def Pb(P:Program)(f:Nat)(S:TypeId):Prop:=∀(bN:Option Addr)(n c vb voff vc:Nat)(V:Value)(w W:World),
 (∀ty,(Builtin.append_ #[S,S] ty #[.slice bN n c,.slice (some ⟨vb,voff,none⟩) 1 vc]).run P w = .ok V W)->n<=c->n+1<=9223372036854775807->(bN=none->n=0) ->
 Calls P f #[.slice bN n c,.int .i64 n,.slice (some ⟨vb,voff,none⟩) 1 vc] w fun e w'=>e = .returned V/\w'=W
def Lb(P:Program)(f:Nat)(S E:TypeId)(k:Nat):Prop:=∀(b n c i G vb voff vc:Nat)(ROW:Array Value)(vs ds:List Value)(w:World),
 (∀ty,(Builtin.append_ #[S,3] ty #[.slice (some ⟨b,0,none⟩) i c,.int .i64 ((n:Int)+1-(i:Int))]).run P w = .ok (.slice (some ⟨w.heap.size,0,none⟩) (n+1) G) (w.drew.alloc (.cells ROW E))) ->
 (∀W:World,(∀x,W.cell? x=(w.drew.alloc (.cells ROW E)).cell? x)->(∀x,W.frozen? x=(w.drew.alloc (.cells ROW E)).frozen? x)->∀ty dc,(Builtin.copy_ #[S,S] ty #[.slice (some ⟨w.heap.size,i*k,none⟩) (n+1-i) dc,.slice (some ⟨vb,voff,none⟩) 1 vc]).run P W = .ok (goInt 1) (W.setCells w.heap.size (i*k) vs)) ->
 (∀W:World,(∀x,W.cell? x=((w.drew.alloc (.cells ROW E)).setCells w.heap.size (i*k) vs).cell? x)->(∀x,W.frozen? x=((w.drew.alloc (.cells ROW E)).setCells w.heap.size (i*k) vs).frozen? x)->∀ty dc sc,
  (Builtin.copy_ #[S,S] ty #[.slice (some ⟨w.heap.size,(i+1)*k,none⟩) (n+1-(i+1)) dc,.slice (some ⟨b,i*k,none⟩) (n-i) sc]).run P W = .ok (goInt ((n-i:Nat):Int)) (W.setCells w.heap.size ((i+1)*k) ds)) ->
 (∀x,((w.alloc (.cells ROW E)).drew).cell? x=(w.drew.alloc (.cells ROW E)).cell? x)->(∀x,((w.alloc (.cells ROW E)).drew).frozen? x=(w.drew.alloc (.cells ROW E)).frozen? x) ->
 (∀x,(((w.alloc (.cells ROW E)).drew.setCells w.heap.size (i*k) vs).drew).cell? x=((w.drew.alloc (.cells ROW E)).setCells w.heap.size (i*k) vs).cell? x) ->
 (∀x,(((w.alloc (.cells ROW E)).drew.setCells w.heap.size (i*k) vs).drew).frozen? x=((w.drew.alloc (.cells ROW E)).setCells w.heap.size (i*k) vs).frozen? x) ->
 i<n->n<=c->c<n+1->¬((i:Int)=(n:Int))->(c:Int)<(n:Int)+1->n+1<=G->G<=9223372036854775807->¬(G=i)->¬(G=i+1)->¬(c=i)->IntKind.i64.wrap ((i:Int)+1)=(i:Int)+1->(0:Int)<=(i:Int)+1->i<=n->((i:Int)+1).toNat=i+1->(i:Int)<=(n:Int)->n+1<=140737488355328 ->
 Calls P f #[.slice (some ⟨b,0,none⟩) n c,.int .i64 i,.slice (some ⟨vb,voff,none⟩) 1 vc] w fun e w'=>e = .returned (.slice (some ⟨w.heap.size,0,none⟩) (n+1) G) /\
  w'=(((w.alloc (.cells ROW E)).drew.setCells w.heap.size (i*k) vs).drew).setCells w.heap.size ((i+1)*k) ds
def Ua{w:World}{vb voff:Nat}{v:Value}(h0:w.cell? ⟨vb,voff,none⟩=some v):∃tA kA,w.shape? vb=some (tA,kA+1):=by
 unfold World.cell? at h0;unfold World.shape?;split at h0
 ·rename_i cc ee ff hb;simp only[hb];simp at h0;have:=(fq.1 h0).1;exact⟨ee,cc.size-1,by simp; omega⟩
 ·cases h0
def F8(h:El P S E k by' z)(h3:P.underlying 3=some (.int .i64))(ho:∀args w,(callFunc fo args).run P w=((Extern.SlicesOverlaps.overlaps #[S,S] #[4] args).run P w).andThen fun v w' => .ok (.value v) w')
  (hS:FT P f fo S k) (hE:Pb P f S) (hG:Lb P f S E k):Pc P f k by':=by
 intro b n c i vb voff vc cs vs w row tB hi hnc hbig h63 hvb hcl hvl hw hrow hat hvs h1c h1v;obtain⟨i0,hi0,hzs,hz0,hzb⟩:=h.i;have hk:=h.p;have hcs:∀(p:Nat)(v:Value),cs[p]?=some v->w.cell? ⟨b,p,none⟩=some v:=fun p v hp=>by simp[World.cell?,hw,hat p v hp]
 have hfz:∀j,w.frozen? ⟨b,j,none⟩=false:=fun j=>by simp[World.frozen?,hw]
 have a1:(n+1)*k=n*k+k:=lZ ..;have a2:(i+1)*k=i*k+k:=lZ ..;have a3:(n-i)*k=n*k-i*k:=lD ..;have a4:i*k<=n*k:=bf _ hi;have hdl:(cs.drop (i*k)).length=(n-i)*k:=by rw[iU,hcl,a3]
 have hv0:=hvs 0 _ (aj (by omega))
 have hle:n+1<=140737488355328:=bj (fx _ h.b) hbig;have hw1:IntKind.i64.wrap ((i:Int)+1)=(i:Int)+1:=by rw[IntKind.wrap_i64]; omega
 have hmin:1=Nat.min 1 (n+1-i):=by simp only[Nat.min_def]; split<;>omega
 by_cases hroom:n+1<=c
 ·have hr0:(n+1)*k<=row.size:=bj (bf _ hroom) hrow
  have hsp:∀j,j<(n+1)*k->(w.cell? ⟨b,j,none⟩).isSome=true:=fun j hj=>by
   simp[World.cell?,hw,bb (show j<row.size by omega)]
  by_cases hin:i<n
  ·have a5:(i+1)*k<=n*k:=bf _ hin;obtain⟨tA,kA,hsa⟩:=Ua hv0;refine(hS b n c i vb voff vc vs w (w.drew.setCells b ((i+1)*k) (cs.drop (i*k))) (fun lb cb=>?_) (fun ty dc sc=>?_) (fun W hWc hWf ty dc=>?_) hin hroom h63 (by omega) hw1 (by omega) (by omega) (by omega) (by omega) (by omega) (by omega)).mono ?_
   ·rw[ho,Dr w S 4 E h.u k h.so ⟨vb,voff,none⟩ ⟨b,(i+1)*k,none⟩ 1 vc lb cb hvb tA tB kA row hsa hw];rfl
   ·exact xG w.drew _ _ ty E k b ((i+1)*k) (n-i) dc ⟨b,i*k,none⟩ (n+1-i) sc (cs.drop (i*k)) (n-i) h.u h.s (by simp only[Nat.min_def]; split<;>omega) hdl
     (fun j v hj=>by rw[Addr.add_lit]; exact hcs (i*k+j) v (by rwa[cI] at hj))
     (fun j hj=>hsp ((i+1)*k+j) (by omega)) (fun j hj=>hfz _) (fun v hv=>h1c v (dy hv))
   ·exact xG W _ _ ty E k b (i*k) (n+1-i) dc ⟨vb,voff,none⟩ 1 vc vs 1 h.u h.s hmin (by rw[hvl,fK])
     (fun j v hj=>by
      rw[Addr.add_lit,hWc,World.cell?_setCells_out b _ _ _ _ (fun h _=>absurd h hvb)]
      exact hvs j v hj)
     (fun j hj=>by rw[hWc]; exact qo b _ _ w.drew (fun j hj=>hsp ((i+1)*k+j) (by omega)) _ (hsp (i*k+j) (by omega)))
     (fun j hj=>by rw[hWf,World.frozen?_setCells]; exact hfz _) h1v
   ·rintro e w' ⟨he,hw'⟩;exact NL hin hroom hcl hvl hw hrow hat he hw'
  ·obtain rfl:i=n:=by omega
   refine(hE (some ⟨b,0,none⟩) i c vb voff vc (.slice (some ⟨b,0,none⟩) (i+1) c) w (w.setCells b (i*k) vs) (fun ty=>?_) hnc h63 (by simp)).mono ?_
   ·have hr:=run_append_room_cells (P:=P) w S ty E i0 h.u hi0 b 0 i c ⟨vb,voff,none⟩ 1 vc vs (by rw[hzs,hvl,fK]) (fun j u hj=>by rw[Addr.add_lit]; exact hvs j u hj) h1v hroom
     (fun j hj=>by rw[hzs,aQ]; exact hsp _ (by omega)) (fun j hj=>hfz _)
    rw[hzs,aQ] at hr;exact hr
   ·rintro e w' ⟨he,hw'⟩;exact Qy hroom hcl hvl hw hrow hat he hw'
 ·have hGc:=grownCap_ge w (n+1) c E
  by_cases hin:i<n
  ·have a5:(i+1)*k<=n*k:=bf _ hin;have hbw:b<w.heap.size:=lt_of_block hw;have hvw:vb<w.heap.size:=block_lt_of_cell hv0;have hik:i+(n+1-i)=n+1:=by omega
   have hold:(Builtin.firstCells i0.size i (.slice (some ⟨b,0,none⟩) i c)).run P w.drew = .ok (cs.take (i*k)).toArray w.drew:=by
    rw[hzs]
    exact run_firstCells_some w.drew k i ⟨b,0,none⟩ i c (cs.take (i*k)) (by rw[gi]; omega) (fun j v hj=>by
     rw[Addr.add_lit,aQ];rw[gI] at hj;split at hj
     ·exact hcs j v hj
     ·cases hj)
   obtain⟨ROW,hROW⟩:∃ROW:Array Value,ROW=(cs.take (i*k)).toArray++Builtin.zeroCells z.cells (n+1-i)++Builtin.zeroCells z.cells (grownCap w (n+1) c E-(n+1)):=⟨_,rfl⟩
   have hRl:(n+1)*k<=ROW.size:=by
    have e1:(n+1-i)*k=(n+1)*k-i*k:=lD ..;rw[hROW];simp only[Builtin.zeroCells,fT,Array.size_map,Array.size_range,h.c,cJ,gi,hcl];omega
   have hN:∀j,j<(n+1)*k->((w.drew.alloc (.cells ROW E)).cell? ⟨w.heap.size,j,none⟩).isSome=true:=fun j hj=>by
    rw[World.cell?_alloc_at (w:=w.drew) ROW _ w.heap.size j rfl,bb (by omega)]; rfl
   have hNf:∀j,(w.drew.alloc (.cells ROW E)).frozen? ⟨w.heap.size,j,none⟩=false:=fun j=>World.frozen?_alloc_at (w:=w.drew) ROW _ w.heap.size j rfl
   have hG63:grownCap w (n+1) c E<=9223372036854775807:=by
    have:=grownCap_le_maxLen w (n+1) c E (by unfold maxLen; omega)
    unfold maxLen at this;omega
   refine(hG b n c i (grownCap w (n+1) c E) vb voff vc ROW vs (cs.drop (i*k)) w (fun ty=>?_) (fun W hWc hWf ty dc=>?_) (fun W hWc hWf ty dc sc=>?_) (fun _=>rfl) (fun _=>rfl) (fun _=>rfl) (fun _=>rfl)
    hin hnc (by omega) (by omega) (by omega) hGc hG63 (by omega) (by omega) (by omega) hw1 (by omega) (by omega) (by omega) (by omega) hle).mono ?_
   ·have hr:=Lib.run_append_grow_zeros w S 3 ty E i0 _ .i64 .i64 h.u h3 hi0 hz0 (some ⟨b,0,none⟩) i c (cs.take (i*k)) hold (n+1-i) (by omega) (by omega) (by omega) (by omega)
     (by rw[hzb]; exact bj (bf _ (by omega:n+1-i<=n+1)) (by omega)) (by rw[hzb,hik]; exact growslice_fits (by omega) hbig)
    rw[hik] at hr;rw[show(n:Int)+1-(i:Int)=((n+1-i:Nat):Int) by omega,hROW]
    exact hr
   ·exact xG W _ _ ty E k w.heap.size (i*k) (n+1-i) dc ⟨vb,voff,none⟩ 1 vc vs 1 h.u h.s hmin (by rw[hvl,fK])
     (fun j v hj=>by rw[Addr.add_lit,hWc,World.cell?_alloc_past (w:=w.drew) _ vb _ hvw]; exact hvs j v hj)
     (fun j hj=>by rw[hWc]; exact hN (i*k+j) (by omega)) (fun j hj=>by rw[hWf]; exact hNf _) h1v
   ·exact xG W _ _ ty E k w.heap.size ((i+1)*k) (n+1-(i+1)) dc ⟨b,i*k,none⟩ (n-i) sc (cs.drop (i*k)) (n-i) h.u h.s (by simp only[Nat.min_def]; split<;>omega) hdl
     (fun j v hj=>by
      rw[Addr.add_lit,hWc,World.cell?_setCells_out _ _ _ _ _ (fun h _=>absurd h (by show b≠w.heap.size; omega)),World.cell?_alloc_past (w:=w.drew) _ b _ hbw]
      exact hcs (i*k+j) v (by rwa[cI] at hj))
     (fun j hj=>by rw[hWc]; exact qo _ _ _ _ (fun t ht=>hN (i*k+t) (by omega)) _ (hN ((i+1)*k+j) (by omega)))
     (fun j hj=>by rw[hWf,World.frozen?_setCells]; exact hNf _) (fun v hv=>h1c v (dy hv))
   ·rintro e w' ⟨he,hw'⟩;rw[hROW] at hw';exact Qx hk h.c hin hcl hvl hGc he hw'
  ·obtain rfl:i=n:=by omega
   refine(hE (some ⟨b,0,none⟩) i c vb voff vc _ w _ (fun ty=>run_append_grow_src w S S ty E i0 z h.u hi0 hz0 (some ⟨b,0,none⟩) i c cs ?_ _ 1 vs ?_ (by omega) (by omega) (by rw[hzb]; exact growslice_fits (by omega) hbig)) hnc h63 (by simp)).mono ?_
   ·rw[hzs];exact run_firstCells_some w.drew k i _ i c cs hcl (fun j v hj=>by rw[Addr.add_lit,aQ]; exact hcs j v hj)
   ·rw[hzs];exact Src.ofSlice w h.u ⟨vb,voff,none⟩ 1 vc vs (by rw[hvl,fK]) (fun j u hj=>by rw[Addr.add_lit]; exact hvs j u hj) h1v
   ·rintro e w' ⟨he,hw'⟩;exact zj hk h.c hcl hvl hGc he hw'
def F9(h:El P S E k by' z)(hby:by'<=140737488355328)(hE:Pb P f S):Pd P f k:=by
 intro A vb voff vc vs w row hvl hvs h1v;obtain⟨i0,hi0,hzs,hz0,hzb⟩:=h.i;refine(hE A 0 0 vb voff vc _ w _ (fun ty=>run_append_grow_src w S S ty E i0 z h.u hi0 hz0 A 0 0 [] ?_ _ 1 vs ?_ (by omega) (by omega) (by rw[hzb]; exact growslice_fits (by omega) (by omega))) (ar _) (by omega) (fun _=>rfl)).mono ?_
 ·rw[hzs];cases A with
  |none=>exact run_firstCells_none w.drew k 0 0 0
  |some a=>exact run_firstCells_some w.drew k 0 a 0 0 [] (by simp) (fun j v hj=>by simp at hj)
 ·rw[hzs];exact Src.ofSlice w h.u ⟨vb,voff,none⟩ 1 vc vs (by rw[hvl,fK]) (fun j u hj=>by rw[Addr.add_lit]; exact hvs j u hj) h1v
 ·rintro e w' ⟨he,hw'⟩;exact zj h.p h.c (by simp) hvl (grownCap_ge w 1 0 E) he hw'
end
section
set_option maxHeartbeats 4000000
set_option maxRecDepth 1000000
def mix:Tryz.prog.follows .mixedOrders=true:=by kernel_rfl
def J0:El Tryz.prog 58 129 3 32 (.agg #[.string ⟨#[]⟩,.int .i64 0,.int .i64 0]) := .of underlying58 (by kernel_rfl) ⟨rfl,rfl⟩ (by omega) (by omega)
def JZ:El Tryz.prog 40 60 6 80 (.agg #[.int .i64 0,.int .i64 0,.int .i64 0,.slice none 0 0,.slice none 0 0,.int .i64 0]) := .of underlying40 (by kernel_rfl) ⟨rfl,rfl⟩ (by omega) (by omega)
def JY:El Tryz.prog 29 65 3 32 (.agg #[.string ⟨#[]⟩,.int .i64 0,.int .i64 0]) := .of underlying29 (by kernel_rfl) ⟨rfl,rfl⟩ (by omega) (by omega)
def Vi:El Tryz.prog 35 9 1 16 (.string ⟨#[]⟩) := .of underlying35 (by kernel_rfl) ⟨rfl,rfl⟩ (by omega) (by omega)
def afT:B7 Tryz.prog 218 58 129:=by
 intro b off n c w K hap;have mixed:=mix;have t25:=underlying58;obtain⟨q22,u22⟩:=J0.q
 go_enter func218,ntmps218
 go_wp2_with (at_builtin; refine hap rfl _ _ rfl rfl rfl ?_)
 intro v' w1 hK
 go_wp2
 go_ret
 exact⟨v',rfl,hK⟩
def afN:B6 Tryz.prog 218 58 129:=by
 intro A c w hrun;have mixed:=mix;have t25:=underlying58;obtain⟨q22,u22⟩:=J0.q;cases A with
 |none =>
  go_enter func218,ntmps218
  go_wp2
  go_ret
  exact⟨⟨_,rfl⟩,.inl rfl⟩
 |some a =>
  go_enter func218,ntmps218
  go_wp2_with (at_builtin; refine Lib.wpList_append_run _ rfl _ _ _ _ rfl _ _ rfl rfl _ _ (hrun _ _) ?_)
  go_ret
  exact⟨⟨_,rfl⟩,.inr rfl⟩
def afU:B7 Tryz.prog 234 40 60:=by
 intro b off n c w K hap;have mixed:=mix;have t25:=underlying40;obtain⟨q22,u22⟩:=JZ.q
 go_enter func234,ntmps234
 go_wp2_with (at_builtin; refine hap rfl _ _ rfl rfl rfl ?_)
 intro v' w1 hK
 go_wp2
 go_ret
 exact⟨v',rfl,hK⟩
def afO:B6 Tryz.prog 234 40 60:=by
 intro A c w hrun;have mixed:=mix;have t25:=underlying40;obtain⟨q22,u22⟩:=JZ.q;cases A with
 |none =>
  go_enter func234,ntmps234
  go_wp2
  go_ret
  exact⟨⟨_,rfl⟩,.inl rfl⟩
 |some a =>
  go_enter func234,ntmps234
  go_wp2_with (at_builtin; refine Lib.wpList_append_run _ rfl _ _ _ _ rfl _ _ rfl rfl _ _ (hrun _ _) ?_)
  go_ret
  exact⟨⟨_,rfl⟩,.inr rfl⟩
def afS:B7 Tryz.prog 145 29 65:=by
 intro b off n c w K hap;have mixed:=mix;have t25:=underlying29;obtain⟨q22,u22⟩:=JY.q
 go_enter func145,ntmps145
 go_wp2_with (at_builtin; refine hap rfl _ _ rfl rfl rfl ?_)
 intro v' w1 hK
 go_wp2
 go_ret
 exact⟨v',rfl,hK⟩
def afM:B6 Tryz.prog 145 29 65:=by
 intro A c w hrun;have mixed:=mix;have t25:=underlying29;obtain⟨q22,u22⟩:=JY.q;cases A with
 |none =>
  go_enter func145,ntmps145
  go_wp2
  go_ret
  exact⟨⟨_,rfl⟩,.inl rfl⟩
 |some a =>
  go_enter func145,ntmps145
  go_wp2_with (at_builtin; refine Lib.wpList_append_run _ rfl _ _ _ _ rfl _ _ rfl rfl _ _ (hrun _ _) ?_)
  go_ret
  exact⟨⟨_,rfl⟩,.inr rfl⟩
def afR:B7 Tryz.prog 107 35 9:=by
 intro b off n c w K hap;have mixed:=mix;have t25:=underlying35;obtain⟨q22,u22⟩:=Vi.q
 go_enter func107,ntmps107
 go_wp2_with (at_builtin; refine hap rfl _ _ rfl rfl rfl ?_)
 intro v' w1 hK
 go_wp2
 go_ret
 exact⟨v',rfl,hK⟩
def afL:B6 Tryz.prog 107 35 9:=by
 intro A c w hrun;have mixed:=mix;have t25:=underlying35;obtain⟨q22,u22⟩:=Vi.q;cases A with
 |none =>
  go_enter func107,ntmps107
  go_wp2
  go_ret
  exact⟨⟨_,rfl⟩,.inl rfl⟩
 |some a =>
  go_enter func107,ntmps107
  go_wp2_with (at_builtin; refine Lib.wpList_append_run _ rfl _ _ _ _ rfl _ _ rfl rfl _ _ (hrun _ _) ?_)
  go_ret
  exact⟨⟨_,rfl⟩,.inr rfl⟩
def afX:Uw Tryz.prog 233 40 6:=by
 intro blk cap i j n A w W1 W2 hA hap hcl hcap hm hi hic hij hjc hjn;have mixed:=mix;have t25:=underlying40
 go_enter func233,ntmps233
 go_wp2_with fail
 go_region_law_o (refine uE rfl _ _ 40 40 rfl _ _ (by simp[Act.eval,Act.put]) (by simp[Act.eval,Act.put]) (hap _) ?_)
 go_wp2
 go_ret
 exact⟨rfl,rfl⟩
def afY:Uw Tryz.prog 252 58 3:=by
 intro blk cap i j n A w W1 W2 hA hap hcl hcap hm hi hic hij hjc hjn;have mixed:=mix;have t25:=underlying58
 go_enter func252,ntmps252
 go_wp2_with fail
 go_region_law_o (refine uE rfl _ _ 58 58 rfl _ _ (by simp[Act.eval,Act.put]) (by simp[Act.eval,Act.put]) (hap _) ?_)
 go_wp2
 go_ret
 exact⟨rfl,rfl⟩
def afW:Uw Tryz.prog 163 29 3:=by
 intro blk cap i j n A w W1 W2 hA hap hcl hcap hm hi hic hij hjc hjn;have mixed:=mix;have t25:=underlying29
 go_enter func163,ntmps163
 go_wp2_with fail
 go_region_law_o (refine uE rfl _ _ 29 29 rfl _ _ (by simp[Act.eval,Act.put]) (by simp[Act.eval,Act.put]) (hap _) ?_)
 go_wp2
 go_ret
 exact⟨rfl,rfl⟩
def aia:FT Tryz.prog 249 274 40 6:=by
 intro b n c i vb voff vc vs w W1 hov hcp1 hcp2 hi hroom hc63 hz2 hw1 hb1 hin htn hb2 hb3 hb4;have mixed:=mix;have t25:=underlying40
 go_enter func249,ntmps249
 go_wp2_with (simp only[hov])
 go_region_law_o (refine qM rfl _ _ 40 40 rfl _ _ (by simp[Act.eval,Act.put]) (by simp[Act.eval,Act.put]) (hcp1 _ _ _) ?_)
 go_wp2_with (at_builtin; refine kv _ rfl _ _ 40 40 rfl _ _ rfl rfl (hcp2 _ (fun _=>rfl) (fun _=>rfl) _ _) ?_)
 go_ret
 exact⟨rfl,rfl⟩
def XQ:Pb Tryz.prog 249 40:=by
 intro bN n c vb voff vc V w W hrun hnc hroom hnil;have t25:=underlying40
 go_enter func249,ntmps249
 cases bN with
 |none =>
  have h0:=hnil rfl;subst h0
  go_wp2_with (at_builtin; refine Lib.wpList_append_run _ rfl _ _ _ _ rfl _ _ rfl rfl _ _ (hrun _) ?_)
  go_ret
  exact⟨rfl,rfl⟩
 |some a =>
  obtain⟨ab,ao,asp⟩:=a
  go_wp2_with (at_builtin; refine Lib.wpList_append_run _ rfl _ _ _ _ rfl _ _ rfl rfl _ _ (hrun _) ?_)
  all_goals (go_ret; exact⟨rfl,rfl⟩)
def agV:Lb Tryz.prog 249 40 60 6:=by
 intro b n c i G vb voff vc ROW vs ds w hrz hcpA hcpB hE1 hE2 hF1 hF2 hi hnc hroom hz2 hz3 hGn hG63 hGi hGim hci hw1 hb1 hin htn hb3 hle;have mixed:=mix;have t25:=underlying40
 go_enter func249,ntmps249
 go_wp2_with (first
  |(at_builtin; refine Lib.wpList_append_run _ rfl _ _ _ _ rfl _ _ rfl rfl _ _ (hrz _) ?_)
  |(at_builtin; refine kv _ rfl _ _ 40 40 rfl _ _ rfl rfl (hcpA _ hE1 hE2 _ _) ?_)
  |(at_builtin; refine kv _ rfl _ _ 40 40 rfl _ _ rfl rfl (hcpB _ (fun _=>rfl) (fun _=>rfl) _ _ _) ?_))
 go_region_law_o (refine qM rfl _ _ 40 40 rfl (.slice (some ⟨w.heap.size,(i+1)*6,none⟩) (n+1-(i+1)) (G-(i+1))) (.slice (some ⟨b,i*6,none⟩) (n-i) (c-i)) (by simp[Act.eval,Act.put]) (by simp[Act.eval,Act.put]) (hcpB _ hF1 hF2 3 (G-(i+1)) (c-i)) ?_)
 go_wp2
 go_ret
 exact⟨rfl,rfl⟩
def aib:FT Tryz.prog 250 276 58 3:=by
 intro b n c i vb voff vc vs w W1 hov hcp1 hcp2 hi hroom hc63 hz2 hw1 hb1 hin htn hb2 hb3 hb4;have mixed:=mix;have t25:=underlying58
 go_enter func250,ntmps250
 go_wp2_with (simp only[hov])
 go_region_law_o (refine qM rfl _ _ 58 58 rfl _ _ (by simp[Act.eval,Act.put]) (by simp[Act.eval,Act.put]) (hcp1 _ _ _) ?_)
 go_wp2_with (at_builtin; refine kv _ rfl _ _ 58 58 rfl _ _ rfl rfl (hcp2 _ (fun _=>rfl) (fun _=>rfl) _ _) ?_)
 go_ret
 exact⟨rfl,rfl⟩
def XR:Pb Tryz.prog 250 58:=by
 intro bN n c vb voff vc V w W hrun hnc hroom hnil;have t25:=underlying58
 go_enter func250,ntmps250
 cases bN with
 |none =>
  have h0:=hnil rfl;subst h0
  go_wp2_with (at_builtin; refine Lib.wpList_append_run _ rfl _ _ _ _ rfl _ _ rfl rfl _ _ (hrun _) ?_)
  go_ret
  exact⟨rfl,rfl⟩
 |some a =>
  obtain⟨ab,ao,asp⟩:=a
  go_wp2_with (at_builtin; refine Lib.wpList_append_run _ rfl _ _ _ _ rfl _ _ rfl rfl _ _ (hrun _) ?_)
  all_goals (go_ret; exact⟨rfl,rfl⟩)
def agW:Lb Tryz.prog 250 58 129 3:=by
 intro b n c i G vb voff vc ROW vs ds w hrz hcpA hcpB hE1 hE2 hF1 hF2 hi hnc hroom hz2 hz3 hGn hG63 hGi hGim hci hw1 hb1 hin htn hb3 hle;have mixed:=mix;have t25:=underlying58
 go_enter func250,ntmps250
 go_wp2_with (first
  |(at_builtin; refine Lib.wpList_append_run _ rfl _ _ _ _ rfl _ _ rfl rfl _ _ (hrz _) ?_)
  |(at_builtin; refine kv _ rfl _ _ 58 58 rfl _ _ rfl rfl (hcpA _ hE1 hE2 _ _) ?_)
  |(at_builtin; refine kv _ rfl _ _ 58 58 rfl _ _ rfl rfl (hcpB _ (fun _=>rfl) (fun _=>rfl) _ _ _) ?_))
 go_region_law_o (refine qM rfl _ _ 58 58 rfl (.slice (some ⟨w.heap.size,(i+1)*3,none⟩) (n+1-(i+1)) (G-(i+1))) (.slice (some ⟨b,i*3,none⟩) (n-i) (c-i)) (by simp[Act.eval,Act.put]) (by simp[Act.eval,Act.put]) (hcpB _ hF1 hF2 3 (G-(i+1)) (c-i)) ?_)
 go_wp2
 go_ret
 exact⟨rfl,rfl⟩
def ah9:FT Tryz.prog 160 211 29 3:=by
 intro b n c i vb voff vc vs w W1 hov hcp1 hcp2 hi hroom hc63 hz2 hw1 hb1 hin htn hb2 hb3 hb4;have mixed:=mix;have t25:=underlying29
 go_enter func160,ntmps160
 go_wp2_with (simp only[hov])
 go_region_law_o (refine qM rfl _ _ 29 29 rfl _ _ (by simp[Act.eval,Act.put]) (by simp[Act.eval,Act.put]) (hcp1 _ _ _) ?_)
 go_wp2_with (at_builtin; refine kv _ rfl _ _ 29 29 rfl _ _ rfl rfl (hcp2 _ (fun _=>rfl) (fun _=>rfl) _ _) ?_)
 go_ret
 exact⟨rfl,rfl⟩
def XP:Pb Tryz.prog 160 29:=by
 intro bN n c vb voff vc V w W hrun hnc hroom hnil;have t25:=underlying29
 go_enter func160,ntmps160
 cases bN with
 |none =>
  have h0:=hnil rfl;subst h0
  go_wp2_with (at_builtin; refine Lib.wpList_append_run _ rfl _ _ _ _ rfl _ _ rfl rfl _ _ (hrun _) ?_)
  go_ret
  exact⟨rfl,rfl⟩
 |some a =>
  obtain⟨ab,ao,asp⟩:=a
  go_wp2_with (at_builtin; refine Lib.wpList_append_run _ rfl _ _ _ _ rfl _ _ rfl rfl _ _ (hrun _) ?_)
  all_goals (go_ret; exact⟨rfl,rfl⟩)
def agU:Lb Tryz.prog 160 29 65 3:=by
 intro b n c i G vb voff vc ROW vs ds w hrz hcpA hcpB hE1 hE2 hF1 hF2 hi hnc hroom hz2 hz3 hGn hG63 hGi hGim hci hw1 hb1 hin htn hb3 hle;have mixed:=mix;have t25:=underlying29
 go_enter func160,ntmps160
 go_wp2_with (first
  |(at_builtin; refine Lib.wpList_append_run _ rfl _ _ _ _ rfl _ _ rfl rfl _ _ (hrz _) ?_)
  |(at_builtin; refine kv _ rfl _ _ 29 29 rfl _ _ rfl rfl (hcpA _ hE1 hE2 _ _) ?_)
  |(at_builtin; refine kv _ rfl _ _ 29 29 rfl _ _ rfl rfl (hcpB _ (fun _=>rfl) (fun _=>rfl) _ _ _) ?_))
 go_region_law_o (refine qM rfl _ _ 29 29 rfl (.slice (some ⟨w.heap.size,(i+1)*3,none⟩) (n+1-(i+1)) (G-(i+1))) (.slice (some ⟨b,i*3,none⟩) (n-i) (c-i)) (by simp[Act.eval,Act.put]) (by simp[Act.eval,Act.put]) (hcpB _ hF1 hF2 3 (G-(i+1)) (c-i)) ?_)
 go_wp2
 go_ret
 exact⟨rfl,rfl⟩
end
def Nb{args:List ag}{M:aL}{x:ag×aL}(h:pR 3 32 args M=some x):eP Tryz.prog 218 args M x:=wC (by omega) (by omega) (y9 J0 afT) (xn J0 afN) h
def Nc{args:List ag}{M:aL}{x:ag×aL}(h:pR 6 80 args M=some x):eP Tryz.prog 234 args M x:=wC (by omega) (by omega) (y9 JZ afU) (xn JZ afO) h
def Na{args:List ag}{M:aL}{x:ag×aL}(h:pR 3 32 args M=some x):eP Tryz.prog 145 args M x:=wC (by omega) (by omega) (y9 JY afS) (xn JY afM) h
def JJ{args:List ag}{M:aL}{x:ag×aL}(h:xE 1 16 args M=some x):eP Tryz.prog 107 args M x:=F1 (by omega) (by omega) (y9 Vi afR) (xn Vi afL) h
def Nk{args:List ag}{M:aL}{x:ag×aL}(h:oz 6 args M=some x):eP Tryz.prog 233 args M x:=vx (sz:=6) (z:=(Value.agg #[.int .i64 0,.int .i64 0,.int .i64 0,.slice none 0 0,.slice none 0 0,.int .i64 0]).cells.toList) (by omega) rfl (JS JZ afX) h
def Nl{args:List ag}{M:aL}{x:ag×aL}(h:oz 3 args M=some x):eP Tryz.prog 252 args M x:=vx (sz:=3) (z:=(Value.agg #[.string ⟨#[]⟩,.int .i64 0,.int .i64 0]).cells.toList) (by omega) rfl (JS J0 afY) h
def Nj{args:List ag}{M:aL}{x:ag×aL}(h:oz 3 args M=some x):eP Tryz.prog 163 args M x:=vx (sz:=3) (z:=(Value.agg #[.string ⟨#[]⟩,.int .i64 0,.int .i64 0]).cells.toList) (by omega) rfl (JS JY afW) h
def NN{args:List ag}{M:aL}{x:ag×aL}(h:nn 6 80 args M=some x):eP Tryz.prog 249 args M x:=vE (by omega) (by omega) (F8 JZ underlying3 (fun args w=>run_callFunc_extern func274 (by kernel_rfl) (by kernel_rfl) (by kernel_rfl) (by kernel_rfl) args w) aia XQ agV) (F9 JZ (by omega) XQ) h
def NP{args:List ag}{M:aL}{x:ag×aL}(h:nn 3 32 args M=some x):eP Tryz.prog 250 args M x:=vE (by omega) (by omega) (F8 J0 underlying3 (fun args w=>run_callFunc_extern func276 (by kernel_rfl) (by kernel_rfl) (by kernel_rfl) (by kernel_rfl) args w) aib XR agW) (F9 J0 (by omega) XR) h
def NM{args:List ag}{M:aL}{x:ag×aL}(h:nn 3 32 args M=some x):eP Tryz.prog 160 args M x:=vE (by omega) (by omega) (F8 JY underlying3 (fun args w=>run_callFunc_extern func211 (by kernel_rfl) (by kernel_rfl) (by kernel_rfl) (by kernel_rfl) args w) ah9 XP agU) (F9 JY (by omega) XP) h
end Go.Proofs.YtcbopkblmebjiaaGreatDoor
namespace Go.Proofs
open Go.Shelf
def Tryz.IU:Go.Shelf.Ren:=⟨fun|6=>220|15=>123|14=>247|28=>190|29=>191|20=>266|21=>267|22=>268|23=>269|24=>270|25=>271|26=>272|27=>273|46=>279|47=>236|48=>237|49=>280|50=>281|57=>284|n=>n,fun|22=>58|24=>129|25=>266|3=>3|39=>163|0=>0|53=>223|55=>225|4=>4|46=>217|45=>216|50=>144|5=>5|9=>9|66=>278|70=>282|76=>297|77=>240|n=>n,fun|n=>n⟩
def Tryz.MB:Go.Proofs.SlLaysF0.n6 Tryz.prog Tryz.IU:={
 mixed:=by kernel_rfl
 f6:=⟨Tryz.f220.name,by decide,Tryz.func220.trans (congrArg some (by kernel_rfl))⟩
 f14:=⟨Tryz.f247.name,by decide,Tryz.func247.trans (congrArg some (by kernel_rfl))⟩
 f15:=Tryz.func123.trans (congrArg some (by kernel_rfl))
 f20:=⟨Tryz.f266.name,by decide,Tryz.func266.trans (congrArg some (by kernel_rfl))⟩
 f21:=⟨Tryz.f267.name,by decide,Tryz.func267.trans (congrArg some (by kernel_rfl))⟩
 f22:=⟨Tryz.f268.name,by decide,Tryz.func268.trans (congrArg some (by kernel_rfl))⟩
 f23:=⟨Tryz.f269.name,by decide,Tryz.func269.trans (congrArg some (by kernel_rfl))⟩
 f24:=⟨Tryz.f270.name,by decide,Tryz.func270.trans (congrArg some (by kernel_rfl))⟩
 f25:=⟨Tryz.f271.name,by decide,Tryz.func271.trans (congrArg some (by kernel_rfl))⟩
 f26:=⟨Tryz.f272.name,by decide,Tryz.func272.trans (congrArg some (by kernel_rfl))⟩
 f27:=⟨Tryz.f273.name,by decide,Tryz.func273.trans (congrArg some (by kernel_rfl))⟩
 f28:=Tryz.func190.trans (congrArg some (by kernel_rfl))
 f29:=Tryz.func191.trans (congrArg some (by kernel_rfl))
 f46:=⟨Tryz.f279.name,by decide,Tryz.func279.trans (congrArg some (by kernel_rfl))⟩
 f47:=Tryz.func236.trans (congrArg some (by kernel_rfl))
 f48:=Tryz.func237.trans (congrArg some (by kernel_rfl))
 f49:=⟨Tryz.f280.name,by decide,Tryz.func280.trans (congrArg some (by kernel_rfl))⟩
 f50:=⟨Tryz.f281.name,by decide,Tryz.func281.trans (congrArg some (by kernel_rfl))⟩
 f57:=⟨Tryz.f284.name,by decide,Tryz.func284.trans (congrArg some (by kernel_rfl))⟩
 t0:=underlying0
 a0:=isAgg0
 z0:=sizeOf0
 v0:=zeroValue0
 t3:=underlying3
 a3:=isAgg3
 z3:=sizeOf3
 v3:=zeroValue3
 t4:=underlying4
 a4:=isAgg4
 z4:=sizeOf4
 v4:=zeroValue4
 t5:=underlying5
 a5:=isAgg5
 z5:=sizeOf5
 v5:=zeroValue5
 t9:=underlying9
 a9:=isAgg9
 z9:=sizeOf9
 v9:=zeroValue9
 t22:=underlying58
 a22:=isAgg58
 z22:=sizeOf58
 v22:=zeroValue58
 t25:=underlying266
 a25:=isAgg266
 z25:=sizeOf266
 v25:=zeroValue266
 t39:=underlying163
 a39:=isAgg163
 z39:=sizeOf163
 v39:=zeroValue163
 t45:=underlying216
 a45:=isAgg216
 z45:=sizeOf216
 v45:=zeroValue216
 t46:=underlying217
 a46:=isAgg217
 z46:=sizeOf217
 v46:=zeroValue217
 t50:=underlying144
 a50:=isAgg144
 z50:=sizeOf144
 v50:=zeroValue144
 t53:=underlying223
 a53:=isAgg223
 z53:=sizeOf223
 v53:=zeroValue223
 t55:=underlying225
 a55:=isAgg225
 z55:=sizeOf225
 v55:=zeroValue225
 t66:=underlying278
 a66:=isAgg278
 z66:=sizeOf278
 v66:=zeroValue278
 t70:=underlying282
 a70:=isAgg282
 z70:=sizeOf282
 v70:=zeroValue282
 t76:=underlying297
 a76:=isAgg297
 z76:=sizeOf297
 v76:=zeroValue297
 t77:=underlying240
 a77:=isAgg240
 z77:=sizeOf240
 v77:=zeroValue240 }
def Tryz.GA:Go.Shelf.Ren:=⟨fun|6=>58|15=>123|14=>122|28=>190|29=>191|20=>182|21=>183|22=>184|23=>185|24=>186|25=>187|26=>188|27=>189|46=>235|47=>236|48=>237|49=>238|50=>239|57=>260|n=>n,fun|22=>40|24=>60|25=>110|3=>3|39=>163|0=>0|53=>223|55=>225|4=>4|46=>217|45=>216|50=>144|5=>5|9=>9|66=>278|70=>282|76=>297|77=>240|n=>n,fun|n=>n⟩
def Tryz.IW:Go.Proofs.SlLaysF0.n6 Tryz.prog Tryz.GA:={
 mixed:=by kernel_rfl
 f6:=⟨Tryz.f58.name,by decide,Tryz.func58.trans (congrArg some (by kernel_rfl))⟩
 f14:=⟨Tryz.f122.name,by decide,Tryz.func122.trans (congrArg some (by kernel_rfl))⟩
 f15:=Tryz.func123.trans (congrArg some (by kernel_rfl))
 f20:=⟨Tryz.f182.name,by decide,Tryz.func182.trans (congrArg some (by kernel_rfl))⟩
 f21:=⟨Tryz.f183.name,by decide,Tryz.func183.trans (congrArg some (by kernel_rfl))⟩
 f22:=⟨Tryz.f184.name,by decide,Tryz.func184.trans (congrArg some (by kernel_rfl))⟩
 f23:=⟨Tryz.f185.name,by decide,Tryz.func185.trans (congrArg some (by kernel_rfl))⟩
 f24:=⟨Tryz.f186.name,by decide,Tryz.func186.trans (congrArg some (by kernel_rfl))⟩
 f25:=⟨Tryz.f187.name,by decide,Tryz.func187.trans (congrArg some (by kernel_rfl))⟩
 f26:=⟨Tryz.f188.name,by decide,Tryz.func188.trans (congrArg some (by kernel_rfl))⟩
 f27:=⟨Tryz.f189.name,by decide,Tryz.func189.trans (congrArg some (by kernel_rfl))⟩
 f28:=Tryz.func190.trans (congrArg some (by kernel_rfl))
 f29:=Tryz.func191.trans (congrArg some (by kernel_rfl))
 f46:=⟨Tryz.f235.name,by decide,Tryz.func235.trans (congrArg some (by kernel_rfl))⟩
 f47:=Tryz.func236.trans (congrArg some (by kernel_rfl))
 f48:=Tryz.func237.trans (congrArg some (by kernel_rfl))
 f49:=⟨Tryz.f238.name,by decide,Tryz.func238.trans (congrArg some (by kernel_rfl))⟩
 f50:=⟨Tryz.f239.name,by decide,Tryz.func239.trans (congrArg some (by kernel_rfl))⟩
 f57:=⟨Tryz.f260.name,by decide,Tryz.func260.trans (congrArg some (by kernel_rfl))⟩
 t0:=underlying0
 a0:=isAgg0
 z0:=sizeOf0
 v0:=zeroValue0
 t3:=underlying3
 a3:=isAgg3
 z3:=sizeOf3
 v3:=zeroValue3
 t4:=underlying4
 a4:=isAgg4
 z4:=sizeOf4
 v4:=zeroValue4
 t5:=underlying5
 a5:=isAgg5
 z5:=sizeOf5
 v5:=zeroValue5
 t9:=underlying9
 a9:=isAgg9
 z9:=sizeOf9
 v9:=zeroValue9
 t22:=underlying40
 a22:=isAgg40
 z22:=sizeOf40
 v22:=zeroValue40
 t25:=underlying110
 a25:=isAgg110
 z25:=sizeOf110
 v25:=zeroValue110
 t39:=underlying163
 a39:=isAgg163
 z39:=sizeOf163
 v39:=zeroValue163
 t45:=underlying216
 a45:=isAgg216
 z45:=sizeOf216
 v45:=zeroValue216
 t46:=underlying217
 a46:=isAgg217
 z46:=sizeOf217
 v46:=zeroValue217
 t50:=underlying144
 a50:=isAgg144
 z50:=sizeOf144
 v50:=zeroValue144
 t53:=underlying223
 a53:=isAgg223
 z53:=sizeOf223
 v53:=zeroValue223
 t55:=underlying225
 a55:=isAgg225
 z55:=sizeOf225
 v55:=zeroValue225
 t66:=underlying278
 a66:=isAgg278
 z66:=sizeOf278
 v66:=zeroValue278
 t70:=underlying282
 a70:=isAgg282
 z70:=sizeOf282
 v70:=zeroValue282
 t76:=underlying297
 a76:=isAgg297
 z76:=sizeOf297
 v76:=zeroValue297
 t77:=underlying240
 a77:=isAgg240
 z77:=sizeOf240
 v77:=zeroValue240 }
def Tryz.JM:Go.Shelf.Ren:=⟨fun|5=>60|7=>124|n=>n,fun|22=>3|3=>3|4=>4|n=>n,fun|n=>n⟩
def Tryz.PB:Go.Proofs.SlLaysC2.n5 Tryz.prog Tryz.JM:={
 mixed:=by kernel_rfl
 f5:=⟨Tryz.f60.name,by decide,Tryz.func60.trans (congrArg some (by kernel_rfl))⟩
 f7:=⟨Tryz.f124.name,by decide,Tryz.func124.trans (congrArg some (by kernel_rfl))⟩
 t3:=underlying3
 a3:=isAgg3
 z3:=sizeOf3
 v3:=zeroValue3
 t4:=underlying4
 a4:=isAgg4
 z4:=sizeOf4
 v4:=zeroValue4
 t22:=underlying3
 a22:=isAgg3
 z22:=sizeOf3
 v22:=zeroValue3 }
end Go.Proofs
namespace Go.Proofs.YtcbopkblmebjiaaGreatDoor
open Go Go.Shelf Go.RowKit Go.Lib Go.Sort
set_option maxHeartbeats 1000000 in
def JK(v0 v1 u0 u1:Value)(x y:Int)(W:World):Calls Tryz.prog 221 #[.agg #[v0,v1,.int .i64 x],.agg #[u0,u1,.int .i64 y]] W fun e w'=>e = .returned (.int .i64 (Lib.compareInt x y))/\∃q os',w'=grow (W.drewN q) os':=by
 have hcon:=fun W'=>AnyG.cmp_Compare_int Tryz.PB x y W'
 change ∀W',Calls Tryz.prog 60 _ _ _ at hcon;generalize Lib.compareInt x y=r at hcon ⊢
 go_enter func221,ntmps221
 go_wp2_with (go_at_call 60; refine(hcon _).mono ?_; rintro e w' ⟨rfl,rfl⟩)
 go_ret
 exact⟨rfl,0,_,by rw[alloc_eq_grow,alloc_eq_grow,grow_grow]; rfl⟩
set_option maxHeartbeats 1000000 in
def Nf(v1 v2 v3 v4 v5 u1 u2 u3 u4 u5:Value)(x y:Int)(W:World):Calls Tryz.prog 59 #[.agg #[.int .i64 x,v1,v2,v3,v4,v5],.agg #[.int .i64 y,u1,u2,u3,u4,u5]] W fun e w'=>e = .returned (.int .i64 (Lib.compareInt x y))/\∃q os',w'=grow (W.drewN q) os':=by
 have hcon:=fun W'=>AnyG.cmp_Compare_int Tryz.PB x y W'
 change ∀W',Calls Tryz.prog 60 _ _ _ at hcon;generalize Lib.compareInt x y=r at hcon ⊢
 go_enter func59,ntmps59
 go_wp2_with (go_at_call 60; refine(hcon _).mono ?_; rintro e w' ⟨rfl,rfl⟩)
 go_ret
 exact⟨rfl,0,_,by rw[alloc_eq_grow,alloc_eq_grow,grow_grow]; rfl⟩
structure EL(sz p:Nat) where
 l:List Value
 hl:l.length=sz
 h1:∀v∈l,v.oneCell'=true
 n:Int
 hn:l[p]?=some (.int .i64 n)
def XI{sz p:Nat}(a b:EL sz p):Int:=Lib.compareInt a.n b.n
def ltE{sz p:Nat}(x y:EL sz p):ltOf XI x y=decide (x.n<y.n):=by
 unfold ltOf XI Lib.compareInt
 by_cases h1:x.n<y.n
 ·simp[h1]
 ·by_cases h2:y.n<x.n<;>simp[h1,h2]
def aic{sz p:Nat}:SWO (ltOf (XI (sz:=sz) (p:=p))) where
 irrefl x:=by rw[ltE]; simp
 trans x y z h1 h2:=by rw[ltE] at *; simp at *; omega
 ntrans x y z h1 h2:=by rw[ltE] at *; simp at *; omega
def JN[Inhabited (EL 3 2)](blk off size:Nat)(w:World):CmpLays Tryz.prog 221 #[] (EL.l (sz:=3) (p:=2)) 3 XI blk off size w:=fun _ _ _ _ x y=>by
 obtain⟨l,hl,h1,n,hn⟩:=x;obtain⟨l',hl',h1',n',hn'⟩:=y
 match l,hl,hn,l',hl',hn' with
 | [a,b,c],_,hn,[a',b',c'],_,hn' =>
  cases hn;cases hn';exact JK a b a' b' n n' _
def Ng[Inhabited (EL 6 0)](blk off size:Nat)(w:World):CmpLays Tryz.prog 59 #[] (EL.l (sz:=6) (p:=0)) 6 XI blk off size w:=fun _ _ _ _ x y=>by
 obtain⟨l,hl,h1,n,hn⟩:=x;obtain⟨l',hl',h1',n',hn'⟩:=y
 match l,hl,hn,l',hl',hn' with
 | [a,b,c,d,e,f],_,hn,[a',b',c',d',e',f'],_,hn' =>
  cases hn;cases hn';exact Nf b c d e f b' c' d' e' f' n n' _
end Go.Proofs.YtcbopkblmebjiaaGreatDoor
namespace Go.Abs
open Go
def VN(p:Nat)(x:ag):Option Int:=match x.cells[p]? with
 |some (.int .i64 n)=>some n
 |_=>none
def tN(p:Nat)(x:ag):Int:=(VN p x).getD 0
def CT(p:Nat)(x:ag):List ag->List ag
 | []=>[x]
 |y::r=>if tN p x<tN p y then x::y::r else y::CT p x r
def rA(p:Nat):List ag->List ag
 | []=>[]
 |x::r=>CT p x (rA p r)
def Am(p:Nat)(x:ag):∀l,(CT p x l).Perm (x::l)
 | [] => .refl _
 |y::r=>by
  rw[CT];split
  ·exact .refl _
  ·exact((Am p x r).cons y).trans (.swap x y r)
def uc(p:Nat):∀l,(rA p l).Perm l
 | [] => .refl _
 |x::r=>(Am p x _).trans ((uc p r).cons x)
def LV(p:Nat)(x:ag):∀l:List ag,l.Pairwise (fun a b=>tN p a<=tN p b)->(CT p x l).Pairwise fun a b=>tN p a<=tN p b
 | [],_=>by simp[CT]
 |y::r,h=>by
  obtain⟨h1,h2⟩:=bG.1 h;rw[CT];split
  ·rename_i cu;refine bG.2 ⟨fun b hb=>?_,h⟩
   rcases bc.1 hb with rfl|hb
   ·omega
   ·have:=h1 b hb; omega
  ·rename_i hge;refine bG.2 ⟨fun b hb=>?_,LV p x r h2⟩
   rcases bc.1 ((Am p x r).mem_iff.1 hb) with rfl|hb
   ·omega
   ·exact h1 b hb
def IV(p:Nat):∀l,(rA p l).Pairwise fun a b=>tN p a<=tN p b
 | [] => .nil
 |x::r=>LV p x _ (IV p r)
def G9:∀ {a b:List Int},a.Pairwise (· < ·)->b.Pairwise (· < ·)->(∀m,m∈a↔m∈b)->a=b
 | [],[],_,_,_=>rfl
 | [],y::b,_,_,h=>by have:=(h y).2 aD; cases this
 |x::a,[],_,_,h=>by have:=(h x).1 aD; cases this
 |x::a,y::b,ha,hb,h=>by
  obtain⟨a1,a2⟩:=bG.1 ha;obtain⟨b1,b2⟩:=bG.1 hb
  have hxy:x=y:=by
   rcases bc.1 ((h x).1 aD) with h1|h1
   ·exact h1
   ·rcases bc.1 ((h y).2 aD) with h2|h2
    ·exact h2.symm
    ·have:=b1 x h1; have:=a1 y h2; omega
  subst hxy;rw[G9 a2 b2 (fun m=>?_)]
  constructor
  ·intro hm;rcases bc.1 ((h m).1 (aP _ hm)) with h1|h1
   ·subst h1; have:=a1 m hm; omega
   ·exact h1
  ·intro hm;rcases bc.1 ((h m).2 (aP _ hm)) with h1|h1
   ·subst h1; have:=b1 m hm; omega
   ·exact h1
def wQ{l:List Int}(h:l.Pairwise (· <= ·))(hn:l.Nodup):l.Pairwise (· < ·):=by
 have:=List.Pairwise.and h hn;exact this.imp fun {a b} hab=>by have:=hab.1; have:=hab.2; omega
def Iz{l:List Int}(h:l.Nodup){i j:Nat}{a:Int}(hi:l[i]?=some a)(hj:l[j]?=some a):i=j:=by
 have hp:=bU.1 h;obtain⟨h1,e1⟩:=aC.1 hi;obtain⟨h2,e2⟩:=aC.1 hj;rcases iB i j with hh|hh|hh
 ·exact absurd (e1.trans e2.symm) (hp i j h1 h2 hh)
 ·exact hh
 ·exact absurd (e2.trans e1.symm) (hp j i h2 h1 hh)
def K0{α:Type}{p:Nat}{d d':List α}{xs:List ag}(key:α->Int)(eY:d.length=xs.length)(hkey:∀(i:Nat)(a:α)(x:ag),d[i]?=some a->xs[i]?=some x->key a=tN p x)(hnd:(xs.map (tN p)).Nodup)
  (hperm:d'.Perm d) (hs:d'.Pairwise fun a b=>key a<=key b) {q:Nat} {y:ag} (hy:(rA p xs)[q]?=some y):∃(i:Nat) (a:α),d'[q]?=some a/\d[i]?=some a/\xs[i]?=some y:=by
 have hmap:d.map key=xs.map (tN p):=by
  apply cS;intro i;rw[aZ,aZ];rcases bH i d.length with h|h
  ·have h':i<xs.length:=by omega
   rw[aj h,aj h'];simp only[cB];rw[hkey i _ _ (aj h) (aj h')]
  ·rw[eJ h,eJ (by omega)]; rfl
 have p1:((rA p xs).map (tN p)).Perm (xs.map (tN p)):=(uc p xs).map _;have p2:(d'.map key).Perm (xs.map (tN p)):=by rw[<-hmap]; exact hperm.map _
 have k1:((rA p xs).map (tN p)).Pairwise (· < ·):=wQ (jr.2 (IV p xs)) (p1.nodup_iff.2 hnd)
 have k2:(d'.map key).Pairwise (· < ·):=wQ (jr.2 hs) (p2.nodup_iff.2 hnd)
 have heq:=G9 k1 k2 (fun m=>by rw[p1.mem_iff,p2.mem_iff])
 have h1:(d'.map key)[q]?=some (tN p y):=by rw[<-heq,aZ,hy]; rfl
 rw[aZ,aO] at h1;obtain⟨a,ha,hak⟩:=h1;obtain⟨i,hi⟩:=bO (hperm.mem_iff.1 (aR ha));have hil:=aF hi;obtain⟨j,hj⟩:=bO ((uc p xs).mem_iff.1 (aR hy));have hx:=aj (show i<xs.length by omega)
 have hk:=hkey i a _ hi hx;have:i=j:=Iz hnd (i:=i) (j:=j) (a:=tN p y) (by rw[aZ,hx]; simp only[cB]; rw[<-hk,hak]) (by rw[aZ,hj]; rfl)
 subst this;exact⟨i,a,ha,hi,hj⟩
noncomputable def vY(sz p g:Nat):List ag->aL->Option (ag×aL)
 | [.slice _ xs,.func g' cs],M=>match xs,cs with
  | [],[]=>if g'=g then some (.tuple [],M) else none
  |_,_=>none
 | [.dk id ver sz' lo hi,.func g' cs],M=>match nth M id,cs with
  |some (.arr sz0 v xs),[]=>cv (v=ver/\sz'=sz/\lo=0/\hi<=xs.length/\g'=g/\hi<=1099511627776/\(∀x,x∈xs.take hi->(VN p x).isSome=true)/\((xs.take hi).map (tN p)).Nodup)
    (some (.tuple [],j6 M id (.arr sz0 v (rA p (xs.take hi)++xs.drop hi))))
  |_,_=>none
 |_,_=>none
end Go.Abs
namespace Go.Proofs.YtcbopkblmebjiaaGreatDoor
open Go Go.Abs Go.Shelf Go.RowKit Go.Sort
def Du{sz p g f:Nat}(hp:p<sz)
  (h0:∀(A:Option Addr)(cap:Nat)(fv:Value)(w:World),Calls Tryz.prog f #[.slice A 0 cap,fv] w fun e w'=>e = .returned (.tuple #[])/\w'=w)
  (hS:∀ [Inhabited (EL sz p)] (blk cap:Nat) (d:Array (EL sz p)) (w:World),HoldsK EL.l sz w blk 0 d->blk<w.heap.size->d.size<4611686018427387904 ->
   Calls Tryz.prog f #[.slice (some ⟨blk,0,none⟩) d.size cap,.func (.func g) #[] #[]] w fun e w'=>e = .returned (.tuple #[])/\∃d' n os,PermIn 0 d.size d d'/\SortedIn (ltOf XI) 0 d.size d'/\w'=sortWorldK EL.l sz w blk 0 n d' os)
  {args:List ag} {M:aL} {x:ag×aL} (h:vY sz p g args M=some x):eP Tryz.prog f args M x:=by
 unfold vY at h;split at h
 ·rename_i tk xs g' cs;split at h
  ·split at h
   ·rename_i hg;subst hg;cases h;refine nr.call ?_;intro j w vs hr hG hl hv;obtain⟨l⟩:=vs
    match l,hl with
    | [u1,u2],_ =>
     obtain⟨A,cap,b,off,sz0,vs,e1,_⟩:=(hv 0 _ u1 rfl rfl).dH.dH;subst e1;refine(h0 A cap u2 w).mono ?_;rintro e w' ⟨rfl,rfl⟩;exact⟨_,j,rfl,hr,Ext.refl _ _ _,.tuple rfl fun i c v hi=>by cases hi⟩
   ·cases h
  ·cases h
 ·rename_i ix ver sz' lo hi g' cs;rw[eN] at h;split at h
  ·rename_i sz0 v0 xs hM;obtain⟨⟨rfl,rfl,rfl,hhi,rfl,hbig,hk,hnd⟩,h1⟩:=di h;cases h1;refine nr.call ?_;intro j w vs hr hG hl hv;obtain⟨l⟩:=vs
   match l,hl with
   | [u1,u2],_ =>
    have ha:=hv 0 _ u1 rfl rfl;obtain⟨us,hu2,hul,_⟩:=(hv 1 _ u2 rfl rfl).sn;have hu0:us = #[]:=Array.eq_empty_of_size_eq_zero (by simpa using hul.symm)
    subst hu0;rw[hu2];rcases fE hi with h00|hpos
    ·subst h00;obtain⟨A,cap,e1⟩:=ha.yW;rw[e1];refine(h0 A cap _ w).mono ?_;rintro e w' ⟨rfl,rfl⟩
     have he:j6 M ix (.arr sz0 v0 (rA p (xs.take 0)++xs.drop 0))=M:=by
      rw[fQ];apply cS;intro q
      by_cases e:ix=q
      ·subst e; rw[dG (aF hM),hM]; rfl
      ·rw[cE e]
     rw[he];exact⟨_,j,rfl,hr,Ext.refl _ _ _,.tuple rfl fun i c v hi=>by cases hi⟩
    ·obtain⟨_,hid,_,gg⟩:=ha.nB;obtain⟨e1,_,_,⟨hx,_⟩|⟨b,cap,row,t0,l3,l4,l5,l6,l7⟩⟩:=(gg sz0 v0 xs hM).2 rfl
     ·subst hx; simp at hhi; omega
     subst e1;obtain⟨b',row0,t',k1,k2,k3,k4,k5⟩:=hr.yf hM l3;rw[l3] at k1; cases k1;rw[l6] at k2; injection k2 with k2; injection k2 with k2 k2'
     subst k2; subst k2';have hrow:hi*sz0<=row.size:=bj (bf _ hhi) k3
     -- the elements
     have hidx:∀q k,q<hi->k<sz0->q*sz0+k<hi*sz0:=fun q k hq hk'=>by
      have:(q+1)*sz0<=hi*sz0:=bf _ hq;rw[lZ] at this; omega
     have hel:∀q,q<hi->∃a:EL sz0 p,(∀k,k<sz0->a.l[k]?=row[q*sz0+k]?)/\∀x,xs[q]?=some x->a.n=tN p x:=by
      intro q hq;have hxq:xs[q]?=some (xs[q]'(by omega)):=aj (by omega)
      have hwq:=k4 _ (aR hxq)
      have hcell:∀k,k<sz0->∃u,row[q*sz0+k]?=some u/\∃c,(xs[q]'(by omega)).cells[k]?=some c/\fI w (nV j M w) c u:=fun k hk'=>by
       have hc:=aj (l:=(xs[q]'(by omega)).cells) (i:=k) (by omega)
       obtain⟨u,h1,h2⟩:=k5 q _ k _ hxq hc;exact⟨u,h1,_,hc,h2⟩
      have hkx:=hk _ (aR (show(xs.take hi)[q]?=_ by rw[bF hq]; exact hxq))
      have eY:((row.toList.drop (q*sz0)).take sz0).length=sz0:=by
       have:=hidx q (sz0-1) hq (by omega)
       simp; omega
      have hget:∀k,k<sz0->((row.toList.drop (q*sz0)).take sz0)[k]?=row[q*sz0+k]?:=fun k hk'=>by
       rw[bF hk',cI]; simp
      obtain⟨u,hu1,c,hc1,hc2⟩:=hcell p hp
      obtain⟨n,hn⟩:∃n,c = .int .i64 n:=by
       unfold VN at hkx;rw[hc1] at hkx;split at hkx
       ·rename_i hh; injection hh with hh; exact⟨_,hh⟩
       ·cases hkx
      subst hn;have hu:=(fY.plain (j:=j) (M:=M) hc2).fP;subst hu;refine⟨⟨(row.toList.drop (q*sz0)).take sz0,eY,fun v hv=>?_,n,by rw[hget p hp]; exact hu1⟩,hget,fun x hx=>?_⟩
      ·obtain⟨k,hk'⟩:=bO hv;have hkl:k<sz0:=by rw[<-eY]; exact aF hk'
       obtain⟨u,h1,c,_,h3⟩:=hcell k hkl;rw[hget k hkl,h1] at hk'; cases hk';exact h3.one
      ·rw[hxq] at hx; cases hx;simp[tN,VN,hc1]
     obtain⟨d,hdl,hd⟩:∃d:List (EL sz0 p),d.length=hi/\∀q a,d[q]?=some a->(∀k,k<sz0->a.l[k]?=row[q*sz0+k]?)/\∀x,xs[q]?=some x->a.n=tN p x:=by
      refine⟨(List.finRange hi).map fun q=>(hel q.1 q.2).choose,by simp,fun q a ha=>?_⟩
      rw[aZ,aO] at ha;obtain⟨i,hi',rfl⟩:=ha;have hq:q<hi:=by have:=aF hi'; simpa using this
      have:i=⟨q,hq⟩:=by
       have h1:=(aC.1 hi').2;rw[<-h1]; simp
      subst this;exact(hel q hq).choose_spec
     haveI:Inhabited (EL sz0 p):=⟨(hel 0 hpos).choose⟩
     have hget! : ∀q,q<hi->d[q]?=some d.toArray[q]! := fun q hq=>by
      rw[aj (by omega),ma d.toArray q (by simpa[hdl] using hq)]
      simp
     have hfl:∀t,t<hi*sz0->row[t]?=some (d.toArray[t / sz0]!.l[t % sz0]!):=fun t ht=>by
      have hq:t / sz0<hi:=(kl (by omega)).2 ht
      have hm:t % sz0<sz0:=iI _ (by omega)
      have h1:=(hd _ _ (hget! _ hq)).1 _ hm;rw[Nat.div_add_mod'] at h1;rw[<-h1];have h2:t % sz0<d.toArray[t / sz0]!.l.length:=by rw[(d.toArray[t / sz0]!).hl]; exact hm
      rw[aj h2,ma (d.toArray[t / sz0]!.l) (t % sz0) h2]
     have hH:HoldsK EL.l sz0 w b 0 d.toArray:=fun t ht=>by
      simp only[size_flatK,cJ,hdl] at ht;rw[get_flatK _ _ _ _ (by simpa[hdl] using ht)]
      refine⟨?_,?_⟩
      ·simp only[aQ,World.cell?,l6,id];exact hfl t ht
      ·simp[World.frozen?,l6]
     rw[l4,bV,je];have hcall:=hS b cap d.toArray w hH (lt_of_block l6) (by simp[hdl]; omega)
     simp only[cJ,hdl] at hcall;refine hcall.mono ?_;rintro e1 w' ⟨rfl,d',n,os,hperm,hsort,rfl⟩;obtain⟨hs1,_,hs3⟩:=hperm;simp only[cJ,hdl] at hs1
     have hperm':d'.toList.Perm d:=by
      have e1:(d'.extract 0 hi).toList=d'.toList:=by rw[<-hs1]; simp
      have e2:(d.toArray.extract 0 hi).toList=d:=by rw[<-hdl]; simp
      rw[e1,e2] at hs3; exact hs3
     have hpw:d'.toList.Pairwise fun a b=>a.n<=b.n:=by
      rw[bU];intro i k hi1 hk1 hik;have hk2:k<d'.size:=by simpa using hk1
      have:=hsort i k (cA _) hik (by omega)
      rw[ltE,ma d' k hk2,ma d' i (by omega)] at this
      simp at this ⊢;omega
     have hmatch:∀(q:Nat)(y:ag),(rA p (xs.take hi))[q]?=some y->∃(i:Nat) (a:EL sz0 p),d'.toList[q]?=some a/\d[i]?=some a/\(xs.take hi)[i]?=some y:=fun q y hy =>
      K0 (fun a:EL sz0 p=>a.n) (by simp[hdl]; omega) (fun i a x h1 h2=>(hd i a h1).2 x (by
       have cu:i<hi:=by have:=aF h2; simp at this; omega
       rwa[bF cu] at h2)) hnd hperm' hpw hy
     -- the world behind
     have hbk:(sortWorldK EL.l sz0 w b 0 n d' os).heap[b]?=some (.cells (Go.Sort.putCells id 0 (flatK EL.l sz0 d') row) t0 (0,0)):=by
      have cu:=lt_of_block l6
      show((w.heap.modify b (onCells (Go.Sort.putCells id 0 (flatK EL.l sz0 d'))))++os)[b]?=_
      rw[cr (by simpa using cu),fb,az rfl,l6]
      rfl
     have hq:Quiet w (sortWorldK EL.l sz0 w b 0 n d' os):=⟨by show w.heap.size<=((w.heap.modify b _)++os).size; simp,rfl,rfl,rfl⟩
     have hoth:∀b',b'≠b->b'<w.heap.size->(sortWorldK EL.l sz0 w b 0 n d' os).heap[b']?=w.heap[b']?:=fun b' hne cu=>by
      show((w.heap.modify b _)++os)[b']?=_
      rw[cr (by simpa using cu),fb,ak (dD hne)]
     have hsl:(rA p (xs.take hi)).length=hi:=by rw[(uc p _).length_eq]; simp; omega
     have hwd:wid (rA p (xs.take hi)++xs.drop hi) sz0:=mU (fun x hx=>k4 x (dn ((uc p _).mem_iff.1 hx))) (vn k4)
     have hcells:∀t,t<hi*sz0->(Go.Sort.putCells id 0 (flatK EL.l sz0 d') row)[t]?=some (d'[t / sz0]!.l[t % sz0]!):=fun t ht=>by
      unfold Go.Sort.putCells;rw[Array.getElem?_mapIdx,bb (show t<row.size by omega)]
      simp only[cB,size_flatK,hs1,aQ,bV,cA,true_and,ht,aE,id];rw[get_flatK _ _ _ _ (by rw[hs1]; exact ht)]
     have hrl:RL w (nV j M w) (jD (rA p (xs.take hi)++xs.drop hi)) ((Go.Sort.putCells id 0 (flatK EL.l sz0 d') row).toList.take (xs.length*sz0)):=by
      have hpsz:(Go.Sort.putCells id 0 (flatK EL.l sz0 d') row).size=row.size:=by simp[Go.Sort.putCells]
      refine xi (b:=b) (by rw[hpsz]; simpa[hsl,cU hhi] using k3) hwd (fun q x k c hx hkc=>?_) |> fun h=>by
       have e:(rA p (xs.take hi)++xs.drop hi).length=xs.length:=by simp[hsl]; omega
       rwa[e] at h
      have hkl:k<sz0:=by rw[<-hwd x (aR hx)]; exact aF hkc
      rcases bH q hi with hq'|hq'
      ·rw[bl (by rw[hsl]; exact hq')] at hx
       obtain⟨i,a,h1,h2,h3⟩:=hmatch q x hx;have hi':i<hi:=by have:=aF h3; simp at this; omega
       rw[bF hi'] at h3;obtain⟨u,g1,g2⟩:=k5 i x k c h3 hkc;refine⟨u,?_,g2⟩;rw[hcells _ (hidx q k hq' hkl)];have hdv:(q*sz0+k) / sz0=q:=by rw[Nat.mul_comm,Nat.mul_add_div (by omega),Nat.div_eq_of_lt hkl]; rfl
       have hmd:(q*sz0+k) % sz0=k:=by rw[Nat.mul_comm,Nat.mul_add_mod,Nat.mod_eq_of_lt hkl]
       rw[hdv,hmd]
       have ha':d'[q]! = a:=by
        have hq2:q<d'.size:=by omega
        rw[ma d' q hq2];simpa[bb hq2] using h1
       rw[ha',<-g1,<-(hd i a h2).1 k hkl];have:k<a.l.length:=by rw[a.hl]; exact hkl
       rw[aj this,ma a.l k this]
      ·rw[br (by rw[hsl]; exact hq'),hsl,cI,cU hq'] at hx
       obtain⟨u,g1,g2⟩:=k5 q x k c hx hkc;refine⟨u,?_,g2⟩;unfold Go.Sort.putCells;have hge:hi*sz0<=q*sz0+k:=bj (bf _ hq') (Nat.le_add_right _ _);rw[Array.getElem?_mapIdx,g1];simp only[cB,size_flatK,hs1,aQ];rw[ak (by omega)]
     rw[fQ]
     have hput:=xh (ver':=v0) (xs':=rA p (xs.take hi)++xs.drop hi) hr hM l3 hq hoth l6 hbk (by simp[Go.Sort.putCells]) (ar _) (fun _=>by simp[hsl]; omega) hwd hrl (fun t ht=>by
      rw[bF (by simp at ht; omega)]; simp)
     exact⟨_,j,rfl,hput.1,hput.2,.tuple rfl fun i c v hi=>by cases hi⟩
  ·cases h
 ·cases h
def Ud{args:List ag}{M:aL}{x:ag×aL}(h:vY 3 2 221 args M=some x):eP Tryz.prog 220 args M x :=
 Du (by omega) (fun A cap fv w=>AnyF.slices_SortFunc_none Tryz.MB A cap fv w)
  (fun blk cap d w hH hb hs=>(AnyQ.slices_SortFunc Tryz.MB 3 isAgg129 sizeOf129 EL.l (fun x=>x.hl) (fun x=>x.h1) XI aic 221 #[] blk 0 cap d w (enters_of func221 (by kernel_rfl) rfl) (JN blk 0 d.size w) hH hb hs)) h
def Xi{args:List ag}{M:aL}{x:ag×aL}(h:vY 6 0 59 args M=some x):eP Tryz.prog 58 args M x :=
 Du (by omega) (fun A cap fv w=>AnyF.slices_SortFunc_none Tryz.IW A cap fv w)
  (fun blk cap d w hH hb hs=>(AnyQ.slices_SortFunc Tryz.IW 6 isAgg60 sizeOf60 EL.l (fun x=>x.hl) (fun x=>x.h1) XI aic 59 #[] blk 0 cap d w (enters_of func59 (by kernel_rfl) rfl) (Ng blk 0 d.size w) hH hb hs)) h
end Go.Proofs.YtcbopkblmebjiaaGreatDoor
namespace Go.Proofs.YtcbopkblmebjiaaGreatDoor
open Go Go.Abs
open Go.RowKit
set_option maxHeartbeats 1000000 in
set_option maxRecDepth 100000 in
def JQ(a b:ByteArray)(w:World) :
  Calls Tryz.prog 199 #[.string a,.string b] w fun e w'=>e = .returned (.int .i64 (Lib.compareBytes a.data.toList b.data.toList))/\w'=w:=by
 go_enter func199,ntmps199
 go_wp2
 rw[run_callFunc_extern func244 (by kernel_rfl) (by kernel_rfl) (by kernel_rfl) (e:=Extern.BytealgCompare.compare) (by kernel_rfl),Lib.run_compareString]
 simp only[Result.andThen];rw[Oper.upon_value]
 go_wp2
 go_ret
 exact⟨rfl,rfl⟩
noncomputable def zu:List ag->aL->Option (ag×aL)
 | [.str a,.str b],M=>some (.int .i64 (Lib.compareBytes a b),M)
 |_,_=>none
def Hl{args:List ag}{M:aL}{x:ag×aL}(h:zu args M=some x):eP Tryz.prog 199 args M x:=by
 unfold zu at h;split at h
 ·rename_i a b;cases h;refine nr.call ?_;intro j w vs hr hG hl hv;obtain⟨l⟩:=vs
  match l,hl with
  | [u1,u2],_ =>
   have h1:=(hv 0 _ u1 rfl rfl).jX;have h2:=(hv 1 _ u2 rfl rfl).jX;subst h1; subst h2;refine(JQ (bs a) (bs b) w).mono ?_;rintro e w' ⟨rfl,rfl⟩;exact⟨_,j,rfl,hr,.refl _ _ _,.plain (.int _ _)⟩
 ·cases h
end Go.Proofs.YtcbopkblmebjiaaGreatDoor
namespace Go.Proofs
open Go.Shelf
def Tryz.Bo:Go.Shelf.Ren:=⟨fun|156=>131|165=>196|166=>197|169=>198|240=>242|241=>243|276=>263|277=>264|n=>n,fun|31=>35|9=>9|3=>3|4=>4|0=>0|20=>20|72=>233|76=>234|70=>231|37=>23|75=>137|127=>284|164=>197|5=>5|80=>236|n=>n,fun|n=>n⟩
def Tryz.LZ:Go.Proofs.Lays.n156 Tryz.prog Tryz.Bo:={
 mixed:=by kernel_rfl
 f156:=Tryz.func131.trans (congrArg some (by kernel_rfl))
 f165:=Tryz.func196.trans (congrArg some (by kernel_rfl))
 f166:=Tryz.func197.trans (congrArg some (by kernel_rfl))
 f169:=Tryz.func198.trans (congrArg some (by kernel_rfl))
 f240:=Tryz.func242.trans (congrArg some (by kernel_rfl))
 f241:=Tryz.func243.trans (congrArg some (by kernel_rfl))
 f276:=Tryz.func263.trans (congrArg some (by kernel_rfl))
 f277:=Tryz.func264.trans (congrArg some (by kernel_rfl))
 t0:=underlying0
 a0:=isAgg0
 z0:=sizeOf0
 v0:=zeroValue0
 t3:=underlying3
 a3:=isAgg3
 z3:=sizeOf3
 v3:=zeroValue3
 t4:=underlying4
 a4:=isAgg4
 z4:=sizeOf4
 v4:=zeroValue4
 t9:=underlying9
 a9:=isAgg9
 z9:=sizeOf9
 v9:=zeroValue9
 t20:=underlying20
 a20:=isAgg20
 z20:=sizeOf20
 v20:=zeroValue20
 t31:=underlying35
 a31:=isAgg35
 z31:=sizeOf35
 v31:=zeroValue35
 t37:=underlying23
 a37:=isAgg23
 z37:=sizeOf23
 v37:=zeroValue23
 t70:=underlying231
 a70:=isAgg231
 z70:=sizeOf231
 v70:=zeroValue231
 t72:=underlying233
 a72:=isAgg233
 z72:=sizeOf233
 v72:=zeroValue233
 t75:=underlying137
 a75:=isAgg137
 z75:=sizeOf137
 v75:=zeroValue137
 t76:=underlying234
 a76:=isAgg234
 z76:=sizeOf234
 v76:=zeroValue234
 t127:=underlying284
 a127:=isAgg284
 z127:=sizeOf284
 v127:=zeroValue284
 t164:=underlying197
 a164:=isAgg197
 z164:=sizeOf197
 v164:=zeroValue197 }
def Tryz.ug:Builder.Extra Tryz.prog Tryz.Bo:={
 sizeBuilder:=by kernel_rfl
 liesBuilder:=by kernel_rfl
 t5:=underlying5
 a5:=isAgg5
 z5:=sizeOf5
 v5:=zeroValue5
 infoByte:=by kernel_rfl
 cellsByte:=by kernel_rfl
 sizeByte:=by kernel_rfl
 neB5:=by decide }
open Go.RowKit in
def Tryz.strings_Join_none(a:Option Addr)(c:Nat)(sep:ByteArray)(w:World) :
  Calls Tryz.prog 131 #[.slice a 0 c,.string sep] w fun e w'=>e = .returned (.string ⟨#[]⟩)/\w'=w:=Any.strings_Join_none Tryz.LZ Tryz.ug a c sep w
open Go.RowKit in
def Tryz.strings_Join(bk o c:Nat)(xs:List ByteArray)(sep:ByteArray)(w:World)(hcells:∀(j:Nat) x,xs[j]?=some x->w.cell? ⟨bk,o+j,none⟩=some (.string x))(hbk:bk<w.heap.size)(hN:xs.length<=140737488355328)(hcap:xs.length<=c)(eY:(Lib.join (xs.map (·.data.toList)) sep.data.toList).length<=140737488355328) :
  Calls Tryz.prog 131 #[.slice (some ⟨bk,o,none⟩) xs.length c,.string sep] w fun e w'=>e = .returned (.string ⟨(Lib.join (xs.map (·.data.toList)) sep.data.toList).toArray⟩)/\Below w.heap.size w w':=Any.strings_Join Tryz.LZ Tryz.ug bk o c xs sep w hcells hbk hN hcap eY
def Tryz.H6:Go.Shelf.Ren:=⟨fun|137=>194|217=>241|266=>262|n=>n,fun|9=>9|5=>5|3=>3|n=>n,fun|n=>n⟩
def Tryz.VP:Go.Proofs.Lays.n137 Tryz.prog Tryz.H6:={
 mixed:=by kernel_rfl
 f137:=Tryz.func194.trans (congrArg some (by kernel_rfl))
 f217:=Tryz.func241.trans (congrArg some (by kernel_rfl))
 f266:=Tryz.func262.trans (congrArg some (by kernel_rfl))
 t3:=underlying3
 a3:=isAgg3
 z3:=sizeOf3
 v3:=zeroValue3
 t5:=underlying5
 a5:=isAgg5
 z5:=sizeOf5
 v5:=zeroValue5
 t9:=underlying9
 a9:=isAgg9
 z9:=sizeOf9
 v9:=zeroValue9 }
open Go.RowKit in
def Tryz.strings_IndexByte(s:ByteArray)(c:Int)(w:World) :
  Calls Tryz.prog 194 #[.string s,.int .u8 c] w fun e w'=>e = .returned (.int .i64 (Lib.indexByte s.data.toList c.toNat.toUInt8))/\w'=w:=Any.strings_IndexByte Tryz.VP s c w
end Go.Proofs
namespace Go.Proofs.YtcbopkblmebjiaaGreatDoor
open Go Go.Abs
open Go.RowKit
def Bx{P:Program}{f:Nat}{args:List ag}{M:aL}{r:ag}
  (h:∀(j:J)(w:World)(vs:Array Value),Rel j M w->sE j M w->args.length=vs.size->(∀(i:Nat)(c:ag)(v:Value),args[i]?=some c->vs[i]?=some v->fY j M w c v) ->
   Calls P f vs w fun e w'=>∃v,e = .returned v/\Below w.heap.size w w'/\fY j M w' r v):eP P f args M (r,M):=by
 refine nr.call ?_;intro j w vs hr hG hl hv;refine(h j w vs hr hG hl hv).mono ?_;rintro e w' ⟨v,rfl,hb,hrep⟩;exact⟨v,j,rfl,hr.grow hb.size hb.os hb.tape hb.output hb.block,Ext.grow hb.size hb.os hb.tape hb.output hb.block,hrep⟩
def yF:List ag->aL->Option (ag×aL)
 | [.str s,.int k c],M=>if k = .u8 then some (.int .i64 (Lib.indexByte s c.toNat.toUInt8),M) else none
 |_,_=>none
def Kg{args:List ag}{M:aL}{x:ag×aL}(h:yF args M=some x):eP Tryz.prog 194 args M x:=by
 unfold yF at h;split at h
 ·rename_i s k c;split at h
  ·rename_i hk;subst hk;cases h;refine Bx fun j w vs hr hG hl hv=>?_
   obtain⟨l⟩:=vs
   match l,hl with
   | [u1,u2],_ =>
    obtain rfl:=(hv 0 _ u1 rfl rfl).jX;obtain rfl:=(hv 1 _ u2 rfl rfl).fP;refine(Tryz.strings_IndexByte (bs s) c w).mono ?_;rintro e w' ⟨rfl,rfl⟩;exact⟨_,rfl,Below.refl _ _,by simp[bs]; exact .plain (.int _ _)⟩
  ·cases h
 ·cases h
def AW:List ag->Option (List (List UInt8))
 | []=>some []
 | .str s::r=>bJ (AW r) fun l=>some (s::l)
 |_=>none
def Fi:∀ {xs:List ag} {l:List (List UInt8)},AW xs=some l->xs=l.map .str
 | [],l,h=>by cases h; rfl
 |x::r,l,h=>by
  unfold AW at h;split at h
  ·rename_i e; cases e
  ·rename_i s r' e;injection e with e1 e2; subst e1; subst e2
   obtain⟨l',h1,h2⟩:=bo h;cases h2;rw[Fi h1]; rfl
  ·cases h
def IB:List ag->aL->Option (ag×aL)
 | [.slice _ xs,.str sep],M=>bJ (AW xs) fun l=>if l.length<=140737488355328/\(Lib.join l sep).length<=140737488355328 then some (.str (Lib.join l sep),M) else none
 |_,_=>none
def agY{args:List ag}{M:aL}{x:ag×aL}(h:IB args M=some x):eP Tryz.prog 131 args M x:=by
 unfold IB at h;split at h
 ·rename_i tk xs sep;obtain⟨l,hl0,h⟩:=bo h;have hxs:=Fi hl0;split at h
  ·rename_i hs;cases h;refine Bx fun j w vs hr hG hl hv=>?_
   obtain⟨us⟩:=vs
   match us,hl with
   | [u1,u2],_ =>
    obtain⟨A,cap,b,off,sz,vs,e1,e2,e3,e4,e5,e6⟩:=(hv 0 _ u1 rfl rfl).dH.dH;obtain rfl:=(hv 1 _ u2 rfl rfl).jX;subst e1;subst hxs;cases l with
    |nil =>
     refine(Tryz.strings_Join_none A cap (bs sep) w).mono ?_;rintro e w' ⟨rfl,rfl⟩;exact⟨_,rfl,Below.refl _ _,.plain (.str _)⟩
    |cons s0 l =>
     obtain rfl:=e3 (by simp)
     have hsz:sz=1:=(e4 (.str s0) (by simp)).symm
     subst hsz
     have cell:∀(q:Nat)(s:List UInt8),(s0::l)[q]?=some s->w.cell? ⟨b,off+q,none⟩=some (.string (bs s)):=fun q s hq=>by
      have hq':((s0::l).map ag.str)[q]?=some (.str s):=by rw[aZ,hq]; rfl
      have k1:=e5 q _ 0 (.str s) hq' rfl;have k2:=(fY.plain (j:=j) (M:=M) (e6 q _ 0 (.str s) hq' rfl)).jX;simp only[Nat.mul_one,cV] at k1 k2;rw[k1.1,k2]
     have hmap:((s0::l).map bs).map (·.data.toList)=s0::l:=by
      rw[fW]; conv=>rhs; rw[<-List.map_id (s0::l)]
      exact bX fun s _=>by simp[bs]
     have hd:(bs sep).data.toList=sep:=by simp[bs]
     have hb:b<w.heap.size:=by
      have:=cell 0 s0 rfl;rcases bH b w.heap.size with h|h
      ·exact h
      ·simp[World.cell?,gX h] at this
     have hJ:=Tryz.strings_Join b off cap ((s0::l).map bs) (bs sep) w (fun q x hq=>by
      rw[aZ,aO] at hq;obtain⟨s,hs,rfl⟩:=hq;exact cell q s hs) hb (by simpa using hs.1) (by simpa using e2) (by rw[hmap,hd]; exact hs.2)
     rw[hmap,hd] at hJ;have:((s0::l).map bs).length=((s0::l).map ag.str).length:=by simp
     rw[this] at hJ;refine hJ.mono ?_;rintro e w' ⟨rfl,hb⟩;exact⟨_,rfl,hb,.plain (.str _)⟩
  ·cases h
 ·cases h
end Go.Proofs.YtcbopkblmebjiaaGreatDoor
namespace Go.Abs
open Go
def TG0:(∀B M b,ag.js B M (.bool b)=(.bool b)/\ag.jC B M (.bool b)=(.bool b)/\ag.jR B M (.bool b)=(.bool b)/\ag.nW B M (.bool b)=(.bool b)/\ag.jW B M (.bool b)=(.bool b)/\ag.kc B M (.bool b)=(.bool b)/\ag.ml B M (.bool b)=(.bool b)) /\
  (∀b,ag.shut (.bool b)=(.bool b)/\ag.gd (.bool b)=(.bool b)/\ag.jU (.bool b)=false/\ag.cells? (.bool b)=some [(.bool b)]/\ag.k6 (.bool b)=true/\ag.plainCell (.bool b)=true/\ag.plain (.bool b)=true/\ag.cells (.bool b)=[(.bool b)]/\ag.ia (.bool b)=[]/\ag.mQ (.bool b)=[]/\ag.ids (.bool b)=[]) /\
  (∀M b,ag.pt M (.bool b)=(.bool b)/\ag.yw M (.bool b)=(.bool b)) /\
  (∀B M k n,ag.js B M (.int k n)=(.int k n)/\ag.jC B M (.int k n)=(.int k n)/\ag.jR B M (.int k n)=(.int k n)/\ag.nW B M (.int k n)=(.int k n)/\ag.jW B M (.int k n)=(.int k n)/\ag.kc B M (.int k n)=(.int k n)/\ag.ml B M (.int k n)=(.int k n)) /\
  (∀k n,ag.shut (.int k n)=(.int k n)/\ag.gd (.int k n)=(.int k n)/\ag.jU (.int k n)=false/\ag.cells? (.int k n)=some [(.int k n)]/\ag.k6 (.int k n)=true/\ag.plainCell (.int k n)=true/\ag.plain (.int k n)=true/\ag.cells (.int k n)=[(.int k n)]/\ag.ia (.int k n)=[]/\ag.mQ (.int k n)=[]/\ag.ids (.int k n)=[]) /\
  (∀M k n,ag.pt M (.int k n)=(.int k n)/\ag.yw M (.int k n)=(.int k n)) /\
  (∀B M s,ag.js B M (.str s)=(.str s)/\ag.jC B M (.str s)=(.str s)/\ag.jR B M (.str s)=(.str s)/\ag.nW B M (.str s)=(.str s)/\ag.jW B M (.str s)=(.str s)/\ag.kc B M (.str s)=(.str s)/\ag.ml B M (.str s)=(.str s)) /\
  (∀s,ag.shut (.str s)=(.str s)/\ag.gd (.str s)=(.str s)/\ag.jU (.str s)=false/\ag.cells? (.str s)=some [(.str s)]/\ag.k6 (.str s)=true/\ag.plainCell (.str s)=true/\ag.plain (.str s)=true/\ag.cells (.str s)=[(.str s)]/\ag.ia (.str s)=[]/\ag.mQ (.str s)=[]/\ag.ids (.str s)=[]):=by
 repeat' (first|rfl|intro _|apply And.intro)
def TG1:(∀M s,ag.pt M (.str s)=(.str s)/\ag.yw M (.str s)=(.str s)) /\
  (∀B M id off,ag.js B M (.ptr id off)=(if id<B then (.ptr id off) else .any)/\ag.jC B M (.ptr id off)=(if id<B then (.ptr id off) else .any)/\ag.jR B M (.ptr id off)=(if id<B then (.ptr id off) else .any)/\ag.nW B M (.ptr id off)=(if id<B then (.ptr id off) else .any)/\ag.jW B M (.ptr id off)=(if id<B then (.ptr id off) else .any)/\ag.kc B M (.ptr id off)=(if id<B then (.ptr id off) else .any)/\ag.ml B M (.ptr id off)=(if id<B then (.ptr id off) else .any)) /\
  (∀id off,ag.shut (.ptr id off)=(.ptr id off)/\ag.gd (.ptr id off)=(.ptr id off)/\ag.jU (.ptr id off)=false/\ag.cells? (.ptr id off)=some [(.ptr id off)]/\ag.k6 (.ptr id off)=true/\ag.plainCell (.ptr id off)=false/\ag.plain (.ptr id off)=false/\ag.cells (.ptr id off)=[(.ptr id off)]/\ag.ia (.ptr id off)=[id]/\ag.mQ (.ptr id off)=[id]/\ag.ids (.ptr id off)=[id]) /\
  (∀M id off,ag.pt M (.ptr id off)=(.ptr id off)/\ag.yw M (.ptr id off)=(.ptr id off)) /\
  (∀B M cs,ag.js B M (.jg cs)=(.jg cs)/\ag.jC B M (.jg cs)=(.jg cs)/\ag.jR B M (.jg cs)=(.jg cs)/\ag.nW B M (.jg cs)=(.jg cs)/\ag.jW B M (.jg cs)=(.jg cs)/\ag.kc B M (.jg cs)=(.jg cs)/\ag.ml B M (.jg cs)=(.jg cs)) /\
  (∀cs,ag.shut (.jg cs)=(.jg cs)/\ag.gd (.jg cs)=(.jg cs)/\ag.jU (.jg cs)=false/\ag.cells? (.jg cs)=some [(.jg cs)]/\ag.k6 (.jg cs)=true/\ag.plainCell (.jg cs)=false/\ag.plain (.jg cs)=false/\ag.cells (.jg cs)=[(.jg cs)]/\ag.ia (.jg cs)=[]/\ag.mQ (.jg cs)=[]/\ag.ids (.jg cs)=[]) /\
  (∀M cs,ag.pt M (.jg cs)=(.jg cs)/\ag.yw M (.jg cs)=(.jg cs)) /\
  (∀B M f cs,ag.js B M (.func f cs) = .any/\ag.jC B M (.func f cs) = .func f (cs.map (ag.js B M))/\ag.jR B M (.func f cs) = .func f (cs.map (ag.js B M))/\ag.nW B M (.func f cs) = .func f (cs.map (ag.js B M))/\ag.jW B M (.func f cs) = .func f (cs.map (ag.js B M))/\ag.kc B M (.func f cs) = .func f (cs.map (ag.js B M))/\ag.ml B M (.func f cs) = .func f (cs.map (ag.js B M))):=by
 repeat' (first|rfl|intro _|apply And.intro)
def TG2:(∀f cs,ag.shut (.func f cs)=(.func f cs)/\ag.gd (.func f cs)=(.func f cs)/\ag.jU (.func f cs)=false/\ag.cells? (.func f cs)=some [(.func f cs)]/\ag.k6 (.func f cs)=true/\ag.plainCell (.func f cs)=false/\ag.plain (.func f cs)=false/\ag.cells (.func f cs)=[(.func f cs)]/\ag.ia (.func f cs)=[]/\ag.mQ (.func f cs)=cs.flatMap ag.ia/\ag.ids (.func f cs)=cs.flatMap ag.ia) /\
  (∀M f cs,ag.pt M (.func f cs)=(.func f cs)/\ag.yw M (.func f cs)=(.func f cs)) /\
  (∀B M id,ag.js B M (.gH id)=(if id<B then (.gH id) else .any)/\ag.jC B M (.gH id)=(if id<B then (.gH id) else .any)/\ag.jR B M (.gH id)=(if id<B then (.gH id) else .any)/\ag.nW B M (.gH id)=(if id<B then (.gH id) else .any)/\ag.jW B M (.gH id)=(if id<B then .gH id else match M[id]? with|some (.map ks vs)=>if vs.all ag.plain&&ks.all ag.plainCell then .iG ks vs else .any|_ => .any)/\ag.kc B M (.gH id)=(if id<B then .gH id else match M[id]? with|some (.map ks vs)=>if vs.all ag.plain&&ks.all ag.plainCell then .iG ks vs else .any|_ => .any)/\ag.ml B M (.gH id)=(if id<B then .gH id else match M[id]? with|some (.map ks vs)=>if vs.all ag.plain&&ks.all ag.plainCell then .iG ks vs else .any|_ => .any)) /\
  (∀id,ag.shut (.gH id)=(.gH id)/\ag.gd (.gH id)=(.gH id)/\ag.jU (.gH id)=false/\ag.cells? (.gH id)=some [(.gH id)]/\ag.k6 (.gH id)=true/\ag.plainCell (.gH id)=false/\ag.plain (.gH id)=false/\ag.cells (.gH id)=[(.gH id)]/\ag.ia (.gH id)=[id]/\ag.mQ (.gH id)=[id]/\ag.ids (.gH id)=[id]) /\
  (∀M id,ag.pt M (.gH id)=(.gH id)/\ag.yw M (.gH id)=(.gH id)) /\
  (∀B M id,ag.js B M (.jA id)=(if id<B then (.jA id) else .any)/\ag.jC B M (.jA id)=(if id<B then (.jA id) else .any)/\ag.jR B M (.jA id)=(if id<B then (.jA id) else .any)/\ag.nW B M (.jA id)=(if id<B then (.jA id) else .any)/\ag.jW B M (.jA id)=(if id<B then (.jA id) else .any)/\ag.kc B M (.jA id)=(if id<B then (.jA id) else .any)/\ag.ml B M (.jA id)=(if id<B then (.jA id) else .any)) /\
  (∀id,ag.shut (.jA id)=(.jA id)/\ag.gd (.jA id)=(.jA id)/\ag.jU (.jA id)=false/\ag.cells? (.jA id)=some [(.jA id)]/\ag.k6 (.jA id)=true/\ag.plainCell (.jA id)=false/\ag.plain (.jA id)=false/\ag.cells (.jA id)=[(.jA id)]/\ag.ia (.jA id)=[id]/\ag.mQ (.jA id)=[id]/\ag.ids (.jA id)=[id]) /\
  (∀M id,ag.pt M (.jA id)=(.jA id)/\ag.yw M (.jA id)=(.jA id)):=by
 repeat' (first|rfl|intro _|apply And.intro)
def TG3:(∀B M ks vs,ag.js B M (.iG ks vs)=(.iG ks vs)/\ag.jC B M (.iG ks vs)=(.iG ks vs)/\ag.jR B M (.iG ks vs)=(.iG ks vs)/\ag.nW B M (.iG ks vs)=(.iG ks vs)/\ag.jW B M (.iG ks vs)=(.iG ks vs)/\ag.kc B M (.iG ks vs)=(.iG ks vs)/\ag.ml B M (.iG ks vs)=(.iG ks vs)) /\
  (∀ks vs,ag.shut (.iG ks vs)=(.iG ks vs)/\ag.gd (.iG ks vs)=(.iG ks vs)/\ag.jU (.iG ks vs)=false/\ag.cells? (.iG ks vs)=some [(.iG ks vs)]/\ag.k6 (.iG ks vs)=true/\ag.plainCell (.iG ks vs)=false/\ag.plain (.iG ks vs)=false/\ag.cells (.iG ks vs)=[(.iG ks vs)]/\ag.ia (.iG ks vs)=[]/\ag.mQ (.iG ks vs)=[]/\ag.ids (.iG ks vs)=[]) /\
  (∀M ks vs,ag.pt M (.iG ks vs)=(.iG ks vs)/\ag.yw M (.iG ks vs)=(.iG ks vs)) /\
  (∀B M id ver sz lo hi,ag.js B M (.dk id ver sz lo hi)=(if id<B then (.dk id ver sz lo hi) else match M[id]? with|some (.arr _ v xs)=>if v=ver then kJ ((xs.take hi).drop lo) else .any|_ => .any)/\ag.jC B M (.dk id ver sz lo hi)=(if id<B then (.dk id ver sz lo hi) else match M[id]? with|some (.arr _ v xs)=>if v=ver then kJ ((xs.take hi).drop lo) else .any|_ => .any)/\ag.jR B M (.dk id ver sz lo hi)=(if id<B then (.dk id ver sz lo hi) else match M[id]? with|some (.arr _ v xs)=>if v=ver then kJ ((xs.take hi).drop lo) else .any|_ => .any)/\ag.nW B M (.dk id ver sz lo hi)=(if id<B then (.dk id ver sz lo hi) else match M[id]? with|some (.arr _ v xs)=>if v=ver then kJ ((xs.take hi).drop lo) else .any|_ => .any)/\ag.jW B M (.dk id ver sz lo hi)=(if id<B then (.dk id ver sz lo hi) else match M[id]? with|some (.arr _ v xs)=>if v=ver then kJ ((xs.take hi).drop lo) else .any|_ => .any)/\ag.kc B M (.dk id ver sz lo hi)=(if id<B then (.dk id ver sz lo hi) else match M[id]? with|some (.arr _ v xs)=>if v=ver then kJ ((xs.take hi).drop lo) else .any|_ => .any)/\ag.ml B M (.dk id ver sz lo hi)=(if id<B then (.dk id ver sz lo hi) else match M[id]? with|some (.arr _ v xs)=>if v=ver then kJ ((xs.take hi).drop lo) else .any|_ => .any)) /\
  (∀id ver sz lo hi,ag.shut (.dk id ver sz lo hi)=(.dk id ver sz lo hi)/\ag.gd (.dk id ver sz lo hi)=(.dk id ver sz lo hi)/\ag.jU (.dk id ver sz lo hi)=false/\ag.cells? (.dk id ver sz lo hi)=some [(.dk id ver sz lo hi)]/\ag.k6 (.dk id ver sz lo hi)=true/\ag.plainCell (.dk id ver sz lo hi)=false/\ag.plain (.dk id ver sz lo hi)=false/\ag.cells (.dk id ver sz lo hi)=[(.dk id ver sz lo hi)]/\ag.ia (.dk id ver sz lo hi)=[id]/\ag.mQ (.dk id ver sz lo hi)=[id]/\ag.ids (.dk id ver sz lo hi)=[id]) /\
  (∀B M id ver i off,ag.js B M (.iu id ver i off)=(if id<B then (.iu id ver i off) else .any)/\ag.jC B M (.iu id ver i off)=(if id<B then (.iu id ver i off) else .any)/\ag.jR B M (.iu id ver i off)=(if id<B then (.iu id ver i off) else .any)/\ag.nW B M (.iu id ver i off)=(if id<B then (.iu id ver i off) else .any)/\ag.jW B M (.iu id ver i off)=(if id<B then (.iu id ver i off) else .any)/\ag.kc B M (.iu id ver i off)=(if id<B then (.iu id ver i off) else .any)/\ag.ml B M (.iu id ver i off)=(if id<B then (.iu id ver i off) else .any)) /\
  (∀id ver i off,ag.shut (.iu id ver i off)=(.iu id ver i off)/\ag.gd (.iu id ver i off)=(.iu id ver i off)/\ag.jU (.iu id ver i off)=false/\ag.cells? (.iu id ver i off)=some [(.iu id ver i off)]/\ag.k6 (.iu id ver i off)=true/\ag.plainCell (.iu id ver i off)=false/\ag.plain (.iu id ver i off)=false/\ag.cells (.iu id ver i off)=[(.iu id ver i off)]/\ag.ia (.iu id ver i off)=[id]/\ag.mQ (.iu id ver i off)=[id]/\ag.ids (.iu id ver i off)=[id]) /\
  (∀M id ver i off,ag.pt M (.iu id ver i off)=(.iu id ver i off)/\ag.yw M (.iu id ver i off)=(.iu id ver i off)):=by
 repeat' (first|rfl|intro _|apply And.intro)
def TG4:(∀B M f fs,ag.js B M (.sb f fs)=(.sb f fs)/\ag.jC B M (.sb f fs)=(.sb f fs)/\ag.jR B M (.sb f fs)=(.sb f fs)/\ag.nW B M (.sb f fs)=(.sb f fs)/\ag.jW B M (.sb f fs)=(.sb f fs)/\ag.kc B M (.sb f fs)=(.sb f fs)/\ag.ml B M (.sb f fs)=(.sb f fs)) /\
  (∀f fs,ag.shut (.sb f fs)=(.sb f fs)/\ag.gd (.sb f fs)=(.sb f fs)/\ag.jU (.sb f fs)=false/\ag.cells? (.sb f fs)=some [(.sb f fs)]/\ag.k6 (.sb f fs)=true/\ag.plainCell (.sb f fs)=false/\ag.plain (.sb f fs)=false/\ag.cells (.sb f fs)=[(.sb f fs)]/\ag.ia (.sb f fs)=[]/\ag.mQ (.sb f fs)=[]/\ag.ids (.sb f fs)=[]) /\
  (∀M f fs,ag.pt M (.sb f fs)=(.sb f fs)/\ag.yw M (.sb f fs)=(.sb f fs)) /\
  (∀B M t id off,ag.js B M (.jO t id off)=(if id<B then (.jO t id off) else .any)/\ag.jC B M (.jO t id off)=(if id<B then (.jO t id off) else .any)/\ag.jR B M (.jO t id off)=(if id<B then (.jO t id off) else .any)/\ag.nW B M (.jO t id off)=(if id<B then (.jO t id off) else .any)/\ag.jW B M (.jO t id off)=(if id<B then (.jO t id off) else .any)/\ag.kc B M (.jO t id off)=(if id<B then (.jO t id off) else .any)/\ag.ml B M (.jO t id off)=(if id<B then (.jO t id off) else .any)) /\
  (∀t id off,ag.shut (.jO t id off)=(.jO t id off)/\ag.gd (.jO t id off)=(.jO t id off)/\ag.jU (.jO t id off)=false/\ag.cells? (.jO t id off)=some [(.jO t id off)]/\ag.k6 (.jO t id off)=true/\ag.plainCell (.jO t id off)=false/\ag.plain (.jO t id off)=false/\ag.cells (.jO t id off)=[(.jO t id off)]/\ag.ia (.jO t id off)=[id]/\ag.mQ (.jO t id off)=[id]/\ag.ids (.jO t id off)=[id]) /\
  (∀M t id off,ag.pt M (.jO t id off)=(.jO t id off)/\ag.yw M (.jO t id off)=(.jO t id off)) /\
  (∀B M v,ag.js B M (.oC v)=(.oC v)/\ag.jC B M (.oC v)=(.oC v)/\ag.jR B M (.oC v)=(.oC v)/\ag.nW B M (.oC v)=(.oC v)/\ag.jW B M (.oC v)=(.oC v)/\ag.kc B M (.oC v)=(.oC v)/\ag.ml B M (.oC v)=(.oC v)) /\
  (∀v,ag.shut (.oC v)=(.oC v)/\ag.gd (.oC v)=(.oC v)/\ag.jU (.oC v)=true/\ag.plainCell (.oC v)=false/\ag.plain (.oC v)=false/\ag.cells (.oC v)=[(.oC v)]/\ag.ia (.oC v)=[]/\ag.mQ (.oC v)=[]/\ag.ids (.oC v)=[]):=by
 repeat' (first|rfl|intro _|apply And.intro)
def TG5:(∀M v,ag.pt M (.oC v)=(.oC v)/\ag.yw M (.oC v)=(.oC v)) /\
  (∀B M v,ag.js B M (.raw v)=(.raw v)/\ag.jC B M (.raw v)=(.raw v)/\ag.jR B M (.raw v)=(.raw v)/\ag.nW B M (.raw v)=(.raw v)/\ag.jW B M (.raw v)=(.raw v)/\ag.kc B M (.raw v)=(.raw v)/\ag.ml B M (.raw v)=(.raw v)) /\
  (∀v,ag.shut (.raw v)=(.raw v)/\ag.gd (.raw v)=(.raw v)/\ag.jU (.raw v)=false/\ag.cells (.raw v)=[(.raw v)]/\ag.ia (.raw v)=[]/\ag.mQ (.raw v)=[]/\ag.ids (.raw v)=[]) /\
  (∀M v,ag.pt M (.raw v)=(.raw v)/\ag.yw M (.raw v)=(.raw v)) /\
  (∀B M,ag.js B M .any = .any/\ag.jC B M .any = .any/\ag.jR B M .any = .any/\ag.nW B M .any = .any/\ag.jW B M .any = .any/\ag.kc B M .any = .any/\ag.ml B M .any = .any) /\
  (ag.shut .any = .any/\ag.gd .any = .any/\ag.jU .any=false/\ag.plainCell .any=false/\ag.plain .any=false/\ag.cells .any=[.any]/\ag.ia .any=[]/\ag.mQ .any=[]/\ag.ids .any=[]) /\
  (∀M,ag.pt M .any = .any/\ag.yw M .any = .any) /\
  (∀B M xs,ag.js B M (kJ xs)=(kJ xs)/\ag.jC B M (kJ xs)=(kJ xs)/\ag.jR B M (kJ xs)=(kJ xs)/\ag.nW B M (kJ xs)=(kJ xs)/\ag.jW B M (kJ xs) = kJ xs/\ag.kc B M (kJ xs) = kJ xs/\ag.ml B M (kJ xs) = kJ xs):=by
 repeat' (first|rfl|intro _|apply And.intro)
def TG6:(∀xs,ag.shut (kJ xs) = kJ xs/\ag.gd (kJ xs) = kJ xs/\ag.jU (kJ xs)=false/\ag.cells? (kJ xs)=some [(kJ xs)]/\ag.k6 (kJ xs)=true/\ag.plainCell (kJ xs)=true/\ag.plain (kJ xs)=true/\ag.cells (kJ xs)=[(kJ xs)]/\ag.ia (kJ xs)=[]/\ag.mQ (kJ xs)=[]/\ag.ids (kJ xs)=[]) /\
  (∀M xs,ag.pt M (kJ xs)=(kJ xs)/\ag.yw M (kJ xs)=(kJ xs)) /\
  (∀B M xs,ag.js B M (.slice .c0 xs)=(.slice .c0 xs)/\ag.jC B M (.slice .c0 xs)=(.slice .c0 xs)/\ag.jR B M (.slice .c0 xs)=(.slice .c0 xs)/\ag.nW B M (.slice .c0 xs)=(.slice .c0 xs)/\ag.jW B M (.slice .c0 xs) = kJ xs/\ag.kc B M (.slice .c0 xs) = kJ xs/\ag.ml B M (.slice .c0 xs) = kJ xs) /\
  (∀xs,ag.shut (.slice .c0 xs) = kJ xs/\ag.gd (.slice .c0 xs) = kJ xs/\ag.jU (.slice .c0 xs)=false/\ag.cells? (.slice .c0 xs)=some [(.slice .c0 xs)]/\ag.k6 (.slice .c0 xs)=true/\ag.plainCell (.slice .c0 xs)=false/\ag.plain (.slice .c0 xs)=false/\ag.cells (.slice .c0 xs)=[(.slice .c0 xs)]/\ag.ia (.slice .c0 xs)=[]/\ag.mQ (.slice .c0 xs)=[]/\ag.ids (.slice .c0 xs)=[]) /\
  (∀M xs,ag.pt M (.slice .c0 xs)=(.slice .c0 xs)/\ag.yw M (.slice .c0 xs)=(.slice .c0 xs)) /\
  (∀B M k xs,ag.js B M (.slice (.own k) xs)=(if k<B then (.slice (.own k) xs) else kJ xs)/\ag.jC B M (.slice (.own k) xs)=(if k<B then (.slice (.own k) xs) else kJ xs)/\ag.jR B M (.slice (.own k) xs)=(if k<B then (.slice (.own k) xs) else kJ xs)/\ag.nW B M (.slice (.own k) xs)=(if k<B then (.slice (.own k) xs) else kJ xs)/\ag.jW B M (.slice (.own k) xs) = kJ xs/\ag.kc B M (.slice (.own k) xs) = kJ xs/\ag.ml B M (.slice (.own k) xs) = kJ xs) /\
  (∀k xs,ag.shut (.slice (.own k) xs) = kJ xs/\ag.gd (.slice (.own k) xs) = kJ xs/\ag.jU (.slice (.own k) xs)=false/\ag.cells? (.slice (.own k) xs)=some [(.slice (.own k) xs)]/\ag.k6 (.slice (.own k) xs)=true/\ag.plainCell (.slice (.own k) xs)=false/\ag.plain (.slice (.own k) xs)=false/\ag.cells (.slice (.own k) xs)=[(.slice (.own k) xs)]/\ag.ia (.slice (.own k) xs)=[k]/\ag.mQ (.slice (.own k) xs)=[k]/\ag.ids (.slice (.own k) xs)=[k]) /\
  (∀M k xs,ag.pt M (.slice (.own k) xs)=(.slice (.own k) xs)/\ag.yw M (.slice (.own k) xs)=(.slice (.own k) xs)):=by
 repeat' (first|rfl|intro _|apply And.intro)
def TG7:(∀B M cs,ag.js B M (.agg cs) = .any/\ag.jC B M (.agg cs) = .any/\ag.jR B M (.agg cs) = .agg (cs.map (ag.jC B M))/\ag.nW B M (.agg cs) = .agg (cs.map (ag.jC B M))/\ag.jW B M (.agg cs) = .any/\ag.kc B M (.agg cs) = .agg (cs.map (ag.jW B M))/\ag.ml B M (.agg cs) = .agg (cs.map (ag.jW B M))) /\
  (∀cs,ag.shut (.agg cs)=(.agg cs)/\ag.gd (.agg cs) = .agg (cs.map ag.shut)/\ag.jU (.agg cs)=false/\ag.cells? (.agg cs)=some cs/\ag.k6 (.agg cs)=false/\ag.plainCell (.agg cs)=false/\ag.plain (.agg cs)=cs.all ag.plainCell/\ag.cells (.agg cs)=cs/\ag.ia (.agg cs)=[]/\ag.mQ (.agg cs)=[]/\ag.ids (.agg cs)=cs.flatMap ag.mQ) /\
  (∀M cs,ag.pt M (.agg cs)=(.agg cs)/\ag.yw M (.agg cs) = .agg (cs.map (ag.pt M))) /\
  (∀B M cs,ag.js B M (.tuple cs) = .any/\ag.jC B M (.tuple cs) = .any/\ag.jR B M (.tuple cs) = .any/\ag.nW B M (.tuple cs) = .tuple (cs.map (ag.jR B M))/\ag.jW B M (.tuple cs) = .any/\ag.kc B M (.tuple cs) = .any/\ag.ml B M (.tuple cs) = .tuple (cs.map (ag.kc B M))) /\
  (∀cs,ag.shut (.tuple cs)=(.tuple cs)/\ag.gd (.tuple cs)=(.tuple cs)/\ag.jU (.tuple cs)=false/\ag.plainCell (.tuple cs)=false/\ag.plain (.tuple cs)=false/\ag.cells (.tuple cs)=[(.tuple cs)]/\ag.ia (.tuple cs)=[]/\ag.mQ (.tuple cs)=[]/\ag.ids (.tuple cs)=[]) /\
  (∀M cs,ag.pt M (.tuple cs)=(.tuple cs)/\ag.yw M (.tuple cs)=(.tuple cs)):=by
 repeat' (first|rfl|intro _|apply And.intro)
def bL{C:eO}{fn:List sy}{bN:Nat}{k:List K}{t:Bool}{x y:cz}{bt:Env}{M:aL}{r:Option (ag×aL)}
  (h1:t=true->fS C fn bN k x bt M=r) (h2:t=false->fS C fn bN k y bt M=r):dv C fn bN k (.bool t) x y bt M=r:=by
 cases t
 ·exact h2 rfl
 ·exact h1 rfl
def cK{C:eO}{fn:List sy}{bN:Nat}{k:List K}{live:List Nat}{t w:Bool}{o:cQ}{l:List cQ}{bt:Env}{M:aL}{r:Option (ag×aL)}
  (h1:t=w->kH C fn bN k live o.lets o.dst l bt (pP C o bt M)=r) (h2:t = !w->fp C fn bN k live l (rp bt o.dst (.tuple [])) M=r):gK C fn bN k live (.bool t) w o l bt M=r:=by
 cases t<;>cases w
 ·exact h1 rfl
 ·exact h2 rfl
 ·exact h2 rfl
 ·exact h1 rfl
def eZ{C:eO}{fn:List sy}{bN:Nat}{k:List K}{live:List Nat}{c:Bool}{d:Option Nat}{l:List cQ}{bt:Env}{t:Bool}{x y r:Option (ag×aL)}
  (h1:t=true->kH C fn bN k live c d l bt x=r) (h2:t=false->kH C fn bN k live c d l bt y=r):kH C fn bN k live c d l bt (zo t x y)=r:=by
 cases t
 ·exact h2 rfl
 ·exact h1 rfl
def se{a b:Nat}(h:a<=1000000)(hb:b<=1000):dQ a b=True:=by
 have:a*b<=1000000*1000:=Nat.mul_le_mul h hb;simp only[fi,jQ];unfold dQ;omega
def xR{a b:Nat}(h:a<=1000000:=by omega)(hb:b<=1000:=by omega):dQ a b=True:=se h hb
def AE{p:Prop}(h:p:=by omega):p=True:=eq_true h
def Gu{p:Prop}(h:¬p:=by omega):p=False:=eq_false h
def Xx(x:ag)(n:Nat):wid [x] n=(x.cells.length=n):=by simp[wid]
def Xv(a b:List ag)(n:Nat):wid (a++b) n=(wid a n/\wid b n):=by
 simp only[fi];exact⟨fun h=>⟨fun x hx=>h x (eR _ hx),fun x hx=>h x (hZ _ hx)⟩,fun h x hx=>(bT.1 hx).elim (h.1 x) (h.2 x)⟩
def Xw(n:Nat):wid [] n=True:=by simp[wid]
def WO(m:Nat):((m:Int)<0)=False:=by simp
def gD{n:Int}(h0 : -9223372036854775808<=n)(h1:n<=9223372036854775807):IntKind.i64.wrap n=n:=by rw[IntKind.wrap_i64]; omega
def vv{C:eO}{f:Nat}{vs:List ag}{r:ag}(h:C f vs []=some (r,[]))(h1:vs.all ag.flat=true)(h2:vs.flatMap ag.ids=[])(h3:r.wJ=true)
  (h4:vs.map (ag.ry (iH []))=vs) (h5:r.BI (xk [])=r) (M:aL):aM C f vs M=some (r,M):=by
 have e0:reach M []=[]:=rfl;have e1:lX M []=[]:=rfl;have e2:(vs.map (ag.ry (iH [])))=vs:=h4;unfold aM;rw[az h1,h2,e0];simp only[kh,cd];rw[az e1,e2,h];simp[h3,h5,mF]
def cO{C:eO}{f:Nat}{vs:List ag}{r:ag}(h:C f vs []=some (r,[]))(M:aL)(h1:vs.all ag.flat=true:=by exact rfl)(h2:vs.flatMap ag.ids=[]:=by exact rfl)(h3:r.wJ=true:=by exact rfl)(h4:vs.map (ag.ry (iH []))=vs:=by exact rfl)(h5:r.BI (xk [])=r:=by exact rfl):aM C f vs M=some (r,M):=vv h h1 h2 h3 h4 h5 M
def cP{C:eO}{f:Nat}{vs:List ag}{r:ag}(h:C f vs []=some (r,[]))(h1:vs.all ag.flat=true:=by exact rfl)(h2:vs.flatMap ag.ids=[]:=by exact rfl)(h3:r.wJ=true:=by exact rfl)(h4:vs.map (ag.ry (iH []))=vs:=by exact rfl)(h5:r.BI (xk [])=r:=by exact rfl)(M:aL):aM C f vs M=some (r,M):=vv h h1 h2 h3 h4 h5 M
def pG{C:eO}{f p:Nat}{vs:List ag}{r:ag}{M:aL}{cs cs':List ag}(hM:nth M p=some (.cells cs))(h:C f (.ptr 0 0::vs) [.cells cs]=some (r,[.cells cs']))(h1:vs.all ag.flat=true)(h2:vs.flatMap ag.ids=[])(h3:r.wJ=true)
  (h4:vs.map (ag.ry (iH [p]))=vs) (h5:r.BI (xk [p])=r) (h6:cs.all ag.vT=true) (h7:cs.flatMap ag.mQ=[]) (h8:cs.map (ag.td (iH [p]))=cs) (h9:cs'.all ag.vT=true) (h10:cs'.map (ag.td (xk [p]))=cs') :
  aM C f (.ptr p 0::vs) M=some (r,j6 M p (.cells cs')):=by
 have hids:(ag.ptr p 0::vs).flatMap ag.ids=[p]:=by simp[ag.ids,ag.mQ,ag.ia,h2]
 have hi:sQ M [p]=[]:=by simp[sQ,hM,cD.ids,h7]
 have e0:lX M [p]=[p]:=by simp[lX,hi,lV]
 have e1:reach M [p]=[p]:=by
  have ea:lV [] [p]=[p]:=rfl;simp only[reach,ea,e0]
 have hfl:(ag.ptr p 0::vs).all ag.flat=true:=by simp only[j9,h1,eX]; rfl
 unfold aM;rw[az hfl,hids,e1];have hpk:kh M (iH [p]) [p]=some [.cells cs]:=by simp[kh,hM,cD.flat,h6,cD.ry,h8]
 rw[hpk];simp only[cd];rw[az e0]
 have hrn:(ag.ptr p 0::vs).map (ag.ry (iH [p])) = .ptr 0 0::vs:=by
  simp only[aW,h4];simp[ag.ry,ag.td,ag.tZ,iH]
 rw[hrn,h];simp only[cd];rw[az ⟨rfl,h3,by simp[cD.flat,h9]⟩,h5]
 simp only[mF,cD.ry,h10]
def max_lt(n:Nat)(h:n<=9223372036854775807):(IntKind.i64.max<(n:Int))=False:=by
 have:IntKind.i64.max=9223372036854775807:=rfl;simp only[fi,mh,this]; omega
set_option linter.defProp false in
def EVT:=bR @PX$ bR @PW$ bR @Vp$ bR @Vq$ bR @Nu$ bR @PV$ bR @J6$ bR @TE$ bR @Ol$ bR @Om$ bR @Tg$ bR @WR$ bR @N2$ bR @Kw$ bR @Ku$ bR @Kv$ bR @Kx$ bR @agR$ bR @agO$ bR @agQ$ bR @agP$ bR @agS$ bR @Vv$ bR @Vu$ bR @acA$ bR @HW$ bR @Kl$ bR @Kk$ bR @Gd$ bR @HU$ bR @SB$ bR @DP$ bR @Gf$ bR @VO$ bR @Gh$ bR @HV$ bR @SC$ bR @DQ$ bR @Gg$ bR @zt.eq_1$ bR @AD.eq_1$ bR @acz$ bR @aW.{0,0}$ bR @bp.{0,0}$ bR @cd$ bR @va$ bR @nF$ bR @cV$ bR @aQ$ bR @av.{0}$ bR @aH.{0}$ bR @j9.{0}$ bR @List.all_nil.{0}$ bR @pE$ bR @List.take_zero.{0}$ bR @aY.{0}$ bR @oo.{0}$ bR @oh.{0}$ bR @List.drop_zero.{0}$ bR @List.drop_nil.{0}$ bR @List.take_nil.{0}$ bR @bW.{0}$ bR @aX.{0}$ bR @ar$ bR @kD$ bR @not_true_eq_false$ bR @mj$ bR @Nat.one_ne_zero$ bR @Nat.zero_ne_one$ bR @kb$ bR @iP$ bR @ka.{0,0}$ bR @aI.{0,0}$ bR @bh$ bR @aZ.{0,0}$ bR @cB.{0,0}$ bR @KN$ bR @fD$ bR @nA$ bR @decide_false$ bR @BEq.rfl.{0}$ bR @eu.{0}$ bR @cX$ bR @fV$ bR @WO$ bR @Xx$ bR @Xw$ bR @and_true$ bR @true_and$ bR @eX$ bR @aK.{0}$ bR @ge_iff_le.{0}$ bR @gt_iff_lt.{0}$ bR @Xv$ bR @ig.{0}$ bR @true_or$ bR @or_true$ bR @List.cons_prefix_cons.{0}$ bR @List.nil_prefix.{0}$ bR @List.cons_ne_nil.{0}$ bR @List.flatMap_cons.{0,0}$ bR @List.flatMap_nil.{0,0}$ bR @max_lt$ bR @TG0$ bR @TG1$ bR @TG2$ bR @TG3$ bR @TG4$ bR @TG5$ bR @TG6 (@TG7)
set_option linter.defProp false in
def EVD:=bR @finish.eq_1$ bR @pS.eq_1$ bR @pS.eq_2$ bR @zx.eq_1$ bR @zx.eq_2$ bR @zx.eq_3$ bR @one.eq_1$ bR @one.eq_2$ bR @pP.eq_1$ bR @dZ.eq_1$ bR @dZ.eq_2$ bR @dZ.eq_3$ bR @dZ.eq_4$ bR @dZ.eq_5$ bR @dZ.eq_6$ bR @dZ.eq_7$ bR @dZ.eq_8$ bR @dZ.eq_9$ bR @dZ.eq_10$ bR @dZ.eq_11$ bR @dZ.eq_12$ bR @dZ.eq_13$ bR @dZ.eq_14$ bR @dZ.eq_15$ bR @dZ.eq_16$ bR @dZ.eq_17$ bR @dZ.eq_18$ bR @dZ.eq_19$ bR @dZ.eq_20$ bR @dZ.eq_21$ bR @dZ.eq_22$ bR @dZ.eq_23$ bR @dZ.eq_24$ bR @dZ.eq_25$ bR @dZ.eq_26$ bR @dZ.eq_27$ bR @dZ.eq_28$ bR @dZ.eq_29$ bR @dZ.eq_30$ bR @dZ.eq_31$ bR @dZ.eq_32$ bR @dZ.eq_33$ bR @dZ.eq_34$ bR @dZ.eq_35$ bR @dZ.eq_36$ bR @dZ.eq_37$ bR @dZ.eq_38$ bR @dZ.eq_39$ bR @dZ.eq_40$ bR @dZ.eq_41$ bR @dZ.eq_42$ bR @dZ.eq_43$ bR @dZ.eq_44$ bR @dZ.eq_45$ bR @dZ.eq_46$ bR @dZ.eq_47$ bR @dZ.eq_48$ bR @dZ.eq_49$ bR @dZ.eq_50$ bR @dZ.eq_51$ bR @dZ.eq_52$ bR @dZ.eq_53$ bR @dZ.eq_54$ bR @dZ.eq_55$ bR @dZ.eq_56$ bR @j5.eq_1$ bR @j5.eq_2$ bR @gQ.ev.eq_1$ bR @gQ.ev.eq_2$ bR @ir.eq_1$ bR @ir.eq_2$ bR @rp.eq_1$ bR @rp.eq_2$ bR @ju.eq_1$ bR @nth.eq_1$ bR @nth.eq_2$ bR @nth.eq_3$ bR @j6.eq_1$ bR @j6.eq_2$ bR @j6.eq_3$ bR @qk.eq_1$ bR @qk.eq_2$ bR @qk.eq_3$ bR @qk.eq_4$ bR @qk.eq_5$ bR @qk.eq_6$ bR @qk.eq_7$ bR @qk.eq_8$ bR @qk.eq_9$ bR @qk.eq_10$ bR @qk.eq_11$ bR @qk.eq_12$ bR @qk.eq_13$ bR @qk.eq_14$ bR @qk.eq_15$ bR @qk.eq_16$ bR @qk.eq_17$ bR @qk.eq_18$ bR @qk.eq_19$ bR @qk.eq_20$ bR @qk.eq_21$ bR @qk.eq_22$ bR @qk.eq_23$ bR @qk.eq_24$ bR @qk.eq_25$ bR @mH.eq_1$ bR @vP.eq_1$ bR @jS.eq_1$ bR @cD.back.eq_1$ bR @cD.back.eq_2$ bR @cD.back.eq_3$ bR @cD.back.eq_4$ bR @cD.back.eq_5$ bR @sL.eq_1$ bR @sL.eq_2$ bR @yH.eq_1$ bR @yH.eq_2$ bR @lu.eq_1$ bR @lu.eq_2$ bR @kI.dW.eq_1$ bR @kI.dW.eq_2$ bR @kI.dW.eq_3$ bR @jf.eq_1$ bR @jf.eq_2$ bR @ob.eq_1$ bR @og.eq_1$ bR @ox.eq_1$ bR @bytesOf.eq_1$ bR @valOf.eq_1 (@valOf.eq_2)
set_option linter.defProp false in
def vp:=bR @eX$ bR @bQ$ bR @dL$ bR @cf$ bR @dJ$ bR @dK$ bR @gq$ bR @dg$ bR @cX$ bR @fV$ bR @pE$ bR @dI$ bR @af (@eu.{0})
set_option linter.defProp false in
def EV:=And.intro @ne_eq.{1} (And.intro EVT EVD)
end Go.Abs
