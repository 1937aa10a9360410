import Derived.Lib.AppendZerosOnto
import Derived.RangeFuncCalls
import Derived.OrdersIn
import Derived.LoopNIn
import Derived.Shelf.SlSortCmp.NoneTotal
import Derived.Shelf.SlicesG.Cmp
import Derived.Shelf.Strings.OnBuilder
import Derived.Shelf.Small.Strs
import Derived.Test.YtcbopkblmebjiaaGreatDoorFtaB
set_option linter.all false
open Go.Proofs.Tryz
namespace Go.Abs
open Go Go.RowKit
variable [jw]
section
variable {P:Program} {C:eO} {o:Oper} {bq:Env} {M:aO} {j:J} {w:World} {a:Act} {x:ag×aO}
theorem OA{l:List ag}(hp:0<l.length)(h1:l.all ag.plainCell=true)(n:Nat):jM (List.replicate n (ag.agg l).norm)=(List.replicate n l).flatten/\wid (List.replicate n (ag.agg l).norm) l.length:=by
 refine⟨?_,fun x hx=>by rw[lI hx,ur hp h1]⟩
 induction n with
 |zero=>rfl
 |succ n ih=>rw[iZ,oQ,ih,iZ,List.flatten_cons,ur hp h1]
theorem LB(hr:Rel j M w){id sz ver:Nat}{xs0 xs ys:List ag}(hM:M[id]?=some (.arr sz ver xs0))(hx0:∀(q:Nat) x,xs[q]?=some x->xs0[q]?=some x)(hle0:xs.length<=xs0.length){b cap:Nat}{row:Array Value}{t:TypeId}(hj:j id=some b)(hw:w.heap[b]?=some (.cells row t (0,0)))(hcap:xs.length<=cap)(hrow:cap*sz<=row.size)
  (hwd:wid xs sz) (hwy:wid ys sz) (hne:ys≠[]) {us:List Value} (hrl:RL w (ow j M w) (jM ys) us) {v:Value} {w':World}
  (hq:(xs.length+ys.length<=cap/\v = .slice (some ⟨b,0,none⟩) (xs.length+ys.length) cap/\w'=pf w b (xs.length*sz) us) \/
   ∃c' row' e,xs.length+ys.length<=c'/\v = .slice (some ⟨w.heap.size,0,none⟩) (xs.length+ys.length) c'/\Quiet w w'/\(∀b,b<w.heap.size->w'.heap[b]?=w.heap[b]?)/\w'.heap[w.heap.size]?=some (.cells row' e (0,0))/\c'*sz<=row'.size /\
    ∀p,p<(xs.length+ys.length)*sz->row'[p]?=(row.toList.take (xs.length*sz)++us)[p]?) :
  iH j M w (.cY id (ver+1) sz 0 (xs.length+ys.length),M.set id (.arr sz (ver+1) (xs++ys))) v w':=by
 obtain⟨b',row0,t',k1,k2,k3,k4,k5⟩:=hr.yF hM hj;rw[hj] at k1; cases k1;rw[hw] at k2; injection k2 with k2; injection k2 with k2 k2'
 subst k2; subst k2';have hrow0:=xG (b:=b) (bg (bd _ hle0) k3) hwd fun q x k c h=>k5 q x k c (hx0 q x h)
 have hid:=aJ hM;have hwd2:=nr hwd hwy
 have iC:RL w (ow j M w) (jM (xs++ys)) (row.toList.take (xs.length*sz)++us):=by
  rw[oO]; exact hrow0.append hrl
 have fx:(xs++ys).length=xs.length+ys.length:=dk;have hpl:(row.toList.take (xs.length*sz)++us).length=(xs.length+ys.length)*sz:=by rw[<-iC.1,iA hwd2,fx]
 have hul:us.length=ys.length*sz:=by rw[<-hrl.1,iA hwy]
 have hpos:0<ys.length:=iY.2 hne;rcases hq with ⟨h1,rfl,rfl⟩|⟨c',row',e,h1,rfl,q,hb,hn,hs,hp⟩
 ·have hfit:xs.length*sz+us.length<=row.size:=by
   rw[hul,<-cg]; exact bg (bd _ h1) hrow
  obtain⟨s1,s2,s3,s4,s5,row2,s6,s7,s8,s9⟩:=lU (t:=t) us w (xs.length*sz) row hw hfit
  have hput:=xF (ver':=ver+1) (xs':=xs++ys) hr hM hj ⟨aM,s2,s3,s4⟩ (fun b' hb' _=>s5 b' hb') hw s6 s7 aM (fun h=>aM) hwd2 iC (fun p hp=>by
   rw[hpl] at hp
   grind)
  refine⟨j,hput.1,hput.2,.cY (.inl ⟨b,0,cap,by rw[cd],aM⟩) (by simpa using hid) (fun bx hbx=>by rw[dZ hid] at hbx; cases hbx; rfl) fun sz' v' zs hx=>?_⟩
  rw[dZ hid] at hx; injection hx with hx; injection hx with e1 e2 e3
  subst e1; simp_all
 ·have hat  := fun p h=>hp p (by rw[<-hpl]; exact h)
  have hrel:=Rel.uS (ver':=ver+1) (xs':=xs++ys) hM hr q hb (ak _) (lt_of_block hn) dk (fun j' M' hx=>ma hn hwd2 (iC.mono hx.im) hat)
  have hext:=Ext.uS (j:=j) (ver':=ver+1) (xs':=xs++ys) hM q hb (ak _) dk;refine⟨_,hrel,hext,.cY (.inl ⟨w.heap.size,0,c',by rw[cd],aM⟩) (by simpa using hid) (fun bx hbx=>by rw[dZ hid] at hbx; cases hbx; rfl) fun sz' v' zs hx=>?_⟩
  rw[dZ hid] at hx; injection hx with hx; injection hx with e1 e2 e3
  subst e1; subst e2; subst e3;exact⟨ak _,fun _=>⟨rfl,ct _,aM,.inr ⟨w.heap.size,c',row',e,by simp[gD],dk,aM,hn,by rw[aN]; exact hs⟩⟩⟩
theorem K2(hr:Rel j M w)(he:cE j M w bq a){c:Call}{y y':Operand}{z z':gw}{t t' e:TypeId}{kn:IntKind}{i:TypeInfo}{zv:Value}{l:List ag}(hop:o.op = .call c)(hb:c.callee = .builtin .append)(ha:c.args.toList=[y,y'])
  (hat:c.argTypes.toList=[t,t']) (hs:P.underlying t=some (.slice e)) (hs':P.underlying t'=some (.int kn)) (hi:P.info? e=some i) (hzv:i.zero=some zv) (hl:tn zv.cells.toList=some l) (c1:l.length=i.size) (c2:0<i.size) (c3:0<i.bytes) (c4:i.bytes<=2 ^ 20)
  (hz:ew y=some z) (hz':ew y'=some z') (h:ei C bq M (.xE i.size i.bytes (l.map ag.shut) z z')=some x):∃v w',rl P o a w v w'/\iH j M w x v w':=by
 simp only[ei] at h;have r1:=cU he hz;have r2:=cU he hz';have ha':c.args = #[y,y']:=by rw[<-ha]
 have hat':c.argTypes = #[t,t']:=by rw[<-hat]
 have hexec:∀r,(Builtin.append_ #[t,t'] o.type #[a.eval y,a.eval y']).run P w=r->(execOp a.eval o).run P w=r.andThen fun v w' => .ok (.value v) w':=by
  intro r hr';simp[execOp,hop,resolve,hb,invoke,builtin,ha',hat',hr']
 have hsz:(sizeOf e).run P w = .ok i.size w:=jd (by simp[qg,hi])
 obtain⟨z1,z2⟩:=qo (j:=j) (M:=M) (w:=w) hl;have hzs:zv.cells.size=i.size:=by simp at z1; omega
 have happ:∀(A:Option Addr)(n c:Nat)(kz:IntKind)(m:Nat),(Builtin.append_ #[t,t'] o.type #[.slice A n c,.int kz (m:Int)]).run P w=(Builtin.append_ #[t,t'] o.type #[.slice A n c,.int kn (m:Int)]).run P w:=fun A n c kz m=>by
  simp[Builtin.append_,dP hs,dP hs',asInt,asIntOf]
 -- what is appended
 have zrow:∀(k:Nat),(l.map ag.shut).all ag.plainCell=true->RL w (ow j M w) (jM (List.replicate k (ag.agg (l.map ag.shut)).norm)) (Builtin.zeroCells zv.cells k).toList/\wid (List.replicate k (ag.agg (l.map ag.shut)).norm) i.size/\∀v,v∈(Builtin.zeroCells zv.cells k).toList->v.oneCell'=true:=by
  grind [Cu,OA,ag.shut,List.length_map,rN,PJ,List.mem_flatten]
 -- nothing is appended
 have nil:∀(bZ:Option Addr)(n cap:Nat),n<=cap->(Builtin.append_ #[t,t'] o.type #[.slice bZ n cap,.int kn 0]).run P w = .ok (.slice bZ n cap) w:=by
  intro bZ n cap hle;have hw0:IntKind.i64.wrap 0=0:=pd;cases bZ<;>simp[Builtin.append_,dP hs,dP hs',hsz,asInt,asIntOf,hw0,typeInfo,hi,hle,storeCells]
 have grow:∀(bZ:Option Addr)(n cap:Nat)(olds:List Value)(k:Nat),(∀w':World,w'.heap=w.heap->(Builtin.firstCells i.size n (.slice bZ n cap)).run P w' = .ok olds.toArray w')->0<k->cap<n+k->(n+k)*i.bytes<=2 ^ 44 ->
   ∃newCap row' w',n+k<=newCap/\(Builtin.append_ #[t,t'] o.type #[.slice bZ n cap,.int kn k]).run P w = .ok (.slice (some ⟨w.heap.size,0,none⟩) (n+k) newCap) w'/\Quiet w w'/\(∀b,b<w.heap.size->w'.heap[b]?=w.heap[b]?)/\w'.heap[w.heap.size]?=some (.cells row' e (0,0)) /\
    row'.size=olds.length+k*i.size+(newCap-(n+k))*i.size/\∀p,p<olds.length+k*i.size->row'[p]?=(olds++(Builtin.zeroCells zv.cells k).toList)[p]?:=by
  intro bZ n cap olds k hold hk cA hroom
  have hcapb:Builtin.nextslicecap (n+k) cap*i.bytes<=281474976710656:=by
   have h1:=Dv cA;have h2:Builtin.nextslicecap (n+k) cap*i.bytes<=(2*(n+k)+1000)*i.bytes:=bd _ h1
   grind
  have h44:n+k<=2 ^ 44:=bg (fA _ c3) hroom
  have hkb:k*i.bytes<=281474976710656:=by
   have:=bd i.bytes (show k<=n+k by omega)
   omega
  have hrun:=Lib.run_append_grow_zeros (P:=P) w t t' o.type e i zv kn kn hs hs' hi hzv bZ n cap olds (hold w.drew rfl) k hk c2 cA aM hkb hcapb;have hge:n+k<=grownCap w (n+k) cap e:=grownCap_ge w (n+k) cap e;have hzl:∀m,(Builtin.zeroCells zv.cells m).size=m*i.size:=fun m=>by simp[Builtin.zeroCells,hzs]
  obtain⟨q,hbk,iC⟩:=o7 (w:=w) (.cells (olds.toArray++Builtin.zeroCells zv.cells k++Builtin.zeroCells zv.cells (grownCap w (n+k) cap e-(n+k))) e (0,0));refine⟨_,_,_,hge,hrun,⟨q.size,rfl,rfl,rfl⟩,hbk,iC,by simp only[fU,hzl,dI],fun p hp=>?_⟩
  rw[cy (by simp only[fU,hzl,dI]; exact hp)]
  simp[<-Array.getElem?_toList]
 have hkk:∀ {k:Int} {kz:IntKind},a.eval y' = .int kz k->0<=k->∃m:Nat,k=m:=fun {k} _ _ h=>⟨k.toNat,aM⟩
 split at h
 ·rename_i kz k ex ek;rw[ex] at r1; rw[ek] at r2;obtain⟨⟨h0,hroom,hsl,hpl⟩,h⟩:=dw h;obtain⟨A,hv⟩:=r1.CK;obtain⟨m,rfl⟩:∃m:Nat,k=m:=⟨k.toNat,aM⟩;have hk2:=r2.fS;rcases k8 h with ⟨hb0,h⟩|⟨hb0,h⟩
  ·cases h;have hm0:m=0:=by simpa using hb0
   subst hm0;refine⟨a.eval y,w,.inl ?_,.still hr ?_⟩
   ·rw[hexec _ rfl,hv,hk2,happ,gu,nil A 0 0 (ak _)]; rfl
   ·rw[hv]; exact .c0 _
  ·cases h
   have hm0:0<m:=by
    rcases eL m with h|h
    ·subst h; simp at hb0
    ·exact h
   unfold dY at hroom;simp only[bj] at hroom ⊢;obtain⟨newCap,row',w',g1,g2,q,g3,g4,g5,g6⟩:=grow A 0 0 [] m (fun w' _=>by cases A<;>simp[Builtin.firstCells,loadCells,loadCellsFrom]) hm0 aM (by simpa using hroom)
   obtain⟨p1,p2,p3⟩:=zrow m hpl;have hob:∀b,some w.heap.size=some b->w.heap.size<=b/\b<w'.heap.size:=fun b h=>by cases h; exact⟨ak _,lt_of_block g4⟩
   have ext:Ext j M w (gD j M.length (some w.heap.size)) (M++[.arr i.size 0 (List.replicate m (ag.agg (l.map ag.shut)).norm)]) w':=Ext.push (fun b h=>(hob b h).1) q g3
   have hat:∀j' M',Ext j M w j' M' w'->Eg j' M' w' w.heap.size i.size (List.replicate m (ag.agg (l.map ag.shut)).norm):=fun j' M' hx=>ma g4 p2 (p1.mono hx.im) fun p hp=>by
    have hp':p<m*i.size:=by rw[<-p1.1,iA p2] at hp; simpa using hp
    rw[g6 p (by simpa using hp')]; simp
   refine⟨.slice (some ⟨w.heap.size,0,none⟩) m newCap,w',.inl ?_,gD j M.length (some w.heap.size),hr.push hob q g3 (fun h=>by cases h) (fun sz n b h _=>by cases h) (fun sz0 v0 xs0 he=>?_),ext,?_⟩
   ·rw[hexec _ rfl,hv,hk2,happ,g2]; simp[Result.andThen]
   ·injection he with e1 e2 e3
    subst e1; subst e2; subst e3;refine .inr ⟨w.heap.size,row',e,rfl,g4,by rw[g5]; simp,p2,fun j' M' hx q x k c hx' hk=>?_⟩
    obtain⟨vs,t,a1,a2,a3,a4⟩:=hat j' M' hx;rw[g4] at a1; injection a1 with a1; injection a1 with a1 a1'
    subst a1;exact a4 q x k c hx' hk
   ·refine .cY (.inl ⟨w.heap.size,0,newCap,by rw[cd],aM⟩) dk (fun bx hbx=>by rw[kd] at hbx; cases hbx; rfl) fun sz' v' xs hx=>?_
    rw[kd] at hx; injection hx with hx; injection hx with e1 e2 e3
    subst e1; subst e2; subst e3;refine⟨ak _,fun _=>⟨rfl,ct _,dk,.inr ⟨w.heap.size,newCap,row',e,by simp[gD],dk,aM,g4,?_⟩⟩⟩
    rw[g5,aN];simp only[aF,aN];rw[<-cg,dn aM];exact ak _
 ·rename_i id ver sz' lo hi0 kz k ex ek;rw[ex] at r1; rw[ek] at r2;rw[eY] at h;split at h
  ·rename_i sz0 v0 xs hM;obtain⟨⟨d1,d2,d3,d4,h0,hroom,hsl,hpl,hne0⟩,h⟩:=dw h;subst d1; subst d2; subst d3; subst d4;obtain⟨_,hid,_,g⟩:=r1.mQ;obtain⟨e1,_,_,⟨hx,_⟩|⟨b,cap,row,t0,l3,l4,l5,l6,l7⟩⟩:=(g sz0 v0 xs hM).2 rfl
   ·exact absurd hne0 (by rw[hx]; simp)
   subst e1;rw[cd] at l4 l5;rw[jv] at l4;rw[aN] at l7;obtain⟨m,rfl⟩:∃m:Nat,k=m:=⟨k.toNat,aM⟩;have hk2:=r2.fS;rcases k8 h with ⟨hb0,h⟩|⟨hb0,h⟩
   ·cases h;have hm0:m=0:=by simpa using hb0
    subst hm0;refine⟨a.eval y,w,.inl ?_,.still hr r1⟩;rw[hexec _ rfl,hk2,l4,happ,gu,nil _ _ _ l5]; rfl
   ·cases h
    have hm0:0<m:=by
     rcases eL m with h|h
     ·subst h; simp at hb0
     ·exact h
    unfold dY at hroom;simp only[bj] at hroom ⊢;obtain⟨b',row0,t',k1,k2,k3,k4,k5⟩:=hr.yF hM l3;rw[l3] at k1; cases k1;rw[l6] at k2; injection k2 with k2; injection k2 with k2 k2'
    subst k2; subst k2';obtain⟨p1,p2,p3⟩:=zrow m hpl;have hlr:(List.replicate m (ag.agg (l.map ag.shut)).norm).length=m:=dk;have hne:List.replicate m (ag.agg (l.map ag.shut)).norm≠[]:=by intro h; rw[h] at hlr; simp at hlr; omega
    have key:=fun v w' hq=>LB (v:=v) (w':=w') hr hM (fun _ _ h=>h) (ak _) l3 l6 l5 l7 k4 p2 hne p1 hq
    rw[hlr] at key;rw[fJ];rcases bK cap (xs.length+m) with cA|hge
    ·have hfc:∀w':World,w'.heap=w.heap->(Builtin.firstCells i.size xs.length (.slice (some ⟨b,0,none⟩) xs.length cap)).run P w' = .ok (row.toList.take (xs.length*i.size)).toArray w':=fun w' hw'=>by
      have:=o3 (P:=P) (w:=w') b 0 (xs.length*i.size) (fun p=>(row[p]?).getD undef) fun p hp=>by
       simp only[World.cell?,hw',l6,aN];rw[bf (show p<row.size by omega)]; rfl
      simp only[Builtin.firstCells];rw[this];congr 2;apply dA;intro p;rw[bb,gk];rcases bK p (xs.length*i.size) with h|h
      ·rw[eA h,av h];simp[bf (show p<row.size by omega)]
      ·rw[aj aM,gQ (by simpa using h)]; rfl
     obtain⟨newCap,row',w',g1,g2,q,g3,g4,g5,g6⟩:=grow (some ⟨b,0,none⟩) xs.length cap _ m hfc hm0 cA hroom;have htk:(row.toList.take (xs.length*i.size)).length=xs.length*i.size:=ic;refine⟨_,w',.inl ?_,key _ w' (.inr ⟨newCap,row',e,g1,rfl,q,g3,g4,?_,fun p hp=>g6 p (by rw[htk,<-cg]; exact hp)⟩)⟩
     ·rw[hexec _ rfl,hk2,l4,happ,g2]; rfl
     ·rw[g5,htk,<-cg,<-cg,dn g1];exact ak _
    ·have hfit:xs.length*i.size+(Builtin.zeroCells zv.cells m).toList.length<=row.size:=by
      rw[<-p1.1,iA p2,hlr,<-cg]; exact bg (bd _ hge) l7
     have hst:=nq (P:=P) (Builtin.zeroCells zv.cells m).toList w (xs.length*i.size) 0 row l6 aM p3;refine⟨_,_,.inl ?_,key _ _ (.inl ⟨hge,rfl,rfl⟩)⟩
     have hwm:IntKind.i64.wrap (m:Int)=m:=by
      have:m*i.bytes<=2 ^ 44:=bg (bd _ aM) hroom;have:m<=2 ^ 44:=bg (fA _ c3) this;rw[IntKind.wrap_i64]; omega
     have hneg:¬((m:Int)<0):=aM;have hns:¬(m*i.size=0):=Nat.mul_ne_zero aM aM
     have h48:¬(281474976710656<(m:Int)*(i.bytes:Int)):=by
      have:m*i.bytes<=2 ^ 44:=bg (bd _ aM) hroom;rw[<-Int.natCast_mul]; omega
     rw[hexec _ rfl,hk2,l4,happ];have hadd:(⟨b,0,none⟩:Addr).add (xs.length*i.size)=⟨b,xs.length*i.size,none⟩:=by simp[lz]
     simp only[dq] at hst
     have hap:(Builtin.append_ #[t,t'] o.type #[.slice (some ⟨b,0,none⟩) xs.length cap,.int kn (m:Int)]).run P w = .ok (.slice (some ⟨b,0,none⟩) (xs.length+m) cap) (pf w b (xs.length*i.size) (Builtin.zeroCells zv.cells m).toList):=by
      simp[Builtin.append_,dP hs,dP hs',hsz,asInt,asIntOf,hwm,typeInfo,hi,hneg,h48,hns,zeroValue,hzv,hge,hadd,hst]
     rw[hap]; rfl
  ·cases h
 ·cases h
def PS(hr:Rel j M w){id sz ver:Nat}{ys:List ag}(hM:M[id]?=some (.arr sz ver []))(hwy:wid ys sz){us:List Value}(hrl:RL w (ow j M w) (jM ys) us){v:Value}{w':World}{c':Nat}{row':Array Value}{e:TypeId}
  (h1:ys.length<=c') (hv:v = .slice (some ⟨w.heap.size,0,none⟩) ys.length c') (q:Quiet w w') (hb:∀b,b<w.heap.size->w'.heap[b]?=w.heap[b]?) (hn:w'.heap[w.heap.size]?=some (.cells row' e (0,0))) (hs:c'*sz<=row'.size) (hp:∀p,p<us.length->row'[p]?=us[p]?) :
  iH j M w (.cY id (ver+1) sz 0 ys.length,M.set id (.arr sz (ver+1) ys)) v w':=by
 subst hv;have hid:=aJ hM;have hrel:=Rel.uS (ver':=ver+1) hM hr q hb (ak _) (lt_of_block hn) dk (fun j' M' hx=>ma hn hwy (hrl.mono hx.im) hp)
 have hext:=Ext.uS (j:=j) (ver':=ver+1) (xs':=ys) hM q hb (ak _) dk;refine⟨_,hrel,hext,.cY (.inl ⟨w.heap.size,0,c',by rw[cd],aM⟩) (by simpa using hid) (fun bx hbx=>by rw[dZ hid] at hbx; cases hbx; rfl) fun sz' v' zs hx=>?_⟩
 rw[dZ hid] at hx; injection hx with hx; injection hx with e1 e2 e3
 subst e1; subst e2; subst e3;exact⟨ak _,fun _=>⟨rfl,ct _,ak _,.inr ⟨w.heap.size,c',row',e,by simp[gD],dk,aM,hn,by rw[aN]; omega⟩⟩⟩
theorem Hw(hr:Rel j M w){t t' e e':TypeId}{i:TypeInfo}{zv:Value}{y y':Operand}(hexec:∀r,(Builtin.append_ #[t,t'] o.type #[a.eval y,a.eval y']).run P w=r->(execOp a.eval o).run P w=r.andThen fun v w' => .ok (.value v) w')
  (hs:P.underlying t=some (.slice e)) (hs':P.underlying t'=some (.slice e')) (hi:P.info? e=some i) (hz:i.zero=some zv) (hzs:zv.cells.size=i.size) (hb0:0<i.bytes) (hb1:i.bytes<=2 ^ 20)
  {id ver sz' lo hi0 sz0 v0:Nat} {xs ys:List ag} {B:Option Addr} {cap2:Nat} (hM:M[id]?=some (.arr sz0 v0 xs)) (d1:v0=ver) (d2:sz'=i.size) (d3:lo=0) (d4:hi0<=xs.length) (hy:ys=[]) (hv2:a.eval y' = .slice B ys.length cap2)
  (hroom:dY (hi0+ys.length) i.bytes) (r1:gn j M w (.cY id ver sz' lo hi0) (a.eval y)) (h:some (ag.cY id ver i.size lo hi0,M)=some x):∃v w',rl P o a w v w'/\iH j M w x v w':=by
 injection h with h
 subst h; subst d1; subst d2; subst d3; subst hy
 have hfc:∀w':World,w'.heap=w.heap->(Builtin.firstCells i.size 0 (a.eval y')).run P w' = .ok (#[]:Array Value) w':=fun w' _=>by
  rw[hv2]; cases B<;>simp[Builtin.firstCells,loadCells,loadCellsFrom]
 have fx:∀w':World,(Builtin.lenOf (a.eval y')).run P w' = .ok 0 w':=fun w'=>by rw[hv2]; rfl
 refine⟨a.eval y,w,.inl ?_,.still hr r1⟩;obtain⟨_,hid,_,g⟩:=r1.mQ;obtain⟨e1,_,_,⟨hx,hj0,A,hvA⟩|⟨b,cap,row,t0,l3,l4,l5,l6,l7⟩⟩:=(g sz0 v0 xs hM).2 rfl
 ·have h00:hi0=0:=by rw[hx] at d4; simpa using d4
  subst h00
  have hA0:∀w':World,w'.heap=w.heap->(Builtin.firstCells i.size 0 (.slice A 0 0)).run P w' = .ok #[] w':=fun w' _=>by
   cases A<;>simp[Builtin.firstCells,loadCells,loadCellsFrom]
  obtain⟨A1,_⟩:=qS (P:=P) (w:=w) hs hs' (fun k h=>by cases h) hi hz hb0 hb1 o.type (bZ:=A) (n:=0) (cap:=0) (m:=0) fx hA0 hfc dk
  have h3:=A1 (ak _) w (by cases A<;>simp[storeCells])
  rw[<-hvA] at h3;rw[hexec _ h3,hvA]; rfl
 ·subst e1;rw[cd] at l4 l5;rw[jv] at l4;rw[aN] at l7;have hcs:hi0*i.size<=row.size:=bg (bd _ l5) l7;obtain⟨b',row0,t',k1,k2,k3,k4,k5⟩:=hr.yF hM l3;rw[l3] at k1; cases k1;rw[l6] at k2; injection k2 with k2; injection k2 with k2 k2'
  subst k2; subst k2'
  have hfx:∀w':World,w'.heap=w.heap->(Builtin.firstCells i.size hi0 (.slice (some ⟨b,0,none⟩) hi0 cap)).run P w' = .ok (row.toList.take (hi0*i.size)).toArray w':=fun w' hw'=>by
   have:=o3 (P:=P) (w:=w') b 0 (hi0*i.size) (fun p=>(row[p]?).getD undef) fun p hp=>by
    simp only[World.cell?,hw',l6,aN];rw[bf (show p<row.size by omega)]; rfl
   simp only[Builtin.firstCells];rw[this];congr 2;apply dA;intro p;rw[bb,gk]
   grind
  obtain⟨A1,_⟩:=qS (P:=P) (w:=w) hs hs' (fun k h=>by cases h) hi hz hb0 hb1 o.type (bZ:=some ⟨b,0,none⟩) (n:=hi0) (cap:=cap) (m:=0) fx hfx hfc (by simpa[dY] using hroom)
  have h3:=A1 aM w (by simp[storeCells])
  rw[<-l4] at h3;rw[hexec _ h3,l4]; rfl
theorem Fp(hr:Rel j M w)(he:cE j M w bq a){c:Call}{y y':Operand}{z z':gw}{t t' e e':TypeId}{i:TypeInfo}{zv:Value}(hop:o.op = .call c)(hb:c.callee = .builtin .append)(ha:c.args.toList=[y,y'])
  (hat:c.argTypes = #[t,t']) (hs:P.underlying t=some (.slice e)) (hs':P.underlying t'=some (.slice e')) (hi:P.info? e=some i) (hz:i.zero=some zv) (hzs:zv.cells.size=i.size) (hpos:0<i.size) (hb0:0<i.bytes) (hb1:i.bytes<=2 ^ 20)
  (hzy:ew y=some z) (hzy':ew y'=some z') (h:ei C bq M (.append i.size i.bytes z z')=some x):∃v w',rl P o a w v w'/\iH j M w x v w':=by
 by_cases hna:∀id ver sz lo hi,z.ev bq ≠ .cY id ver sz lo hi
 ·exact K1 hr he hop hb ha hat hs hs' hi hz hzs hpos hb0 hb1 hzy hzy' h hna
 ·have hna':∃id ver sz lo hi,z.ev bq = .cY id ver sz lo hi:=by
   grind
  obtain⟨id,ver,sz',lo,hi0,ez⟩:=hna';have r1:=cU he hzy;have r2:=cU he hzy';simp only[ei] at h;split at h
  ·rename_i ez' _;rw[ez] at ez'; cases ez'
  ·rename_i id' ver' szz lo' hi' tk ys ez1 ez2;rw[ez] at ez1; injection ez1 with q1 q2 q3 q4 q5
   subst q1; subst q2; subst q3; subst q4; subst q5;rw[ez] at r1; rw[ez2] at r2;rw[eY] at h;split at h
   ·rename_i sz0 v0 xs hM;obtain⟨⟨d1,d2,d3,d4,hroom,hwx,hwy⟩,h⟩:=dw h;have ha':c.args = #[y,y']:=by rw[<-ha]
    have hexec:∀r,(Builtin.append_ #[t,t'] o.type #[a.eval y,a.eval y']).run P w=r->(execOp a.eval o).run P w=r.andThen fun v w' => .ok (.value v) w':=by
     intro r hr';simp[execOp,hop,resolve,hb,invoke,builtin,ha',hat,hr']
    obtain⟨B,cap2,hv2,hcap2,hsr⟩:=nY r2.eb hwy;rcases k8 h with ⟨hyl,h⟩|⟨hyl,h⟩
    ·exact Hw hr hexec hs hs' hi hz hzs hb0 hb1 hM d1 d2 d3 d4 (cK (by simpa using hyl)) hv2 hroom r1 h
    have hyl:0<ys.length:=Nat.pos_of_ne_zero (by simpa using hyl)
    have hne:ys≠[]:=List.ne_nil_of_length_pos hyl;injection h with h
    subst h; subst d1; subst d2; subst d3;rw[fJ];obtain⟨b2,off2,rfl,us,hrl,hul,hone,hcell⟩:=hsr.resolve_left hne
    have hfc:∀w':World,w'.heap=w.heap->(Builtin.firstCells i.size ys.length (a.eval y')).run P w' = .ok us.toArray w':=fun w' hw'=>by
     have:=o3 (P:=P) (w:=w') b2 off2 (ys.length*i.size) (fun p=>(us[p]?).getD undef) fun p hp=>by
      have h1:=(hcell p _ (ai aM)).1
      grind [World.cell?,List.getElem?_eq_getElem]
     rw[hv2];simp only[Builtin.firstCells];rw[this];congr 2;apply dA
     grind
    have fx:∀w':World,(Builtin.lenOf (a.eval y')).run P w' = .ok ys.length w':=fun w'=>by rw[hv2]; rfl
    obtain⟨_,hid,_,g⟩:=r1.mQ;obtain⟨e1,_,_,⟨hx,hj0,A,hvA⟩|⟨b,cap,row,t0,l3,l4,l5,l6,l7⟩⟩:=(g sz0 v0 xs hM).2 rfl
    ·subst hx;have h00:hi0=0:=by simpa using d4
     subst h00;subst e1
     have hA0:∀w':World,w'.heap=w.heap->(Builtin.firstCells i.size 0 (.slice A 0 0)).run P w' = .ok #[] w':=fun w' _=>by
      cases A<;>simp[Builtin.firstCells,loadCells,loadCellsFrom]
     obtain⟨_,A2⟩:=qS (P:=P) (w:=w) hs hs' (fun k h=>by cases h) hi hz hb0 hb1 o.type (bZ:=A) (n:=0) (cap:=0) (m:=ys.length) fx hA0 hfc (by simpa[dY] using hroom)
     obtain⟨newCap,rest,h1,h2,h3⟩:=A2 aM;obtain⟨q,hbk,iC⟩:=o7 (w:=w) (.cells (#[]++us.toArray++rest) e (0,0));rw[<-hvA] at h3;refine⟨_,_,.inl (by rw[hexec _ h3]; rfl),?_⟩
     have:=PS (c':=newCap) (e:=e) (v := .slice (some ⟨w.heap.size,0,none⟩) (0+ys.length) newCap) (w':={ w with heap:=w.heap.push (.cells (#[]++us.toArray++rest) e (0,0)),drawn:=w.drawn+1 }) hr hM hwy hrl aM (by rw[aN]) ⟨q.size,rfl,rfl,rfl⟩ hbk iC (by
      simp only[fU,dI,h2,hzs,hul,aF];rw[aN,aN,<-cg];exact bd _ aM) (fun p hp=>by
      rw[cy (by simpa using hp)]; simp)
     simpa using this
    ·subst e1;rw[cd] at l4 l5;rw[jv] at l4;rw[aN] at l7;have hcs:hi0*i.size<=row.size:=bg (bd _ l5) l7;obtain⟨b',row0,t',k1,k2,k3,k4,k5⟩:=hr.yF hM l3;rw[l3] at k1; cases k1;rw[l6] at k2; injection k2 with k2; injection k2 with k2 k2'
     subst k2; subst k2';have hlx:(xs.take hi0).length=hi0:=by rw[fL]; omega
     have key:=fun v w' hq=>LB (xs:=xs.take hi0) (v:=v) (w':=w') hr hM (fun q x h=>by rw[gk] at h; split at h<;>first|exact h|cases h) ic l3 l6 (by rw[hlx]; exact l5) l7 hwx hwy hne hrl hq
     rw[hlx] at key
     have hfx:∀w':World,w'.heap=w.heap->(Builtin.firstCells i.size hi0 (.slice (some ⟨b,0,none⟩) hi0 cap)).run P w' = .ok (row.toList.take (hi0*i.size)).toArray w':=fun w' hw'=>by
      have:=o3 (P:=P) (w:=w') b 0 (hi0*i.size) (fun p=>(row[p]?).getD undef) fun p hp=>by
       simp only[World.cell?,hw',l6,aN];rw[bf (show p<row.size by omega)]; rfl
      simp only[Builtin.firstCells];rw[this];congr 2;apply dA;intro p;rw[bb,gk]
      grind
     obtain⟨A1,A2⟩:=qS (P:=P) (w:=w) hs hs' (fun k h=>by cases h) hi hz hb0 hb1 o.type (bZ:=some ⟨b,0,none⟩) (n:=hi0) (cap:=cap) (m:=ys.length) fx hfx hfc (by simpa[dY] using hroom)
     rcases bK cap (hi0+ys.length) with cA|hge
     ·obtain⟨newCap,rest,h1,h2,h3⟩:=A2 cA;obtain⟨q,hbk,iC⟩:=o7 (w:=w) (.cells ((row.toList.take (hi0*i.size)).toArray++us.toArray++rest) e (0,0));have htk:(row.toList.take (hi0*i.size)).length=hi0*i.size:=ic;rw[<-l4] at h3;refine⟨_,{ w with heap:=w.heap.push (.cells ((row.toList.take (hi0*i.size)).toArray++us.toArray++rest) e (0,0)),drawn:=w.drawn+1 },.inl (by rw[hexec _ h3]; rfl),key _ _ (.inr ⟨newCap,_,e,h1,rfl,⟨q.size,rfl,rfl,rfl⟩,hbk,iC,?_,fun p hp=>?_⟩)⟩
      ·simp only[fU,dI,h2,hzs,hul,htk];rw[<-cg,<-cg];exact bd _ aM
      ·rw[cy (by simp only[fU,dI,hul,htk]; rw[<-cg]; exact hp)]
       simp[nN]
     ·have hfit:hi0*i.size+0+us.length<=row.size:=by
       rw[hul,dq,<-cg]; exact bg (bd _ hge) l7
      have hst:=nq (P:=P) us w (hi0*i.size) 0 row l6 hfit hone;simp only[dq] at hst;have hadd:(⟨b,0,none⟩:Addr).add (hi0*i.size)=⟨b,hi0*i.size,none⟩:=by simp[lz]
      have h3:=A1 hge (pf w b (hi0*i.size) us) (by
       grind)
      rw[<-l4] at h3;exact⟨_,_,.inl (by rw[hexec _ h3]; rfl),key _ _ (.inl ⟨hge,rfl,rfl⟩)⟩
   ·cases h
  ·cases h
theorem K0(hr:Rel j M w)(he:cE j M w bq a){c:Call}{y y':Operand}{z z':gw}{t t' e e':TypeId}{i:TypeInfo}{zv:Value}(hop:o.op = .call c)(hb:c.callee = .builtin .append)(ha:c.args.toList=[y,y'])
  (hat:c.argTypes = #[t,t']) (hs:P.underlying t=some (.slice e)) (hs':P.underlying t'=some (.slice e')) (hi:P.info? e=some i) (hz:i.zero=some zv) (hzs:zv.cells.size=i.size) (hpos:0<i.size) (hb0:0<i.bytes) (hb1:i.bytes<=2 ^ 20)
  (hzy:ew y=some z) (hzy':ew y'=some z') (h:ei C bq M (.vP i.size i.bytes z z')=some x):∃v w',rl P o a w v w'/\iH j M w x v w':=by
 simp only[ei] at h;have r1:=cU he hzy;have r2:=cU he hzy';split at h
 ·rename_i tk ys ez ez';obtain⟨⟨hroom,hwy⟩,h⟩:=dw h;cases h;rw[ez] at r1;rw[ez'] at r2;obtain⟨A,hv⟩:=r1.CK;have ha':c.args = #[y,y']:=by rw[<-ha]
  have hexec:∀r,(Builtin.append_ #[t,t'] o.type #[a.eval y,a.eval y']).run P w=r->(execOp a.eval o).run P w=r.andThen fun v w' => .ok (.value v) w':=by
   simp_all [execOp,resolve,invoke,builtin]
  have hA0:∀w':World,w'.heap=w.heap->(Builtin.firstCells i.size 0 (.slice A 0 0)).run P w' = .ok #[] w':=fun w' _=>by
   cases A<;>simp[Builtin.firstCells,loadCells,loadCellsFrom]
  obtain⟨B,cap2,hv2,hcap2,hsr⟩:=nY r2.eb hwy;have fx:∀w':World,(Builtin.lenOf (a.eval y')).run P w' = .ok ys.length w':=fun w'=>by rw[hv2]; rfl
  rcases eL ys.length with h0|h0
  ·have hnil:ys=[]:=cK h0;subst hnil
   have hfc:∀w':World,w'.heap=w.heap->(Builtin.firstCells i.size 0 (a.eval y')).run P w' = .ok (#[]:Array Value) w':=fun w' _=>by
    rw[hv2]; cases B<;>simp[Builtin.firstCells,loadCells,loadCellsFrom]
   obtain⟨A1,_⟩:=qS (P:=P) (w:=w) hs hs' (fun k h=>by cases h) hi hz hb0 hb1 o.type (bZ:=A) (n:=0) (cap:=0) (m:=0) fx hA0 hfc (by simp[])
   have h3:=A1 (ak _) w (by cases A<;>simp[storeCells])
   rw[<-hv] at h3;have q:Quiet w w:=⟨ak _,rfl,rfl,rfl⟩;have g1:Rel (gD j M.length none) (M++[.arr i.size 0 []]) w:=hr.push (ob:=none) (bx := .arr i.size 0 []) (fun b h=>by cases h) q (fun _ _=>rfl) (fun h=>by cases h) (fun sz n b h h'=>by cases h') (fun sz ver xs h=>by injection h with e1 e2 e3; exact .inl ⟨e3.symm,rfl⟩)
   have g2:Ext j M w (gD j M.length none) (M++[.arr i.size 0 []]) w:=Ext.push (fun b h=>by cases h) q (fun _ _=>rfl)
   refine⟨a.eval y,w,.inl (by rw[hexec _ h3]; rfl),gD j M.length none,g1,g2,?_⟩
   rw[hv];refine .cY (.inr ⟨rfl,A,rfl⟩) dk (fun bx hbx=>by rw[kd] at hbx; cases hbx; rfl) fun sz' v' zs hx=>?_
   rw[kd] at hx; injection hx with hx; injection hx with e1 e2 e3
   subst e1; subst e2; subst e3;exact⟨ak _,fun _=>⟨rfl,ak _,ak _,.inl ⟨rfl,by simp[gD],A,rfl⟩⟩⟩
  ·have hne:ys≠[]:=List.ne_nil_of_length_pos h0;obtain⟨b2,off2,rfl,us,hrl,hul,hone,hcell⟩:=hsr.resolve_left hne
   have hfc:∀w':World,w'.heap=w.heap->(Builtin.firstCells i.size ys.length (a.eval y')).run P w' = .ok us.toArray w':=fun w' hw'=>by
    have:=o3 (P:=P) (w:=w') b2 off2 (ys.length*i.size) (fun p=>(us[p]?).getD undef) fun p hp=>by
     have h1:=(hcell p _ (ai aM)).1
     grind [World.cell?,List.getElem?_eq_getElem]
    rw[hv2];simp only[Builtin.firstCells];rw[this];congr 2;apply dA
    grind
   obtain⟨_,A2⟩:=qS (P:=P) (w:=w) hs hs' (fun k h=>by cases h) hi hz hb0 hb1 o.type (bZ:=A) (n:=0) (cap:=0) (m:=ys.length) fx hA0 hfc (by simpa[dY] using hroom)
   obtain⟨newCap,rest,h1,h2,h3⟩:=A2 aM;obtain⟨q,hbk,iC⟩:=o7 (w:=w) (.cells (#[]++us.toArray++rest) e (0,0));rw[<-hv] at h3;have q':Quiet w { w with heap:=w.heap.push (.cells (#[]++us.toArray++rest) e (0,0)),drawn:=w.drawn+1 }:=⟨q.size,rfl,rfl,rfl⟩
   have hob:∀b,some w.heap.size=some b->w.heap.size<=b/\b<({ w with heap:=w.heap.push (.cells (#[]++us.toArray++rest) e (0,0)),drawn:=w.drawn+1 }:World).heap.size:=fun b h=>by cases h; exact⟨ak _,lt_of_block iC⟩
   have hpf:∀p,p<us.length->(#[]++us.toArray++rest)[p]?=us[p]?:=fun p hp=>by
    rw[cy (by simpa using hp)]; simp
   have hat:∀j' M',Ext j M w j' M' { w with heap:=w.heap.push (.cells (#[]++us.toArray++rest) e (0,0)),drawn:=w.drawn+1 }->Eg j' M' { w with heap:=w.heap.push (.cells (#[]++us.toArray++rest) e (0,0)),drawn:=w.drawn+1 } w.heap.size i.size ys:=fun j' M' hx=>ma iC hwy (hrl.mono hx.im) hpf
   have hsz:newCap*i.size<=(#[]++us.toArray++rest).size:=by
    simp only[fU,dI,h2,hzs,hul,aF];rw[aN,aN,<-cg];exact bd _ aM
   refine⟨_,_,.inl (by rw[hexec _ h3]; rfl),gD j M.length (some w.heap.size),hr.push hob q' hbk (fun h=>by cases h) (fun sz n b h _=>by cases h) (fun sz0 v0 xs0 he=>?_),Ext.push (fun b h=>(hob b h).1) q' hbk,?_⟩
   ·injection he with e1 e2 e3
    subst e1; subst e2; subst e3;refine .inr ⟨w.heap.size,_,e,rfl,iC,?_,hwy,fun j' M' hx q x k c hx' hk=>?_⟩
    ·exact bg (bd _ aM) hsz
    ·obtain⟨vs,t,a1,a2,a3,a4⟩:=hat j' M' hx;rw[iC] at a1; injection a1 with a1; injection a1 with a1 a1'
     subst a1;exact a4 q x k c hx' hk
   ·rw[aN];refine .cY (.inl ⟨w.heap.size,0,newCap,by rw[cd],aM⟩) dk (fun bx hbx=>by rw[kd] at hbx; cases hbx; rfl) fun sz' v' xs hx=>?_
    rw[kd] at hx; injection hx with hx; injection hx with e1 e2 e3
    subst e1; subst e2; subst e3;exact⟨ak _,fun _=>⟨rfl,ct _,ak _,.inr ⟨w.heap.size,newCap,_,e,by simp[gD],dk,aM,iC,by rw[aN]; exact hsz⟩⟩⟩
 ·cases h
def T0(hr:Rel j M w)(he:cE j M w bq a){c:Call}{y y':Operand}{z z':gw}{t t' e e':TypeId}{n:Nat}(hop:o.op = .call c)(hb:c.callee = .builtin .copy)(ha:c.args.toList=[y,y'])
  (hat:c.argTypes.toList=[t,t']) (hs:P.underlying t=some (.slice e)) (hs':P.underlying t'=some (.slice e')) (hn:qg P e=some n) (hpos:0<n)
  (hz:ew y=some z) (hz':ew y'=some z') (h:ei C bq M (.Ex n z z')=some x):∃v w',rl P o a w v w'/\iH j M w x v w':=by
 simp only[ei] at h;have r1:=cU he hz;have r2:=cU he hz';have ha':c.args = #[y,y']:=by rw[<-ha]
 have hat':c.argTypes = #[t,t']:=by rw[<-hat]
 have hexec:∀r,(Builtin.copy_ #[t,t'] o.type #[a.eval y,a.eval y']).run P w=r->(execOp a.eval o).run P w=r.andThen fun v w' => .ok (.value v) w':=by
  intro r hr';simp[execOp,hop,resolve,hb,invoke,builtin,ha',hat',hr']
 have hsz:(sizeOf e).run P w = .ok n w:=jd hn;split at h
 ·rename_i tk ys ex ey;rw[ex] at r1; rw[ey] at r2;obtain⟨hwy,h⟩:=dw h;cases h;obtain⟨B,cap2,hv2,_,_⟩:=nY r2.eb hwy;obtain⟨A,cap,hv,_,_⟩:=nY (size:=n) r1.eb (fun y hy=>by cases hy)
  refine⟨.int .i64 0,w,.inl ?_,.still hr (.plain (.int _ _))⟩;rw[hexec _ rfl,hv,hv2];cases A<;>cases B<;>simp[Builtin.copy_,dP hs,hsz,Builtin.lenOf,Builtin.firstCells,loadCells,loadCellsFrom,storeCells,goInt,Result.andThen]
 ·rename_i id ver sz' lo hi0 tk ys ex ey;rw[ex] at r1; rw[ey] at r2;rw[eY] at h;split at h
  ·rename_i sz0 v0 xs hM;obtain⟨⟨d1,d2,hwy,hne0⟩,h9⟩:=dw h;injection h9 with h9
   subst h9; subst d1; subst d2;obtain⟨_,hid,_,g⟩:=r1.mQ;obtain⟨e1,l1,l2,⟨hx,_⟩|⟨b,cap,row,t0,l3,l4,l5,l6,l7⟩⟩:=(g sz0 v0 xs hM).2 rfl
   ·exact absurd hne0 (by rw[hx]; simp)
   subst e1;obtain⟨b',row0,t',k1,k2,k3,k4,k5⟩:=hr.yF hM l3;rw[l3] at k1; cases k1;rw[l6] at k2; injection k2 with k2; injection k2 with k2 k2'
   subst k2; subst k2';obtain⟨B,cap2,hv2,hcap2,hsr⟩:=nY r2.eb hwy;generalize hm:min ys.length (hi0-lo)=m;have hm1:m<=ys.length:=aM;have hm2:m<=hi0-lo:=aM
   -- what is copied
   obtain⟨us,hul,hrl,hone,hfc⟩:∃us:List Value,us.length=m*sz0/\RL w (ow j M w) (jM (ys.take m)) us/\(∀u,u∈us->u.oneCell'=true)/\(Builtin.firstCells sz0 m (.slice B ys.length cap2)).run P w = .ok us.toArray w:=by
    rcases hsr with rfl|⟨b2,off2,rfl,us,hrl,hul,hone,hcell⟩
    ·have:m=0:=by simpa using hm1
     subst this;refine⟨[],dk,⟨rfl,fun p c v h=>by simp[jM] at h⟩,fun u hu=>by (cases hu),?_⟩
     cases B<;>simp[Builtin.firstCells,loadCells,loadCellsFrom]
    ·have hle:m*sz0<=us.length:=by rw[hul]; exact bd _ hm1
     refine⟨us.take (m*sz0),ic,by rw[rY m hwy]; exact hrl.take _,fun u hu=>hone u (cR hu),?_⟩
     have:=o3 (P:=P) (w:=w) b2 off2 (m*sz0) (fun p=>(us[p]?).getD undef) fun p hp=>by
      rw[(hcell p _ (ai aM)).1,ai (show p<us.length by omega)]; rfl
     simp only[Builtin.firstCells];rw[this];congr 2;apply dA;intro p;rw[bb,gk];rcases bK p (m*sz0) with h|h
     ·rw[eA h,av h];simp[ai (show p<us.length by omega)]
     ·rw[aj aM,gQ (by simpa using h)]; rfl
   have hrow:=xG (b:=b) k3 k4 k5;have hbd:lo*sz0+m*sz0<=xs.length*sz0:=by rw[<-cg]; exact bd _ aM
   have hfit:lo*sz0+us.length<=row.size:=by rw[hul]; omega
   have hst:=nq (P:=P) us w (lo*sz0) 0 row l6 aM hone;obtain⟨s1,s2,s3,s4,s5,row2,s6,s7,s8,s9⟩:=lU (t:=t0) us w (lo*sz0) row l6 hfit;have hwd':wid (xs.take lo++(ys.take m++xs.drop (lo+m))) sz0:=nr (vJ k4) (nr (vJ hwy) (vH k4))
   have iC:RL w (ow j M w) (jM (xs.take lo++(ys.take m++xs.drop (lo+m)))) ((row.toList.take (xs.length*sz0)).take (lo*sz0)++(us++(row.toList.take (xs.length*sz0)).drop ((lo+m)*sz0))):=by
    rw[oO,oO,rY lo k4,uc (lo+m) k4];exact(hrow.take _).append (hrl.append (hrow.drop _))
   have hll:(xs.take lo++(ys.take m++xs.drop (lo+m))).length=xs.length:=ic;have hmm:(lo+m)*sz0=lo*sz0+m*sz0:=cg ..
   have hput:=xF (ver':=v0) (xs':=xs.take lo++(ys.take m++xs.drop (lo+m))) hr hM l3 (w':=pf w b (lo*sz0) us) ⟨aM,s2,s3,s4⟩ (fun b' hb' _=>s5 b' hb') l6 s6 s7 (ak _) (fun _=>hll) hwd' iC (fun p hp=>by
    have hp':p<xs.length*sz0:=by
     rw[<-iC.1,iA hwd',hll] at hp; exact hp
    have htk:(List.take (lo*sz0) (row.toList.take (xs.length*sz0))).length=lo*sz0:=ic;rcases bK p (lo*sz0) with q1|q1
    ·rw[s8 p (.inl q1),bh (by rw[htk]; exact q1),bM q1,bM hp']; simp
    ·rw[bA (by rw[htk]; exact q1),htk]
     rcases bK p (lo*sz0+m*sz0) with q2|q2
     ·rw[bh (by rw[hul]; omega)]
      have:=s9 (p-lo*sz0) (by rw[hul]; omega)
      rw[dn q1] at this;exact this
     ·rw[bA (by rw[hul]; omega),s8 p (.inr (by rw[hul]; omega)),cZ,hul,hmm,show lo*sz0+m*sz0+(p-lo*sz0-m*sz0)=p by omega,bM hp']; simp)
   rw[fJ];refine⟨.int .i64 (m:Int),pf w b (lo*sz0) us,.inl ?_,j,hput.1,hput.2,.plain (.int _ _)⟩;rw[hexec _ rfl,l4,hv2];have hmin:Nat.min ys.length (hi0-lo)=m:=hm;simp only[dq] at hst;simp[Builtin.copy_,dP hs,hsz,Builtin.lenOf,hmin,hfc,hst,goInt,Result.andThen]
  ·cases h
 ·cases h
def Xp(hr:Rel j M w){t:TypeId}{i:TypeInfo}{zv:Value}{n:Nat}(hop:o.op = .alloc t)(hi:P.info? t=some i)(hzv:i.zero=some zv)(hl:tn zv.cells.toList=some [.slice .c0 []])
  (h:ei C bq M (.Nr n)=some x):∃v w',rl P o a w v w'/\iH j M w x v w':=by
 simp only[ei] at h;cases h;have q:Quiet w w:=⟨ak _,rfl,rfl,rfl⟩;have h1:Rel (gD j M.length none) (M++[.arr n 0 []]) w:=hr.push (ob:=none) (bx := .arr n 0 []) (fun b h=>by cases h) q (fun _ _=>rfl) (fun h=>by cases h) (fun sz n b h h'=>by cases h') (fun sz ver xs h=>by injection h with e1 e2 e3; exact .inl ⟨e3.symm,rfl⟩)
 have h2:Ext j M w (gD j M.length none) (M++[.arr n 0 []]) w:=Ext.push (fun b h=>by cases h) q (fun _ _=>rfl)
 obtain⟨k1,k2⟩:=qo (j:=gD j M.length none) (M:=M++[.arr n 0 []]) (w:=w) hl;have hs1:zv.cells.size=1:=by simpa using k1.symm
 have hv0:∃A,zv.cells[0]?=some (.slice A 0 0):=by
  have hv:=bf (show 0<zv.cells.size by omega)
  obtain⟨A,hA⟩:=(k2 0 _ (zv.cells[0]'(by omega)) rfl dk).CK
  exact⟨A,by rw[hv,hA]⟩
 obtain⟨A,hA⟩:=hv0
 have hrc:RC (gD j M.length none) (M++[.arr n 0 []]) w [.cY M.length 0 n 0 0] zv.cells:=by
  refine⟨by simp[hs1],fun p c v hc hv=>?_⟩
  cases p with
  |zero =>
   simp at hc; subst hc;rw[hA] at hv; cases hv;refine .cY (.inr ⟨rfl,A,rfl⟩) dk (fun bx hbx=>by rw[kd] at hbx; cases hbx; rfl) fun sz' v' zs hx=>?_
   rw[kd] at hx; injection hx with hx; injection hx with e1 e2 e3
   subst e1; subst e2; subst e3;exact⟨ak _,fun _=>⟨rfl,ak _,ak _,.inl ⟨rfl,by simp[gD],A,rfl⟩⟩⟩
  |succ p=>simp at hc
 obtain⟨j',g1,g2,g3⟩:=GP h1 hrc t;refine⟨_,_,.inl (show(execOp a.eval o).run P w = .ok (.value (.pointer (some ⟨w.heap.size,0,none⟩))) { w with heap:=w.heap.push (.cells zv.cells t (0,0)) } by simp[execOp,hop,Instr.alloc,zeroValue,pM hi,hzv,newVar,newRow]),j',?_,?_,?_⟩
 ·simpa using g1
 ·simpa using h2.trans g2
 ·simpa using g3
end
section
variable {P:Program} {C:eO} {own:List Nat} {o:Oper} {ao:kb} {bq:Env} {M:aO} {j:J} {w:World} {a:Act} {x:ag×aO}
def tU(P:Program)(o:Oper)(a:Act)(w:World)(K:Act->World->Prop)(KP:Value->World->Prop):Prop :=
 (∃v w',rl P o a w v w'/\K (a.put o.dst v) w')\/(∃f us,(execOp a.eval o).run P w = .ok (.enter f us) w/\Calls P f us w fun e w'=>(∃v,e = .returned v/\K (a.put o.dst v) w')\/∃u,e = .panicked [{ v:=u,recovered:=false }]/\KP u w') \/
  ∃u,(execOp a.eval o).run P w = .halt (.panic u) w/\KP u w
def ef{K:Act->World->Prop}{KP:Value->World->Prop}(h:∃v w',rl P o a w v w'/\iH j M w x v w')(hK:∀v w',iH j M w x v w'->K (a.put o.dst v) w'):tU P o a w K KP:=by
 obtain⟨v,w',h1,h2⟩:=h;exact .inl ⟨v,w',h1,hK v _ h2⟩
def wB{K:Act->World->Prop}{KP:Value->World->Prop}{f:Nat}{us:Array Value}(hrun:(execOp a.eval o).run P w = .ok (.enter f us) w)
  (h:Calls P f us w fun e w'=>vN j M w x e w') (hK:∀v w',iH j M w x v w'->K (a.put o.dst v) w') (hP:∀u w',Hj j M w x u w'->KP u w'):tU P o a w K KP :=
 .inr (.inl ⟨f,us,hrun,h.mono fun e w' he=>he.imp (fun⟨v,he,hv⟩=>⟨v,he,hK v _ hv⟩) fun⟨u,he,hu⟩=>⟨u,he,hP u _ hu⟩⟩)
def Wd(r:Option Nat):Fence:={ Fence.wide with round:=r }
def JV{r:Option Nat}{n f:Nat}{args:Array Value}{R:Ending->World->Prop}(h:Calls P f args w R):CallsIn (Wd r) n P f args w R:=by
 cases r with
 |none=>exact callsIn_wide.2 h
 |some l=>exact CallsIn.inRound l (callsIn_wide.2 h)
theorem tU.wpIn{K:Act->World->Prop}{KP:Value->World->Prop}{Q:Exit->Act->World->Prop}{r:Option Nat}{n:Nat}(hd:∀c,o.op ≠ .defer c)(h:tU P o a w K KP)
  (hQ:∀u w',KP u w'->Q (.panic [{ v:=u,recovered:=false }]) a w'):o.wpIn (Wd r) n P a w K Q:=by
 refine⟨fun _ _=>trivial,?_⟩
 rw[Oper.semAt_eq _ _ _ hd];rcases h with ⟨v,w',h1|⟨h1,rfl⟩,h2⟩|⟨f,us,h1,h2⟩|⟨u,h1,h2⟩
 ·rw[h1]; exact h2
 ·rw[h1]; exact h2
 ·rw[h1];refine⟨fun h=>(by cases h),JV (h2.mono ?_)⟩
  grind
 ·rw[h1]; exact hQ u w h2
def zP(ho:Nt P own o=some ao):∀c,o.op ≠ .defer c:=by
 intro c h;simp_all [Nt]
def rf{f:Nat}(h:k6 P f=true)(us:Array Value):(callFunc f us).run P w = .ok (.enter f us) w:=by
 unfold k6 at h;split at h
 ·rename_i fn hfn;have h1:fn.name ≠ "runtime.NumGoroutine" := kW;have h2:¬fn.body=none:=kW;simp[callFunc,hfn,h1,h2]
 ·cases h
theorem gn.shut{c:ag}{v:Value}(h:gn j M w c v):gn j M w c.shut v:=by
 cases c<;>first|exact h|exact .plain h.eb
def gn.gj{c:ag}{v:Value}(h:gn j M w c v):gn j M w c.gj v:=by
 cases c<;>first|exact h|exact .plain h.eb|skip
 obtain⟨vs,rfl,hl,hc⟩:=h.mM;refine .agg kW fun i c u hi hu=>?_
 rw[bb,aW] at hi;obtain⟨c0,hc0,rfl⟩:=hi;exact(hc i _ u hc0 hu).shut
theorem Nu{c:Call}{f0 f:Nat}{l:List gw}(hop:o.op = .call c)(hcal:c.callee = .value (.func f0))(h:Nt P own o=some (.wE f l)):f0=f/\k6 P f=true/\vg c.args.toList=some l:=by
 simp only[Nt,hop,PX,hcal] at h;split at h
 ·obtain⟨l',hl,h⟩:=bc h
  grind
 grind
theorem yK(hC:pC P C){c:Call}{f0 f:Nat}{l:List gw}(hop:o.op = .call c)(hcal:c.callee = .value (.func f0))(ho:Nt P own o=some (.wE f l)){M0:aO}(h:ei C bq M0 (.wE f l)=some x) :
  ∃xs sz n,x=(.slice (.own M0.length) xs,M0++[.tick sz n])/\∀ {j:J} {G:aO} {w:World} {a:Act} {p:Nat} {K:Act->World->Prop} {KP:Value->World->Prop},Rel j G w->sS j G w->cE j G w bq a->G[p]?=some .vM ->
   (∀v w',iH j G w (.slice (.own p) xs,G.set p (.tick sz n)) v w'->K (a.put o.dst v) w')->tU P o a w K KP:=by
 obtain⟨rfl,hent,hl⟩:=Nu hop hcal ho;simp only[ei] at h;unfold Bc at h;split at h
 ·rename_i hc;obtain⟨hc1,hc2⟩:=hc;obtain⟨y,hy,h⟩:=bu h;split at h
  ·rename_i x1 x2 xs sz n e1 e2;cases h;refine⟨xs,sz,n,rfl,fun {j G w a p K KP} hr hG he hp hK=>?_⟩
   obtain⟨l1,l2⟩:=uv he hl
   have hy':C f0 (l.map fun x=>(x.ev bq).gj) []=some (.slice (.own 0) xs,[.tick sz n]):=by
    rw[hy,<-e1,<-e2]
   obtain⟨_,hcl⟩:=OX (us:=c.args.map a.eval) hC hr hG hp hc1 hc2 hy' kW fun i c' u hc' hu=>by
    rw[bb,aW] at hc';obtain⟨y,hy,rfl⟩:=hc';rw[iy,aW] at hu;obtain⟨q,hq,rfl⟩:=hu;exact(l2 i y q hy (by simpa using hq)).gj
   exact .inr (.inl ⟨f0,_,by simp[execOp,hop,resolve,hcal,Act.eval,Deferred.ofValue,invoke,rf hent],hcl.mono fun e w' ⟨v,he,hv⟩ => .inl ⟨v,he,hK v w' hv⟩⟩)
  grind
 grind
theorem Dz(hC:pC P C)(ho:Nt P own o=some ao)(h:ei C bq M ao=some x)(hr:Rel j M w)(hG:sS j M w)(he:cE j M w bq a){K:Act->World->Prop}
  (hK:∀v w',iH j M w x v w'->K (a.put o.dst v) w') {KP:Value->World->Prop} (hP:∀u w',Hj j M w x u w'->KP u w'):tU P o a w K KP:=by
 have ho0:=ho;unfold Nt at ho;split at ho
 case h_1 y hop =>
  obtain⟨z,hz,ho⟩:=bc ho;cases ho;exact ef (zR hr he (.inl hop) hz h) hK
 case h_2 y hop =>
  obtain⟨z,hz,ho⟩:=bc ho;split at ho
  ·split at ho
   ·split at ho
    ·obtain⟨n,hn,ho⟩:=bc ho;split at ho
     ·cases ho;exact ef (Ud hr he hop hz h) hK
     ·cases ho;exact ef (zR hr he (.inr hop) hz h) hK
    ·cases ho
   ·split at ho
    ·split at ho
     ·obtain⟨n,hn,ho⟩:=bc ho;cases ho;exact ef (Ud hr he hop hz h) hK
     ·cases ho
    ·cases ho;exact ef (zR hr he (.inr hop) hz h) hK
  ·cases ho;exact ef (zR hr he (.inr hop) hz h) hK
 case h_3 c p q hop =>
  obtain⟨c',hc,ho⟩:=bc ho;obtain⟨p',hp,ho⟩:=bc ho;obtain⟨q',hq,ho⟩:=bc ho;cases ho;exact ef (Xz hr he hop hc hp hq h) hK
 case h_4 t hop =>
  obtain⟨i,hi,ho⟩:=bc ho;obtain⟨z,hz,ho⟩:=bc ho;obtain⟨l,hl,ho⟩:=bc ho;split at ho
  ·split at ho
   ·split at ho
    ·obtain⟨n,hn,ho⟩:=bc ho;cases ho;exact ef (Xp hr hop hi hz hl h) hK
    ·cases ho
   ·cases ho;exact ef (MD hr hop hi hz hl h) hK
  ·cases ho;exact ef (MD hr hop hi hz hl h) hK
 case h_5 t y hop =>
  obtain⟨z,hz,ho⟩:=bc ho;cases ho;exact ef (adL hr he hop hz h) hK
 case h_6 t parts hop =>
  split at ho
  ·rename_i fs hfs;obtain⟨i,hi,ho⟩:=bc ho;obtain⟨z,hz,ho⟩:=bc ho;obtain⟨l,hl,ho⟩:=bc ho;obtain⟨ps,hps,ho⟩:=bc ho;split at ho
   ·rename_i hall;cases ho;exact ef (TZ hr he hop hfs hi hz hl hps hall h) hK
   ·cases ho
  ·rename_i len e ht;obtain⟨i,hi,ho⟩:=bc ho;obtain⟨z,hz,ho⟩:=bc ho;obtain⟨l,hl,ho⟩:=bc ho;obtain⟨n,hn,ho⟩:=bc ho;obtain⟨ps,hps,ho⟩:=bc ho;cases ho;exact ef (OC hr he hop ht hi hz hl hn hps h) hK
  ·cases ho
 case h_7 t len parts hop =>
  split at ho
  ·rename_i e ht;obtain⟨i,hi,ho⟩:=bc ho;obtain⟨l,hl,ho⟩:=bc ho;split at ho
   ·rename_i hc;cases ho;split at h
    ·split at h
     ·exact ef (T7 hr he hop ht hi hl hc.1 hc.2.1 hc.2.2.1 h) hK
     ·split at h
      ·rename_i he0;simp only[bm,List.isEmpty_iff] at he0;have he1:=he0.2;subst he1;exact ef (Xy hr he hop ht hi hl hc.1 hc.2.1 hc.2.2.1 h) hK
      ·exact ef (MF hr he hop ht hi hl hc.1 hc.2.1 hc.2.2.1 h) hK
    ·exact ef (MF hr he hop ht hi hl hc.1 hc.2.1 hc.2.2.1 h) hK
   ·cases ho
  ·cases ho
 case h_8 t y hop =>
  obtain⟨g,hg,ho⟩:=bc ho;obtain⟨n,hn,ho⟩:=bc ho;obtain⟨z,hz,ho⟩:=bc ho;cases ho;cases g
  ·exact ef (T8 hr he hop hg hz h) hK
  ·exact ef (T9 hr he hop hg hn hz h) hK
 case h_9 t y y' hop =>
  obtain⟨n,hn,ho⟩:=bc ho;obtain⟨z,hz,ho⟩:=bc ho;obtain⟨z',hz',ho⟩:=bc ho;cases ho;cases z with
  |tmp s =>
   dsimp only at h;split at h
   ·exact ef (OL hr he hop hn hz hz' h) hK
   ·exact ef (DA hr he hop hn hz hz' h) hK
  |_=>exact ef (DA hr he hop hn hz hz' h) hK
 case h_10 y hop =>
  obtain⟨z,hz,ho⟩:=bc ho;cases ho;exact ef (adM hr he hop hz h) hK
 case h_11 op t y y' t' hop =>
  obtain⟨z,hz,ho⟩:=bc ho;obtain⟨z',hz',ho⟩:=bc ho;split at ho
  ·obtain⟨b,hb,ho⟩:=bc ho;cases ho;exact ef (TX hr he hop hb hz hz' h) hK
  ·obtain⟨b,hb,ho⟩:=bc ho;cases ho;exact ef (TX hr he hop hb hz hz' h) hK
  ·rename_i ht;split at ho
   ·cases ho;exact ef (T3 (neg:=false) hr he hop ht hz hz' h) hK
   ·cases ho;exact ef (T3 (neg:=true) hr he hop ht hz hz' h) hK
   ·cases ho
  ·rename_i fs ht;split at ho
   ·cases ho
   ·rename_i hst;obtain⟨ks,hks,ho⟩:=bc ho;have hst':P.stoodInHeld t=false:=by simpa using hst
    split at ho
    ·cases ho;exact ef (T1 (neg:=false) hr he hop ht hst' hks hz hz' h) hK
    ·cases ho;exact ef (T1 (neg:=true) hr he hop ht hst' hks hz hz' h) hK
    ·cases ho
  ·rename_i len e ht;split at ho
   ·split at ho
    ·rename_i hs;cases ho;exact ef (T2 hr he hop ht (by assumption) hs hz hz' h) hK
    ·cases ho
   ·cases ho
  ·cases ho
 case h_12 t y hop =>
  obtain⟨z,hz,ho⟩:=bc ho;cases ho;exact ef (adO hr he hop hz h) hK
 case h_13 t y hop =>
  obtain⟨z,hz,ho⟩:=bc ho;cases ho;exact ef (adN hr he hop hz h) hK
 case h_14 s d y hop =>
  obtain⟨z,hz,ho⟩:=bc ho;split at ho
  ·rename_i hs hd;cases ho;exact ef (Xq hr he hop hs hd hz h) hK
  ·rename_i hs hd;cases ho;exact ef (XB hr he hop hs hd hz h) hK
  ·rename_i e hs hd;split at ho
   ·rename_i hu;cases ho;exact ef (adK hr he hop hs hd hu hz h) hK
   ·cases ho
  ·cases ho
 case h_15 f first caps hop =>
  split at ho
  ·rename_i hf;obtain⟨l,hl,ho⟩:=bc ho;cases ho;exact ef (aiC hr he hop hf hl h) hK
  ·split at ho
   ·rename_i hf;obtain⟨l,hl,ho⟩:=bc ho;cases ho;exact ef (TY hr he hop hf hl h) hK
   ·cases ho
 case h_16 t y lo hi mx hop =>
  obtain⟨z,hz,ho⟩:=bc ho;obtain⟨lo',hlo,ho⟩:=bc ho;obtain⟨hi',hhi,ho⟩:=bc ho;obtain⟨mx',hmx,ho⟩:=bc ho;split at ho
  ·rename_i ht;split at ho
   ·rename_i hm;cases ho
    have:mx=none:=by
     grind [qu]
    subst this;exact ef (OJ hr he hop ht hz hlo hhi h) hK
   ·cases ho
  ·rename_i e ht;obtain⟨n,hn,ho⟩:=bc ho;split at ho
   ·rename_i hc;cases ho;unfold PZ at h;split at h
    ·split at h
     ·rename_i hm;cases lo'<;>simp at hm
      cases mx'<;>simp at hm
      exact ef (Xr hr he hop ht hn hz hlo hhi hmx h) hK
     ·exact ef (Fs hr he hop ht hn hz hlo hhi hmx hc.2 h) hK
    ·exact ef (Fs hr he hop ht hn hz hlo hhi hmx hc.2 h) hK
   ·cases ho
  ·cases ho
 case h_17 s y i hop =>
  split at ho
  ·rename_i fs hs;obtain⟨f,hf,ho⟩:=bc ho;obtain⟨n,hn,ho⟩:=bc ho;obtain⟨z,hz,ho⟩:=bc ho;split at ho
   ·rename_i hpos;cases ho;exact ef (T4 hr he hop hs hf hn hpos hz h) hK
   ·cases ho
  ·cases ho
 case h_18 s y i hop =>
  split at ho
  ·rename_i fs hs;obtain⟨f,hf,ho⟩:=bc ho;obtain⟨g,hg,ho⟩:=bc ho;obtain⟨n,hn,ho⟩:=bc ho;obtain⟨z,hz,ho⟩:=bc ho;cases ho;cases g
   ·exact ef (OE hr he hop hs hf hg hz h) hK
   ·exact ef (OG hr he hop hs hf hg hn hz h) hK
  ·cases ho
 case h_19 t y i hop =>
  split at ho
  ·rename_i e ht;obtain⟨n,hn,ho⟩:=bc ho;obtain⟨z,hz,ho⟩:=bc ho;obtain⟨z',hz',ho⟩:=bc ho;split at ho
   ·cases ho;exact ef (T5 hr he hop ht hn hz hz' h) hK
   ·cases ho
  ·rename_i len e ht;obtain⟨n,hn,ho⟩:=bc ho;obtain⟨z,hz,ho⟩:=bc ho;obtain⟨z',hz',ho⟩:=bc ho;split at ho
   ·cases ho;exact ef (OH hr he hop ht hn hz hz' h) hK
   ·cases ho
  ·cases ho
 case h_20 t y i hop =>
  split at ho
  ·rename_i ht;obtain⟨z,hz,ho⟩:=bc ho;obtain⟨z',hz',ho⟩:=bc ho;cases ho;exact ef (OI hr he hop ht hz hz' h) hK
  ·cases ho
 case h_21 y i hop =>
  obtain⟨z,hz,ho⟩:=bc ho;cases ho;exact ef (K3 hr he hop hz h) hK
 case h_22 c hop =>
  unfold PX at ho;split at ho
  ·rename_i f hcal;split at ho
   ·rename_i hent;obtain⟨l,hl,ho⟩:=bc ho;cases ho;obtain⟨l1,l2⟩:=uv he hl;split at h
    ·simp only[ei] at h;obtain⟨_,hc⟩:=hC _ _ _ _ h;refine wB (by simp[execOp,hop,resolve,hcal,Act.eval,Deferred.ofValue,invoke,rf hent]) ((hc j w (c.args.map a.eval) hr hG (by simpa using l1) fun i c' u hc' hu=>?_)) hK hP
     grind
    split at h
    ·simp only[ei] at h;obtain⟨f1,f2,f3,f4⟩:=Ch (j:=j) (w:=w) ((l.map (gw.ev bq)).flatMap ag.ids) hr
     obtain⟨_,hc⟩:=rq (us:=c.args.map a.eval) hC f2 (hG.mono f1) h (by simpa using l1) fun i c' u hc' hu=>by
      rw[bb,aW] at hc';obtain⟨y,hy,rfl⟩:=hc';rw[iy,aW] at hu;obtain⟨q,hq,rfl⟩:=hu;exact((l2 i y q hy (by simpa using hq)).sZ hr f1 f2 f3 fun id hid=>f4 id (gv.2 ⟨_,cm.2 ⟨y,aU hy,rfl⟩,hid⟩)).gj
     refine wB (by simp[execOp,hop,resolve,hcal,Act.eval,Deferred.ofValue,invoke,rf hent]) (hc.mono ?_) hK hP
     rintro e w' (⟨v,rfl,j2,g1,g2,g3⟩|⟨u,rfl,hu,j2,g1,g2⟩)
     ·exact .inl ⟨v,rfl,j2,g1,f1.trans g2,g3⟩
     ·exact .inr ⟨u,rfl,hu,j2,g1,f1.trans g2⟩
    split at h
    ·rename_i h1 h2 h3;rw[aj h1,aj h2,av h3] at ho0;obtain⟨xs,sz,n,rfl,hrun⟩:=yK hC hop hcal (by rw[ho0]) h
     obtain⟨j1,r1,x1⟩:=Be hr 1;refine hrun (p:=M.length) r1 (hG.mono x1) (he.mono x1) dk fun v w' ⟨j',q1,q2,q3⟩=>hK v w' ⟨j',?_,?_,?_⟩
     ·simpa using q1
     ·simpa using x1.trans q2
     ·simpa using q3
    simp only[ei] at h
    obtain⟨_,hc⟩:=rq (us:=c.args.map a.eval) hC hr hG h (by simpa using l1) fun i c' u hc' hu=>by
     rw[bb,aW] at hc';obtain⟨y,hy,rfl⟩:=hc';rw[iy,aW] at hu;obtain⟨q,hq,rfl⟩:=hu;exact(l2 i y q hy (by simpa using hq)).gj
    exact wB (by simp[execOp,hop,resolve,hcal,Act.eval,Deferred.ofValue,invoke,rf hent]) hc hK hP
   ·cases ho
  ·rename_i t hcal;obtain⟨l,hl,ho⟩:=bc ho;cases ho;obtain⟨l1,l2⟩:=uv he hl;have hsz:l.length=c.args.size:=by simpa using l1
   split at h
   ·simp only[ei] at h;split at h
    ·rename_i g caps hg;have hgr:=he.at' t;simp only[gw.ev] at hg;rw[hg] at hgr;obtain⟨vs,hvs,hcl,hcv⟩:=hgr.rB;have hev:a.eval (.tmp t) = .func (.func g) #[] vs:=hvs;obtain⟨hent,hc⟩:=hC _ _ _ _ h;refine wB (by simp[execOp,hop,resolve,hcal,hev,Deferred.ofValue,invoke,rf hent]) (hc j w (c.args.map a.eval++vs) hr hG ic fun i c' u hc' hu=>?_) hK hP
     rcases bK i l.length with hi|hi
     ·rw[bh (by simpa using hi)] at hc'
      rw[cy ic] at hu
      grind
     grind
    ·cases h
   simp only[ei] at h;split at h
   ·rename_i g caps hg;have hgr:=he.at' t;simp only[gw.ev] at hg;rw[hg] at hgr;obtain⟨vs,hvs,hcl,hcv⟩:=hgr.rB;have hev:a.eval (.tmp t) = .func (.func g) #[] vs:=hvs
    obtain⟨hent,hc⟩:=rq (us:=c.args.map a.eval++vs) hC hr hG h ic fun i c' u hc' hu=>by
     rcases bK i l.length with hi|hi
     ·rw[bh (by simpa using hi),bb,aW] at hc'
      obtain⟨y,hy,rfl⟩:=hc';rw[cy ic,iy,aW] at hu;obtain⟨q,hq,rfl⟩:=hu;exact(l2 i y q hy (by simpa using hq)).gj
     grind
    exact wB (by simp[execOp,hop,resolve,hcal,hev,Deferred.ofValue,invoke,rf hent]) hc hK hP
   ·rename_i g fs hg;have hgr:=he.at' t;simp only[gw.ev] at hg;rw[hg] at hgr;obtain⟨vs,hvs,hcl,hcv⟩:=hgr.GM;have hev:a.eval (.tmp t) = .func (.func g) vs #[]:=hvs
    obtain⟨hent,hc⟩:=rq (us:=vs++c.args.map a.eval) hC hr hG h ic fun i c' u hc' hu=>by
     rcases bK i fs.length with hi|hi
     ·rw[bh hi] at hc';rw[cy aM] at hu;exact(hcv i c' u hc' hu).rep
     ·rw[bA hi,bb,aW] at hc';obtain⟨y,hy,rfl⟩:=hc';rw[Array.getElem?_append_right aM,iy,aW] at hu;obtain⟨q,hq,rfl⟩:=hu;rw[<-hcl] at hq;exact(l2 _ y q hy (by simpa using hq)).gj
    exact wB (by simp[execOp,hop,resolve,hcal,hev,Deferred.ofValue,invoke,rf hent]) hc hK hP
   ·rename_i rv hg;have hgr:=he.at' t;simp only[gw.ev] at hg;rw[hg] at hgr;split at h
    ·rename_i g;have hev:a.eval (.tmp t) = .func (.func g) #[] #[]:=hgr.MP
     obtain⟨hent,hc⟩:=rq (us:=c.args.map a.eval) hC hr hG h (by simpa using l1) fun i c' u hc' hu=>by
      rw[bb,aW] at hc';obtain⟨y,hy,rfl⟩:=hc';rw[iy,aW] at hu;obtain⟨q,hq,rfl⟩:=hu;exact(l2 i y q hy (by simpa using hq)).gj
     exact wB (by simp[execOp,hop,resolve,hcal,hev,Deferred.ofValue,invoke,rf hent]) hc hK hP
    ·cases h
   ·cases h
  ·rename_i hcal;split at ho
   ·rename_i y ha ht;obtain⟨t,ht0,ht⟩:=dv.1 ht;obtain⟨z,hz,ho⟩:=bc ho;cases ho;exact ef (Xu hr he hop hcal ha ht0 ht hz h) hK
   ·rename_i y e ha ht;obtain⟨t,ht0,ht⟩:=dv.1 ht;obtain⟨z,hz,ho⟩:=bc ho;cases ho;exact ef (Xv hr he hop hcal ha ht0 ht hz h) hK
   ·rename_i y k e ha ht;obtain⟨t,ht0,ht⟩:=dv.1 ht;obtain⟨z,hz,ho⟩:=bc ho;cases ho;exact ef (Xt hr he hop hcal ha ht0 ht hz h) hK
   ·cases ho
  ·rename_i hcal;split at ho
   ·rename_i y y' t t' ha hat;split at ho
    ·rename_i e e' ht ht';obtain⟨n,hn,ho⟩:=bc ho;obtain⟨z,hz,ho⟩:=bc ho;obtain⟨z',hz',ho⟩:=bc ho;split at ho
     ·rename_i hpos;cases ho;exact ef (T0 hr he hop hcal ha hat ht ht' hn hpos hz hz' h) hK
     ·cases ho
    ·cases ho
   ·cases ho
  ·rename_i hcal;split at ho
   ·rename_i y y' t t' ha hat;split at ho
    ·rename_i e kn ht ht';obtain⟨i,hi,ho⟩:=bc ho;obtain⟨zv,hzv,ho⟩:=bc ho;obtain⟨l,hl,ho⟩:=bc ho;obtain⟨z,hz,ho⟩:=bc ho;obtain⟨z',hz',ho⟩:=bc ho;split at ho
     ·rename_i hc;obtain⟨d1,d2,d3,d4⟩:=hc;injection ho with hoo
      subst hoo;exact ef (K2 hr he hop hcal ha hat ht ht' hi hzv hl d1 d2 d3 d4 hz hz' h) hK
     ·cases ho
    ·rename_i e e' ht ht';obtain⟨i,hi,ho⟩:=bc ho;obtain⟨z,hz,ho⟩:=bc ho;obtain⟨z',hz',ho⟩:=bc ho;split at ho
     ·rename_i hc;cases ho;simp only[bm,bt] at hc;obtain⟨⟨⟨c1,c2⟩,c3⟩,c4⟩:=hc;obtain⟨zv,hzv,hzs⟩:=aW.1 c1;have hat':c.argTypes = #[t,t']:=by rw[<-hat]
      split at h
      ·split at h
       ·exact ef (K0 hr he hop hcal ha hat' ht ht' hi hzv hzs c2 c3 c4 hz hz' h) hK
       ·exact ef (Fp hr he hop hcal ha hat' ht ht' hi hzv hzs c2 c3 c4 hz hz' h) hK
      ·exact ef (Fp hr he hop hcal ha hat' ht ht' hi hzv hzs c2 c3 c4 hz hz' h) hK
     ·cases ho
    ·cases ho
   ·cases ho
  ·rename_i hcal;split at ho
   ·rename_i y t ha hat;split at ho
    ·rename_i e ht;obtain⟨i,hi,ho⟩:=bc ho;obtain⟨zv,hzv,ho⟩:=bc ho;obtain⟨l,hl,ho⟩:=bc ho;obtain⟨z,hz,ho⟩:=bc ho;split at ho
     ·rename_i hc;cases ho;exact ef (OD hr he hop hcal ha hat ht hi hzv hl hc.1 hz h) hK
     ·cases ho
    ·cases ho
   ·cases ho
  ·rename_i hcal;split at ho
   ·rename_i y y' ha;obtain⟨z,hz,ho⟩:=bc ho;obtain⟨z',hz',ho⟩:=bc ho;cases ho;exact ef (Fq (mx:=true) hr he hop hcal ha hz hz' h) hK
   ·cases ho
  ·rename_i hcal;split at ho
   ·rename_i y y' ha;obtain⟨z,hz,ho⟩:=bc ho;obtain⟨z',hz',ho⟩:=bc ho;cases ho;exact ef (Fq (mx:=false) hr he hop hcal ha hz hz' h) hK
   ·cases ho
  ·cases ho
 case h_23 t hop =>
  cases ho;exact ef (Ua hr hop h) hK
 case h_24 t m k ok hop =>
  split at ho
  ·rename_i kt et ht;obtain⟨fk,hfk,ho⟩:=bc ho;obtain⟨ie,hi,ho⟩:=bc ho;obtain⟨zv,hzv,ho⟩:=bc ho;obtain⟨z,hz,ho⟩:=bc ho;obtain⟨m',hm,ho⟩:=bc ho;obtain⟨k',hk,ho⟩:=bc ho;cases ho;exact ef (Xw hr he hop ht hfk hi hzv hz hm hk h) hK
  ·cases ho
 case h_25 t m k y hop =>
  split at ho
  ·rename_i kt et ht;obtain⟨fk,hfk,ho⟩:=bc ho;obtain⟨m',hm,ho⟩:=bc ho;obtain⟨k',hk,ho⟩:=bc ho;obtain⟨y',hy,ho⟩:=bc ho;cases ho;exact ef (Uf hr he (.inl hop) ht hfk hm hk (cU he hy) h) hK
  ·cases ho
 case h_26 t y hop =>
  split at ho
  ·rename_i ht;obtain⟨z,hz,ho⟩:=bc ho;cases ho;exact ef (XA hr he hop ht hz h) hK
  ·cases ho
 case h_27 y hop =>
  obtain⟨z,hz,ho⟩:=bc ho;cases ho;exact ef (Uc hr he hop hz h) hK
 case h_28 t y hop =>
  obtain⟨z,hz,ho⟩:=bc ho;split at ho
  ·cases ho
  ·rename_i d hd hu;cases ho;exact ef (T6 hr he hop hu (fun _=>hd _) hz h) hK
  ·cases ho
 case h_29 y hop =>
  obtain⟨z,hz,ho⟩:=bc ho;cases ho;obtain⟨u,h1,h2⟩:=Ue (P:=P) hr he hop hz h;exact .inr (.inr ⟨u,h1,hP u w h2⟩)
 case h_30 t m k y hop =>
  split at ho
  ·rename_i kt et ht;obtain⟨fk,hfk,ho⟩:=bc ho;obtain⟨m',hm,ho⟩:=bc ho;obtain⟨k',hk,ho⟩:=bc ho;obtain⟨y',hy,ho⟩:=bc ho;cases ho;exact ef (Uf hr he (.inr hop) ht hfk hm hk (Ug he hy) h) hK
  ·cases ho
 case h_31 t y y' hop =>
  split at ho
  ·rename_i e ht;obtain⟨i,hi,ho⟩:=bc ho;obtain⟨zv,hzv,ho⟩:=bc ho;obtain⟨l,hl,ho⟩:=bc ho;obtain⟨z,hz,ho⟩:=bc ho;split at ho
   ·rename_i hc;obtain⟨hyy,c1,c2,c3⟩:=hc;injection ho with hoo
    subst hoo;have hyy:=XY hyy;subst hyy;split at h
    ·split at h
     ·exact ef (Xx hr he hop ht hi hzv hl hz c1 c2 c3 h) hK
     ·exact ef (Ub hr he hop ht hi hzv hl hz c1 c2 c3 h) hK
    ·exact ef (Ub hr he hop ht hi hzv hl hz c1 c2 c3 h) hK
   ·cases ho
  ·cases ho
 case h_32=>cases ho
end
section
variable {P:Program} {C:eO} {A:zi}
def xp(a:Act)(d:Option Nat)(v:Value):(a.put d v).tmps.size=a.tmps.size:=by cases d<;>simp[Act.put]
theorem put_defers(a:Act)(d:Option Nat)(v:Value):(a.put d v).defers=a.defers:=by cases d<;>rfl
theorem Ax{ops:Array Oper}{g:Bool}{o:Oper}{x:cX}(h:LJ P A ops g o=some x):Nt P A.own o=some x.op/\x.dst=o.dst/\x.grow=g/\(∀d,o.dst=some d->d<A.n) /\
  ((o.guard=none/\x.guard=none)\/∃k want t,o.guard=some (k,want)/\x.guard=some (t,want)/\(ops[k]?).bind (·.dst)=some t/\t<A.n):=by
 obtain⟨op,hop,h⟩:=bc h;split at h
 ·rename_i hd;have hd':∀d,o.dst=some d->d<A.n:=fun d e=>by grind [Yq]
  split at h
  ·grind
  ·obtain⟨t,ht,h⟩:=bc h
   grind
 grind
def zf{ops:Array Oper}{o:Oper}{x:cX}{bq:Env}{M:aO}{j:J}{w:World}{a:Act}(he:cE j M w bq a)(hs:a.tmps.size=A.n)
  (hg:(o.guard=none/\x.guard=none)\/∃k want t,o.guard=some (k,want)/\x.guard=some (t,want)/\(ops[k]?).bind (·.dst)=some t/\t<A.n)
  (h:∀t want,x.guard=some (t,want)->gW bq t = .bool want):Region.wanted o (yielded ops a.tmps)=true:=by
 unfold Region.wanted;rcases hg with ⟨h1,_⟩|⟨k,want,t,h1,h2,h3,h4⟩
 ·rw[h1]
 ·have hv:=he.at' t;rw[h t _ h2] at hv;have hv:=hv.js;simp_all [yielded]
theorem F1{ops:Array Oper}{o:Oper}{x:cX}{bq:Env}{M:aO}{j:J}{w:World}{a:Act}(he:cE j M w bq a)(hs:a.tmps.size=A.n)
  (hg:(o.guard=none/\x.guard=none)\/∃k want t,o.guard=some (k,want)/\x.guard=some (t,want)/\(ops[k]?).bind (·.dst)=some t/\t<A.n)
  {t:Nat} {want:Bool} (hx:x.guard=some (t,want)) (h:gW bq t = .bool (!want)\/gW bq t = .tuple []):Region.wanted o (yielded ops a.tmps)=false:=by
 unfold Region.wanted;rcases hg with ⟨_,h1⟩|⟨k,want',t',h1,h2,h3,h4⟩
 ·grind
 ·rw[h2] at hx;injection hx with hx
  injection hx with e1 e2
  subst e1; subst e2;rw[h1];have hv:=he.at' t';have hget:a.tmps[t']?=some (a.tmps.getD t' undef):=by simp_all
  rcases h with h|h
  ·rw[h] at hv;rw[hv.js] at hget;cases want'<;>simp[yielded,h3,hget]
  ·rw[h] at hv;obtain⟨vs,hvs,hl,_⟩:=hv.tP
   grind [yielded]
def En{x:cX}{bq:Env}{M:aO}{y:ag×aO}(h:pW C x bq M=some y):ei C bq M x.op=some y:=by
 rcases rU h with ⟨_,_,h⟩|⟨_,_,h⟩|⟨_,_,_,h⟩<;>exact h
def rV:X8->Exit
 | .normal => .normal
 | .exit i => .exit i
 | .ret => .ret
 | .oU v => .panic [{ v,recovered:=false }]
def gn.KV{j:J}{M:aO}{w:World}{u v:Value}(h:gn j M w (.oU u) v):False:=by
 cases h with
 |plain h=>cases h
def cE.nil{j j':J}{M M':aO}{w w':World}{bq:Env}{a:Act}(h:cE j M w bq a)(hx:Ext j M w j' M' w'):cE j' M' w' [] a:=⟨fun _ => .any _,h.gl.mono hx⟩
theorem x5(hC:pC P C){r:Option Nat}{n:Nat}{ops:Array Oper}{Q:Exit->Act->World->Prop}:∀ {grow:List Bool} (l:List Oper) (k:Nat),ops.toList.drop k=l->∀ {al:List cX},sU P A ops grow l=some al ->
  ∀ {bq:Env} {M:aO} {x:Out},ib C al bq M=some x->∀ {j:J} {w:World} {a:Act},Rel j M w->sS j M w->cE j M w bq a->a.tmps.size=A.n ->
  (∀a' w' j',Rel j' x.mem w'->cE j' x.mem w' x.bq a'->Ext j M w j' x.mem w'->a'.tmps.size=A.n->a'.defers=a.defers->Q (rV x.e) a' w')->wpOpsIn (Wd r) n P ops Q (List.range' k l.length) a w
 |grow,[],k,hk,al,hal,bq,M,x,hx,j,w,a,hr,hG,he,hs,hQ=>by
  simp only[sU] at hal; cases hal;simp only[ib] at hx; cases hx;exact hQ a w j hr he (Ext.refl j M w) hs rfl
 |grow,o::rs,k,hk,al,hal,bq,M,x,hx,j,w,a,hr,hG,he,hs,hQ=>by
  simp only[sU] at hal;obtain⟨xo,hxo,hal⟩:=bc hal;obtain⟨xr,hxr,hal⟩:=bc hal;cases hal;obtain⟨h1,h2,h3,h4,h5⟩:=Ax hxo
  have hko:ops[k]?=some o:=by
   have:(ops.toList.drop k)[0]?=some o:=by rw[hk]; rfl
   rw[cZ] at this
   grind
  have hkr:ops.toList.drop (k+1)=rs:=by
   rw[<-List.drop_drop,hk]; rfl
  simp only[aD,List.range'_succ,wpOpsIn,hko];rcases pR hx with ⟨y,g1,g2,⟨hnp,g3⟩|⟨u0,_,g3,rfl⟩⟩|⟨t,want,g1,g2,g3⟩
  ·rw[av (zf he hs h5 g1)];refine tU.wpIn (KP:=fun _ _=>False) (zP h1) (Dz hC h1 (En g2) hr hG he ?_ ?_) fun u w' h=>h.elim
   ·rintro v w' ⟨j',q1,q2,q3⟩;refine x5 hC rs (k+1) hkr hxr (x:=x) (by rw[<-h2]; omega) q1 (hG.mono q2) ((he.mono q2).put hs h4 aM) (by rw[xp]; omega) fun a' w'' j'' p1 p2 p3 p4 p5=>?_
    exact hQ a' w'' j'' p1 p2 (q2.trans p3) p4 (p5.trans (put_defers _ _ _))
   ·rintro u w' ⟨hu,_⟩;rw[hu] at hnp; cases hnp
  ·rw[av (zf he hs h5 g1)];refine tU.wpIn (KP:=fun u w'=>u=u0/\∃j',Rel j' y.2 w'/\Ext j M w j' y.2 w') (zP h1) (Dz hC h1 (En g2) hr hG he ?_ ?_) ?_
   ·rintro v w' ⟨j',q1,q2,q3⟩;rw[g3] at q3;exact q3.KV.elim
   ·rintro u w' ⟨hu,h⟩;rw[g3] at hu; grind
   ·rintro u w' ⟨rfl,j',q1,q2⟩;exact hQ a w' j' q1 (he.nil q2) q2 hs rfl
  ·rw[aj (by rw[F1 he hs h5 g1 g2]; simp)]
   refine⟨fun _ _=>trivial,?_⟩
   refine x5 hC rs (k+1) hkr hxr (x:=x) (by rw[<-h2]; omega) hr hG (he.put hs h4 (.tuple (vs := #[]) rfl fun i c v h=>dk)) (by rw[xp]; omega) fun a' w'' j'' p1 p2 p3 p4 p5=>?_
   grind [put_defers]
theorem yV{acc:List Nat}{i:Nat}:∀ {es:List Edge},(xj acc es).testBit i=true->∃e,e∈es/\Region.binds .any e=true/\(e.on=i\/((nth acc e.on).getD 0).testBit i=true)
 | [],h=>by grind [xj]
 |e::r,h=>by
  rw[xj] at h;split at h
  ·rw[Nat.testBit_or,Nat.testBit_or,cV,cV] at h;rcases h with h|h|h
   ·obtain⟨e',h1,h2,h3⟩:=yV h
    grind
   ·grind
   grind
  ·obtain⟨e',h1,h2,h3⟩:=yV h
   grind
theorem CH:∀(l:List Oper)(acc:List Nat),acc <+: CG l acc/\∀(m:Nat)(o:Oper),l[m]?=some o->(CG l acc)[acc.length+m]?=some (xj ((CG l acc).take (acc.length+m)) o.after.toList)
 | [],acc=>⟨iv _,fun m o h=>kW⟩
 |p::r,acc=>by
  rw[CG];obtain⟨h1,h2⟩:=CH r (acc++[xj acc p.after.toList]);have h3  := (mn _ _).trans h1;refine⟨h3,fun m o hm=>?_⟩
  cases m with
  |zero =>
   simp at hm; obtain⟨t,ht⟩:=h1
   grind
  |succ m =>
   grind
def Cy{ops:List Oper}{i k:Nat}{o:Oper}(hk:ops[k]?=some o)(cA:∀e,e∈o.after.toList->Region.binds .any e=true->e.on<k)(h:ahead (qT ops) i k=true) :
  ∃e,e∈o.after.toList/\Region.binds .any e=true/\e.on<k/\(e.on=i\/ahead (qT ops) i e.on=true):=by
 have h1:=(CH _ []).2 k o hk;simp at h1;unfold ahead at h;rw[eY,show qT _=CG _ _ from rfl,h1] at h
 obtain⟨e,h2,h3,h4⟩:=yV h;have h5:=cA e h2 h3;refine⟨e,h2,h3,h5,h4.imp id fun h=>?_⟩
 rw[eY,bM h5] at h;unfold ahead;rw[eY];exact h
def Down(ops:Array Oper)(L:Nat->Bool):Prop:=∀(k:Nat)(o:Oper)(e:Edge),ops[k]?=some o->L k=true->e∈o.after.toList->Region.binds .any e=true->L e.on=true
theorem Cz{ops:Array Oper}{L:Nat->Bool}(hd:Down ops L)(cA:∀(k:Nat)(o:Oper)(e:Edge),ops[k]?=some o->e∈o.after.toList->Region.binds .any e=true->e.on<k) :
  ∀(k:Nat){i:Nat},ahead (qT ops.toList) i k=true->k<ops.size->L k=true->L i=true:=by
 intro k;induction k using Nat.strongRecOn with
 |_ k ih =>
  intro i h hk hL;have ho  := bf hk;obtain⟨e,h1,h2,h3,h4⟩:=Cy dk (fun e h1 h2=>cA k _ e ho h1 h2) h
  have h5:=hd k _ e ho hL h1 h2
  grind
theorem Hs{ops:Array Oper}{L:Nat->Bool}(hd:Down ops L)(cA:∀(k:Nat)(o:Oper)(e:Edge),ops[k]?=some o->e∈o.after.toList->Region.binds .any e=true->e.on<k)
  {k i:Nat} {o:Oper} (ho:ops[k]?=some o) (hr:∀e,e∈o.after.toList->Region.binds .any e=true->L e.on=true) (h:ahead (qT ops.toList) i k=true):L i=true:=by
 obtain⟨e,h1,h2,h3,h4⟩:=Cy kW (fun e h1 h2=>cA k _ e ho h1 h2) h
 have h5:=hr e h1 h2;rcases h4 with rfl|h4
 ·omega
 grind [Cz]
theorem cQ{bq env':Env}{x:gw}(h:∀t,t∈x.lD->gW bq t=gW env' t):x.ev bq=x.ev env':=by
 cases x with
 |tmp t=>exact h t (by simp[gw.lD])
 |kj v=>rfl
theorem nT{bq env':Env}:∀ {l:List gw},(∀t,t∈l.flatMap gw.lD->gW bq t=gW env' t)->∀x,x∈l->x.ev bq=x.ev env':=by grind [cQ]
def su{bq env':Env}{n:Nat}{x:Option gw}(h:∀t,t∈A9 x->gW bq t=gW env' t):ir bq n x=ir env' n x:=by
 cases x with
 |none=>rfl
 |some x=>unfold ir; simp only; rw[cQ h]
theorem CY{bq env':Env}:∀ {ps:List (Nat×Nat×gw)} {cs:List ag},(∀p,p∈ps->p.2.2.ev bq=p.2.2.ev env')->lO bq cs ps=lO env' cs ps
 | [],cs,_=>rfl
 |(off,n,x)::r,cs,h=>by
  unfold lO;rw[h (off,n,x) dk];congr 1;funext new;split
  ·exact CY fun p hp=>h p kW
  rfl
def yU{bq env':Env}{sz:Nat}:∀ {ps:List gw},(∀p,p∈ps->p.ev bq=p.ev env')->tc bq sz ps=tc env' sz ps
 | [],_=>rfl
 |x::r,h=>by
  unfold tc;rw[h x dk,yU fun p hp=>h p kW]
theorem Ej{bq env':Env}{M:aO}{op:kb}(h:∀t,t∈op.lD->gW bq t=gW env' t):ei C bq M op=ei C env' M op/\op.eo bq=op.eo env':=by
 cases op<;>simp only[kb.lD,bC] at h
 case mv x=>simp[ei,kb.eo,cQ h]
 case own n x=>simp[ei,kb.eo,cQ h]
 case pick c x y=>grind [ei,kb.eo,cQ]
 case sv cs=>simp[ei,kb.eo]
 case box x=>simp[ei,kb.eo,cQ h]
 case Ep f l =>
  have:(l.map fun x=>(x.ev bq).gj)=l.map fun x=>(x.ev env').gj:=cj fun x hx=>by rw[nT h x hx]
  simp only[ei,kb.eo,this,j4]
 case build z ps=>grind [ei,kb.eo,CY,cQ]
 case lits n ps=>simp[ei,kb.eo,yU (ps:=ps) (nT h)]
 case E9 n ps=>simp[ei,kb.eo,yU (ps:=ps) (nT h)]
 case kl n x=>simp[ei,kb.eo,cQ h]
 case mY x=>simp[ei,kb.eo,cQ h]
 case store n x y=>simp[ei,kb.eo,cQ (x:=x) fun t ht=>h t (.inl ht),cQ (x:=y) fun t ht=>h t (.inr ht)]
 case Bk sz p n x y=>simp[ei,kb.eo,cQ (x:=x) fun t ht=>h t (.inl ht),cQ (x:=y) fun t ht=>h t (.inr ht)]
 case chk x=>simp[ei,kb.eo,cQ h]
 case bin b x y=>grind [ei,kb.eo,cQ]
 case VP ks n x y=>grind [ei,kb.eo,cQ]
 case eqB n x y=>simp[ei,kb.eo,cQ (x:=x) fun t ht=>h t (.inl ht),cQ (x:=y) fun t ht=>h t (.inr ht)]
 case not x=>simp[ei,kb.eo,cQ h]
 case neg x=>simp[ei,kb.eo,cQ h]
 case conv k x=>simp[ei,kb.eo,cQ h]
 case same x=>simp[ei,kb.eo,cQ h]
 case fn f l=>simp only[ei,kb.eo,cj (nT h),j4]
 case Bh x lo hi =>
  simp only[ei,kb.eo,cQ (x:=x) fun t ht=>h t (.inl ht),su (bq:=bq) (env':=env') (x:=lo) fun t ht=>h t (.inr (.inl ht)),and_true]
  split
  ·rw[su (x:=hi) fun t ht=>h t (.inr (.inr ht))]
  ·rfl
 case uz n x lo hi mx =>
  simp only[ei,kb.eo,cQ (x:=x) fun t ht=>h t (.inl ht),su (bq:=bq) (env':=env') (x:=lo) fun t ht=>h t (.inr (.inl ht)),and_true]
  split
  ·rw[su (x:=hi) fun t ht=>h t (.inr (.inr (.inl ht)))]
   cases mx with
   |none=>rfl
   |some m=>simp only[cQ (x:=m) fun t ht=>h t (.inr (.inr (.inr ht)))]
  ·rw[su (x:=hi) fun t ht=>h t (.inr (.inr (.inl ht)))]
   cases mx with
   |none=>rfl
   |some m=>simp only[cQ (x:=m) fun t ht=>h t (.inr (.inr (.inr ht)))]
  ·rfl
 case pX n x=>simp[ei,kb.eo,cQ h]
 case CX p n x=>simp[ei,kb.eo,cQ h]
 case CW p x=>simp[ei,kb.eo,cQ h]
 case rD n x y=>simp[ei,kb.eo,cQ (x:=x) fun t ht=>h t (.inl ht),cQ (x:=y) fun t ht=>h t (.inr ht)]
 case AP m n x y=>simp[ei,kb.eo,cQ (x:=x) fun t ht=>h t (.inl ht),cQ (x:=y) fun t ht=>h t (.inr ht)]
 case AQ x y=>grind [ei,kb.eo,cQ]
 case extract x i=>simp[ei,kb.eo,cQ h]
 case call f l =>
  have:(l.map fun x=>(x.ev bq).gj)=l.map fun x=>(x.ev env').gj:=cj fun x hx=>by rw[nT h x hx]
  simp only[ei,kb.eo,this,j4]
 case sy f l =>
  have:(l.map fun x=>(x.ev bq).gj)=l.map fun x=>(x.ev env').gj:=cj fun x hx=>by rw[nT (fun t ht=>h t (.inr ht)) x hx]
  simp only[ei,kb.eo,this,cQ (x:=f) fun t ht=>h t (.inl ht),j4]
 case Bw f l=>simp only[ei,kb.eo,cj (nT fun t ht=>h t (.inr ht)),cQ (x:=f) fun t ht=>h t (.inl ht),j4]
 case Bv f l=>simp only[ei,kb.eo,cj (nT h),j4]
 case wE f l =>
  have:(l.map fun x=>(x.ev bq).gj)=l.map fun x=>(x.ev env').gj:=cj fun x hx=>by rw[nT h x hx]
  simp only[ei,kb.eo,this,j4]
 case w5 n z x=>simp[ei,kb.eo,cQ h]
 case mS f l =>
  have h1:(l.map fun x=>((x.ev bq).sZ M).gj)=l.map fun x=>((x.ev env').sZ M).gj:=cj fun x hx=>by rw[nT h x hx]
  have h2:l.map (gw.ev bq)=l.map (gw.ev env'):=cj (nT h);simp only[ei,kb.eo,h1,h2,j4]
 case Tr x=>simp[ei,kb.eo,cQ h]
 case vu x=>simp[ei,kb.eo,cQ h]
 case NF n x y=>simp[ei,kb.eo,cQ (x:=x) fun t ht=>h t (.inl ht),cQ (x:=y) fun t ht=>h t (.inr ht)]
 case append n b x y=>simp[ei,kb.eo,cQ (x:=x) fun t ht=>h t (.inl ht),cQ (x:=y) fun t ht=>h t (.inr ht)]
 case vP n b x y=>simp[ei,kb.eo,cQ (x:=x) fun t ht=>h t (.inl ht),cQ (x:=y) fun t ht=>h t (.inr ht)]
 case b2s x=>simp[ei,kb.eo,cQ h]
 case mkMap=>simp[ei,kb.eo]
 case look fk z ok x y=>grind [ei,kb.eo,cQ]
 case gD fk c x y=>grind [ei,kb.eo,cQ]
 case Oo x=>simp[ei,kb.eo,cQ h]
 case OY x=>simp[ei,kb.eo,cQ h]
 case Fo x=>simp[ei,kb.eo,cQ h]
 case A6 m x y=>simp[ei,kb.eo,cQ (x:=x) fun t ht=>h t (.inl ht),cQ (x:=y) fun t ht=>h t (.inr ht)]
 case xE a b c x y=>grind [ei,kb.eo,cQ]
 case Ex a x y=>simp[ei,kb.eo,cQ (x:=x) fun t ht=>h t (.inl ht),cQ (x:=y) fun t ht=>h t (.inr ht)]
 case Nr a=>simp[ei,kb.eo]
 case mkS z x=>simp[ei,kb.eo,cQ h]
 case Oy z x=>simp[ei,kb.eo,cQ h]
 case iface t x=>simp[ei,kb.eo,cQ h]
 case raise x=>simp[ei,kb.eo,cQ h]
theorem zw{f:Nat}{vs:List ag}{M:aO}{x:ag×aO}(h:aL C f vs M=some x)(hn:vs.flatMap ag.ids=[]):x.2=M/\∀M2,aL C f vs M2=some (x.1,M2):=by
 have hre:∀M,reach M []=[]:=fun M=>rfl
 unfold aL at h;rw[hn,hre] at h;split at h
 ·rename_i hf;obtain⟨B,hB,h⟩:=bu h;simp only[kV] at hB;cases hB;split at h
  ·obtain⟨y,hy,h⟩:=bu h;split at h
   ·rename_i hc;cases h;have hy2:y.2=[]:=cK hc.1;refine⟨by simp[ny],fun M2=>?_⟩
    unfold aL;rw[hn,hre,av hf];simp only[kV,cq];rw[av (show mC M2 []=[] from rfl),hy,cq,av hc,hy2]
    simp[ny]
   ·cases h
  ·cases h
 ·cases h
theorem Hu{op:kb}(hc:op.xf=true){bq:Env}{M:aO}{x:ag×aO}(h:ei C bq M op=some x)(hn:op.eo bq=[]):x.2=M/\∀M2,ei C bq M2 op=some (x.1,M2):=by
 cases op<;>simp only[kb.xf,af] at hc
 case call f l =>
  grind [ei,kb.eo,zw]
 case sy f l =>
  simp only[ei,kb.eo] at h hn ⊢;split at h<;>grind [zw]
theorem MM{op:kb}(he:op.Ps=false)(hl:op.Pt=false){bq:Env}{M:aO}{x:ag×aO}(h:ei C bq M op=some x):x.2=M/\∀M2,ei C bq M2 op=some (x.1,M2):=by
 cases op<;>simp only[kb.Ps,kb.Pt,reduceCtorEq] at he hl<;>simp only[ei] at h ⊢
 case Bh y lo hi =>
  split at h
  ·rename_i s e;obtain⟨hh,h1,h⟩:=bu h;obtain⟨l,h2,h⟩:=bu h;obtain⟨hp,h⟩:=dw h;cases h;simp_all
  ·cases h
 case uz n y lo hi mx =>
  split at h
  ·rename_i tk xs e;obtain⟨hw,h⟩:=dw h;obtain⟨hh,h1,h⟩:=bu h;obtain⟨l,h2,h⟩:=bu h;split at h
   ·obtain⟨hp,h⟩:=dw h;cases h;simp_all
   ·split at h
    ·rename_i k m em;obtain⟨hp,h⟩:=dw h;rcases k8 h with ⟨hb,h⟩|⟨hb,h⟩<;>(cases h)
     ·simp_all
     ·exact⟨rfl,fun M2=>by rw[gm hw]; simp only[h1,h2,cq,hb,mL]; exact gm hp⟩
    ·cases h
  ·rename_i id v0 sz' al ah e;obtain⟨hw,h⟩:=dw h;obtain⟨hh,h1,h⟩:=bu h;obtain⟨l,h2,h⟩:=bu h;split at h
   ·obtain⟨hp,h⟩:=dw h;rcases k8 h with ⟨hb,h⟩|⟨hb,h⟩<;>(cases h)
    ·simp_all
    ·exact⟨rfl,fun M2=>by rw[gm hw]; simp only[h1,h2,cq,hb,mL]; exact gm hp⟩
   ·split at h
    ·rename_i k m em;obtain⟨hp,h⟩:=dw h;rcases k8 h with ⟨hb,h⟩|⟨hb,h⟩
     ·cases h;simp_all
     ·rcases k8 h with ⟨hb2,h⟩|⟨hb2,h⟩<;>(cases h)
      ·exact⟨rfl,fun M2=>by rw[gm hw]; grind [cq,uu,mL,gm]⟩
      ·exact⟨rfl,fun M2=>by rw[gm hw]; grind [cq,mL,gm]⟩
    ·cases h
  ·cases h
 case NF n y i =>
  split at h
  ·obtain⟨hp,h⟩:=dw h;cases h;exact⟨rfl,fun _=>av hp⟩
  ·cases h
 case rD n y i =>
  split at h
  ·obtain⟨hp,h⟩:=dw h;obtain⟨e,h1,h⟩:=bu h;split at h
   ·rename_i hw;cases h;simp_all
   ·cases h
  ·obtain⟨hp,h⟩:=dw h;cases h;exact⟨rfl,fun M2=>by rw[gm hp]⟩
  ·cases h
 case AP m n y i =>
  split at h
  ·obtain⟨hp,h⟩:=dw h;cases h;exact⟨rfl,fun M2=>by rw[gm hp]⟩
  ·obtain⟨hp,h⟩:=dw h;cases h;exact⟨rfl,fun M2=>by rw[gm hp]⟩
  ·cases h
 case Ep f l =>
  grind
 case AQ y i =>
  split at h
  ·obtain⟨hp,h⟩:=dw h;obtain⟨e,h1,h⟩:=bu h;cases h;exact⟨rfl,fun M2=>by rw[gm hp,h1,cq]⟩
  ·cases h
 case pick c y z =>
  split at h
  ·rcases k8 h with ⟨rfl,h⟩|⟨rfl,h⟩<;>(cases h; exact⟨rfl,fun _=>rfl⟩)
  ·cases h
 case lits n ps =>
  obtain⟨l,h1,h⟩:=bu h;cases h;exact⟨rfl,fun M2=>by rw[h1,cq]⟩
 case iface t y =>
  split at h
  ·cases h;exact⟨rfl,fun M2=>rfl⟩
  ·obtain⟨v,hv,h⟩:=bu h;cases h;exact⟨rfl,fun M2=>by rw[hv]; rfl⟩
 case mkS z y =>
  split at h
  ·obtain⟨hp,h⟩:=dw h;cases h;exact⟨rfl,fun M2=>gm hp⟩
  ·cases h
 case raise y =>
  grind
 all_goals first
  |(cases h; exact⟨rfl,fun _=>rfl⟩)
  |(obtain⟨_,ha,h⟩:=bu h; cases h; exact⟨rfl,fun _=>by rw[ha]; rfl⟩)
  |(split at h<;>first
    |(cases h; exact⟨rfl,fun _=>rfl⟩)
    |(obtain⟨_,ha,h⟩:=bu h; cases h; exact⟨rfl,fun _=>by rw[ha]; rfl⟩)
    |cases h
    |grind)
theorem I1{M M2:aO}{id:Nat}{b:dg}(hp:M <+: M2\/M2 <+: M)(hid:id<M2.length)(hb:nth M id=some b):nth M2 id=some b:=by
 rw[eY] at hb ⊢;rcases hp with ⟨t,rfl⟩|⟨t,rfl⟩
 ·rw[bh (aJ hb)]; omega
 grind
theorem Iy{op:kb}(hl:op.Pt=true){bq:Env}{M:aO}{x:ag×aO}(h:ei C bq M op=some x):x.2=M /\
  ∀ {M2:aO} (z:gw),(∀id b,id∈(z.ev bq).iz->id<M2.length->nth M id=some b->nth M2 id=some b)->∀ {j:J} {w:World} {v:Value},(op = .mY z\/(∃n,op = .kl n z)\/∃fk zr ok k,op = .look fk zr ok z k)->gn j M2 w (z.ev bq) v->ei C bq M2 op=some (x.1,M2):=by
 cases op<;>simp only[kb.Pt,af] at hl
 case kl n y =>
  simp only[ei] at h ⊢;split at h
  ·rename_i id off e;split at h
   ·rename_i cs hM;split at h
    ·rename_i hle;cases h;refine⟨rfl,fun {M2} z hp {j w v} hz hr=>?_⟩
     have:z=y:=by rcases hz with hz|⟨n',hz⟩|⟨_,_,_,_,hz⟩<;>cases hz<;>rfl
     subst this;rw[e] at hr;obtain⟨b,hid,_⟩:=hr.pV;rw[hp _ _ (by rw[e]; simp[ag.iz]) hid hM]
     simp only;rw[av hle]
    ·cases h
   ·cases h
  ·grind
  ·rename_i id ver i off e;split at h
   ·rename_i sz v0 xs hM;split at h
    ·rename_i hv0;obtain⟨el,hel,h⟩:=bu h;split at h
     ·rename_i hle;cases h;refine⟨rfl,fun {M2} z hp {j w v} hz hr=>?_⟩
      have:z=y:=by rcases hz with hz|⟨n',hz⟩|⟨_,_,_,_,hz⟩<;>cases hz<;>rfl
      subst this;rw[e] at hr;obtain⟨_,hid,_⟩:=hr.sF;rw[hp _ _ (by rw[e]; simp[ag.iz]) hid hM]
      simp only[hel,cq];rw[av hv0,av hle]
     ·cases h
    ·cases h
   ·cases h
  ·cases h
 case mY y =>
  simp only[ei] at h ⊢;split at h
  ·rename_i id off e;split at h
   ·rename_i cs hM;obtain⟨c,hc,h⟩:=bu h;cases h;refine⟨rfl,fun {M2} z hp {j w v} hz hr=>?_⟩
    have:z=y:=by rcases hz with hz|⟨n',hz⟩|⟨_,_,_,_,hz⟩<;>cases hz<;>rfl
    subst this;rw[e] at hr;obtain⟨b,hid,_⟩:=hr.pV;rw[hp _ _ (by rw[e]; simp[ag.iz]) hid hM]
    simp only[hc,cq]
   ·cases h
  ·obtain⟨c,hc,h⟩:=bu h;cases h;exact⟨rfl,fun {M2} hp {j w v} z hz hr=>by simp only[hc,cq]⟩
  ·rename_i id ver i off e;split at h
   ·rename_i sz v0 xs hM;split at h
    ·rename_i hv0;obtain⟨el,hel,h⟩:=bu h;obtain⟨c,hc,h⟩:=bu h;cases h;refine⟨rfl,fun {M2} z hp {j w v} hz hr=>?_⟩
     have:z=y:=by rcases hz with hz|⟨n',hz⟩|⟨_,_,_,_,hz⟩<;>cases hz<;>rfl
     subst this;rw[e] at hr;obtain⟨_,hid,_⟩:=hr.sF;rw[hp _ _ (by rw[e]; simp[ag.iz]) hid hM]
     simp only[hel,hc,cq];rw[av hv0]
    ·cases h
   ·cases h
  ·cases h
 case look fk zr ok y k =>
  simp only[ei] at h ⊢;obtain⟨e,he,h⟩:=bu h;obtain⟨r,hr',h⟩:=bu h;cases h;refine⟨rfl,fun {M2} z hp {j w v} hz hr=>?_⟩
  have:z=y:=by rcases hz with hz|⟨n',hz⟩|⟨_,_,_,_,hz⟩<;>cases hz<;>rfl
  subst this
  have:mapOf M2 (z.ev bq)=some e:=by
   unfold mapOf at he ⊢;split at he
   ·rename_i id e0;rw[e0] at hr;obtain⟨b,⟨ks,vs,hm⟩,_⟩:=hr.vy;split at he
    ·rename_i ks' vs' hM;rw[hp _ _ (by rw[e0]; simp[ag.iz]) (aJ hm) hM]
     exact he
    ·cases he
   ·exact he
   ·cases he
  rw[this,cq,hr',cq]
end
section
variable {P:Program} {C:eO} {A:zi}
def JI(C:eO)(o:cX)(bq:Env)(M:aO)(v:ag)(M':aO):Prop :=
 ((∀t want,o.guard=some (t,want)->gW bq t = .bool want)/\pW C o bq M=some (v,M')) \/
 (∃t want,o.guard=some (t,want)/\(gW bq t = .bool (!want)\/gW bq t = .tuple [])/\v = .tuple []/\M'=M)
def oY(bq:Env)(l:List cX)(vals:Nat->ag)(L:Nat->Bool):Nat->Env
 |0=>bq
 |k+1=>match l[k]? with
  |some o=>if L k then rK (oY bq l vals L k) o.dst (vals k) else oY bq l vals L k
  |none=>oY bq l vals L k
theorem AF(bq:Env)(o:cX)(r:List cX)(vals:Nat->ag):∀k,oY bq (o::r) vals (fun _=>true) (k+1)=oY (rK bq o.dst (vals 0)) r (fun i=>vals (i+1)) (fun _=>true) k
 |0=>rfl
 |k+1=>by
  rw[oY,AF _ o r _ k];rfl
def Yd(l:List cX)(bq:Env)(vals:Nat->ag)(mems:Nat->aO)(N:Nat)(x:Out):Prop :=
 (N=l.length/\(∀k,k<N->(vals k).jG=false)/\x=⟨.normal,oY bq l vals (fun _=>true) N,mems N⟩) \/
 ∃n y v,N=n+1/\l[n]?=some y/\y.lets=true/\vals n = .oU v/\(∀k,k<n->(vals k).jG=false)/\x=⟨.oU v,[],mems N⟩
theorem trace:∀ {l:List cX} {bq:Env} {M:aO} {x:Out},ib C l bq M=some x->∃(N:Nat) (vals:Nat->ag) (mems:Nat->aO),N<=l.length/\mems 0=M /\
  (∀(k:Nat)(o:cX),k<N->l[k]?=some o->JI C o (oY bq l vals (fun _=>true) k) (mems k) (vals k) (mems (k+1)))/\Yd l bq vals mems N x
 | [],bq,M,x,h=>by
  simp only[ib] at h; injection h with h
  exact⟨0,fun _ => .any,fun _=>M,ak _,rfl,fun k o hk=>dk,.inl ⟨rfl,fun k hk=>by rfl,h.symm⟩⟩
 |o::r,bq,M,x,h=>by
  have key:∀(v:ag)(M':aO),JI C o bq M v M'->v.jG=false->ib C r (rK bq o.dst v) M'=some x->∃(N:Nat) (vals:Nat->ag) (mems:Nat->aO),N<=(o::r).length/\mems 0=M /\
    (∀(k:Nat)(p:cX),k<N->(o::r)[k]?=some p->JI C p (oY bq (o::r) vals (fun _=>true) k) (mems k) (vals k) (mems (k+1)))/\Yd (o::r) bq vals mems N x:=by
   intro v M' hs hnp hr;obtain⟨N,vals,mems,h0,h1,h2,h3⟩:=trace hr;refine⟨N+1,fun i=>match i with|0=>v|i+1=>vals i,fun i=>match i with|0=>M|i+1=>mems i,by simpa using h0,rfl,fun k p hk hp=>?_,?_⟩
   ·grind [oY,AF]
   ·have np:∀n,(∀k,k<n->(vals k).jG=false)->∀k,k<n+1->((fun i=>match i with|0=>v|i+1=>vals i:Nat->ag) k).jG=false:=by
     grind
    rcases h3 with ⟨e1,e2,e3⟩|⟨n,y,u,e1,e2,e3,e4,e5,e6⟩
    ·refine .inl ⟨by simp[e1],np N e2,?_⟩
     rw[AF]; omega
    ·exact .inr ⟨n+1,y,u,by rw[e1],by simpa using e2,e3,e4,np n e5,e6⟩
  rcases pR h with ⟨y,h1,h2,⟨h3,h4⟩|⟨v,h3,h4,rfl⟩⟩|⟨t,want,h1,h2,h3⟩
  ·exact key y.1 y.2 (.inl ⟨h1,h2⟩) h3 h4
  ·refine⟨1,fun _=>y.1,fun i=>match i with|0=>M|_=>y.2,dk,rfl,fun k p hk hp=>?_,.inr ⟨0,o,v,rfl,rfl,h3,h4,fun k hk=>aM,rfl⟩⟩
   have:k=0:=aM;subst this;simp at hp; subst hp;exact .inl ⟨h1,h2⟩
  ·exact key (.tuple []) M (.inr ⟨t,want,h1,h2,rfl,rfl⟩) rfl h3
section
variable {bq:Env} {l:List cX} {vals:Nat->ag} {L L':Nat->Bool} {t:Nat}
def wr(l:List cX)(k t:Nat):Prop:=∃o,l[k]?=some o/\o.dst=some t
theorem LS(k:Nat)(h:wr l k t)(hL:L k=true):gW (oY bq l vals L (k+1)) t=vals k:=by
 obtain⟨o,h1,h2⟩:=h;rw[oY];simp_all [rK,gW]
theorem AG(k:Nat)(h:¬(wr l k t/\L k=true)):gW (oY bq l vals L (k+1)) t=gW (oY bq l vals L k) t:=by
 rw[oY];split
 ·rename_i o ho;split
  ·rename_i hk;unfold rK;split
   ·rename_i d hd;rw[gW,aj];rintro rfl;exact h ⟨⟨o,ho,hd⟩,hk⟩
   rfl
  rfl
 rfl
def vl{i:Nat}:∀n,i<=n->(∀k,i<=k->k<n->¬(wr l k t/\L k=true))->gW (oY bq l vals L n) t=gW (oY bq l vals L i) t
 |0,hi,_=>by rw[show i=0 by omega]
 |n+1,hi,h=>by
  by_cases he:i=n+1
  ·rw[he]
  ·rw[AG n (h n aM dk)];exact vl n aM fun k h1 h2=>h k h1 aM
theorem xO:∀n,(∀k,k<n->wr l k t->L k=L' k)->gW (oY bq l vals L n) t=gW (oY bq l vals L' n) t
 |0,_=>rfl
 |n+1,h=>by
  have ih:=xO n fun k hk=>h k aM
  by_cases hw:wr l n t
  ·cases hL:L n<;>grind [LS,AG]
  grind [AG]
end
def left(L:Nat->Bool):Nat->Nat
 |0=>0
 |k+1=>left L k+if L k then 0 else 1
theorem E6{L:Nat->Bool}:∀ {n},left L n=0->∀k,k<n->L k=true
 |0,_,k,hk=>aM
 |n+1,h,k,hk=>by
  rw[left] at h
  by_cases he:k=n
  ·grind
  ·exact E6 (n:=n) aM k aM
theorem Iq{L L':Nat->Bool}{i:Nat}(hi:L i=false)(hi':L' i=true)(hne:∀k,k≠i->L' k=L k):∀n,left L n=left L' n+if i<n then 1 else 0
 |0=>by rfl
 |n+1=>by
  have ih:=Iq hi hi' hne n;rw[left,left]
  grind
theorem yx{bs:List Nat}{l:List cX}:∀(r:List cX)(k m:Nat)(y:cX),(kE bs l k r)[m]?=some y->∃x,r[m]?=some x/\y.dst=x.dst/\y.op=x.op/\y.guard=x.guard
 | [],k,m,y,h=>by simp_all [kE]
 |x::r,k,m,y,h=>by
  rw[kE] at h;cases m with
  |zero=>grind
  |succ m =>
   obtain⟨z,h1,h2⟩:=yx r _ m y (by simpa using h)
   grind
def yz{bs:List Nat}{l:List cX}:∀(r:List cX)(k:Nat),(kE bs l k r).length=r.length
 | [],_=>rfl
 |x::r,k=>by rw[kE,aD,yz r _,aD]
theorem CL{ops:Array Oper}:∀ {r:List Oper} {g:List Bool} {l:List cX},sU P A ops g r=some l->l.length=r.length/\∀(k:Nat)(o:Oper),r[k]?=some o->∃x b,l[k]?=some x/\LJ P A ops b o=some x
 | [],g,l,h=>by grind [sU]
 |o::r,g,l,h=>by
  obtain⟨x,hx,h⟩:=bc h;obtain⟨l',hl,h⟩:=bc h;injection h with h; obtain⟨h1,h2⟩:=CL hl
  grind
structure Ord(ops:Array Oper)(l:List cX):Prop where
 len:l.length=ops.size
 VK:∀(k:Nat)(o:Oper)(e:Edge),ops[k]?=some o->e∈o.after.toList->Region.binds .any e=true->e.on<k
 alone:∀(k:Nat)(y:cX),l[k]?=some y->y.xm=true->y.op.xf=true
 opl:∀(k:Nat)(y:cX),l[k]?=some y->KY y.op=true
 Yr:∀(k i:Nat)(y x:cX),l[k]?=some y->y.uf=true->y.grow=false->l[i]?=some x->x.op.Pt=true->(i<k->ahead (qT ops.toList) i k=true)/\(k<i->ahead (qT ops.toList) k i=true)
 sep:∀(k i:Nat)(y x:cX),l[k]?=some y->y.sep≠[]->l[i]?=some x->x.op.Pt=true->(k<i->ahead (qT ops.toList) k i=true)/\(i<k->ahead (qT ops.toList) i k=true\/∃z,x.op.MU=some z/\z∈y.sep/\aie l i k z=true)
 meet:∀(i k:Nat)(x y:cX),i<k->l[i]?=some x->l[k]?=some y->meet x y=true->ahead (qT ops.toList) i k=true
 stop:∀(i k:Nat)(y:cX),l[k]?=some y->y.lets=true->i<l.length->(k<i->ahead (qT ops.toList) k i=true)/\(i<k->ahead (qT ops.toList) i k=true\/∀x,l[i]?=some x->x.op.Ps=false)
 eff:∀(i k:Nat)(x y:cX),i<k->l[i]?=some x->l[k]?=some y->x.uf=true->y.uf=true->ahead (qT ops.toList) i k=true\/(BI ops l i=true/\BI ops l k=true)
theorem adQ{ops:Array Oper}{l:List cX}(fx:l.length=ops.size)(h:GS ops (qT ops.toList) l=true):Ord ops l:=by
 unfold GS at h
 have hk:∀(k:Nat)(y:cX)(o:Oper),l[k]?=some y->ops[k]?=some o->(o.after.toList.all (fun e => !Region.binds .any e||decide (e.on<k))=true/\((!y.xm||y.op.xf)&&KY y.op)=true/\((!(y.uf && !y.grow)||fenced (qT ops.toList) l k)&&(y.sep.isEmpty||Cn (qT ops.toList) l k y.sep))=true/\(!y.lets||Lm (qT ops.toList) l k)=true) /\
   ∀(i:Nat)(x:cX),i<k->l[i]?=some x->(!Go.Abs.meet x y||ahead (qT ops.toList) i k)=true/\(!(x.uf&&y.uf)||(ahead (qT ops.toList) i k||(BI ops l i&&BI ops l k)))=true:=by
  intro k y o hy ho;have h1:=bF.1 h k (gH.2 (aJ hy));rw[eY,hy,ho] at h1;rw[bm,bm,bm] at h1;obtain⟨⟨⟨a1,a2⟩,a3⟩,a45⟩:=h1;rw[bm] at a45;obtain⟨a5,a4⟩:=a45;refine⟨⟨a1,a2,a3,a5⟩,fun i x hi hx=>?_⟩
  have h2:=bF.1 a4 i (gH.2 hi);rw[eY,hx] at h2;simpa[bm] using h2
 have hop:∀k,k<l.length->∃o,ops[k]?=some o:=fun k hk=>⟨ops[k]'(by omega),bf aM⟩
 refine⟨fx,fun k o e ho he hb=>?_,fun k y hy hn=>?_,fun k y hy=>?_,fun k i y x hy hE hg hx hl=>?_,fun k i y x hy hsp hx hl=>?_,fun i k x y hi hx hy hm=>?_,fun i k y hy hl hi=>?_,fun i k x y hi hx hy hE hE'=>?_⟩
 ·grind
 ·grind
 ·obtain⟨o,ho⟩:=hop k (aJ hy);have:=(hk k y o hy ho).1.2.1;rw[bm] at this;exact this.2
 ·obtain⟨o,ho⟩:=hop k (aJ hy);have h1:=(bm _ _▸(hk k y o hy ho).1.2.2.1:_/\_).1;have h2:fenced (qT ops.toList) l k=true:=by simpa[hE,hg] using h1
  have h3:=bF.1 h2 i (gH.2 (aJ hx));rw[eY,hx] at h3;simp only[hl,cG,dE] at h3;refine⟨fun hik=>by rw[av hik] at h3; exact h3,fun hki=>?_⟩
  rw[aj aM] at h3;have:¬i=k:=aM;simpa[this] using h3
 ·obtain⟨o,ho⟩:=hop k (aJ hy);have h1:=(bm _ _▸(hk k y o hy ho).1.2.2.1:_/\_).2
  have h2:Cn (qT ops.toList) l k y.sep=true:=by
   grind
  have h3:=bF.1 h2 i (gH.2 (aJ hx));rw[eY,hx] at h3;simp only[hl,cG,dE] at h3;refine⟨fun hki=>?_,fun hik=>?_⟩
  ·have hne:(i==k)=false:=ic;rw[hne,aj aM,dE] at h3;exact h3
  ·have hne:(i==k)=false:=ic;rw[hne,av hik,dE,cV] at h3;rcases h3 with h3|h3
   ·exact .inl h3
   ·right;split at h3
    ·rename_i z hz;rw[bm] at h3;exact⟨z,hz,by simpa using h3.1,h3.2⟩
    ·cases h3
 ·obtain⟨o,ho⟩:=hop k (aJ hy);have:=((hk k y o hy ho).2 i x hi hx).1;simpa[hm] using this
 ·obtain⟨o,ho⟩:=hop k (aJ hy);have h1:=(hk k y o hy ho).1.2.2.2;rw[hl,cG,dE] at h1;have h2:=bF.1 h1 i (gH.2 hi);refine⟨fun hki=>?_,fun hik=>?_⟩
  ·have hne:(i==k)=false:=ic;rw[hne,aj aM,dE] at h2;exact h2
  ·have hne:(i==k)=false:=ic;rw[hne,av hik,dE,cV] at h2;refine h2.imp id fun h3 x hx=>?_
   rw[eY,hx] at h3;simpa using h3
 ·obtain⟨o,ho⟩:=hop k (aJ hy);have:=((hk k y o hy ho).2 i x hi hx).2;simpa[hE,hE'] using this
structure Gd(n:Nat)(mems:Nat->aO)(E A:Nat->Bool)(L:Nat->Bool)(q:Nat)(G:aO):Prop where
 qn:q<=n
 last:q=0\/∃p,q=p+1/\E p=true/\L p=true
 rest:∀k,q<=k->k<n->E k=true->L k=false
 len:G.length=(mems q).length
 at':∀id:Nat,G[id]?=(mems q)[id]?\/(G[id]?=some .vM/\∃k,k<q/\A k=true/\L k=false/\(mems k).length=id)
 un:∀k,k<q->A k=true->L k=false->G[(mems k).length]?=some .vM
theorem Gd.full{n:Nat}{mems:Nat->aO}{E A L:Nat->Bool}{q:Nat}{G:aO}(g:Gd n mems E A L q G)(h:∀k,k<q->A k=true->L k=true):G=mems q:=by
 apply dA;intro id;rcases g.at' _ with h1|⟨_,k,h1,h2,h3,_⟩
 ·omega
 grind
theorem gn.adC{j:J}{M:aO}{w:World}{x:ag}{v:Value}(h:gn j M w x v){id:Nat}(hid:id∈x.iz):M[id]?≠some .vM:=by
 intro hg;cases h with
 |plain h=>cases h<;>simp[ag.iz] at hid
 |c0=>simp_all [ag.iz]
 |own hk=>grind [ag.iz]
 |agg=>grind [ag.iz]
 |tuple=>simp[ag.iz] at hid
 |ptr _ hc=>grind [ag.iz]
 |ju=>simp_all [ag.iz]
 |func=>simp_all [ag.iz]
 |gJ hc=>grind [ag.iz]
 |jI hc=>grind [ag.iz]
 |iB=>grind [ag.iz]
 |cY _ _ hM=>simp[ag.iz] at hid; subst hid; cases hM _ hg
 |iI _ _ hM=>simp[ag.iz] at hid; subst hid; cases hM _ hg
 |rP=>simp[ag.iz] at hid
 |jX hc=>grind [ag.iz]
 |any=>simp_all [ag.iz]
def wo{mems:Nat->aO}{i:Nat}:∀n,i<=n->(∀k,i<=k->k<n->mems k <+: mems (k+1))->mems i <+: mems n
 |0,hi,_=>by rw[show i=0 by omega]; simp
 |n+1,hi,h=>by
  by_cases he:i=n+1
  ·rw[he]; simp
  ·exact(wo n aM fun k h1 h2=>h k h1 aM).trans (h n aM dk)
def cE.Dy{j:J}{M:aO}{w:World}{bq env':Env}{a:Act}(h:cE j M w bq a)(he:∀t,gW env' t=gW bq t):cE j M w env' a:=⟨fun t=>by rw[he t]; exact h.at' t,h.gl⟩
theorem I2(hmix:P.follows .mixedOrders=true)(hC:pC P C){rd:Option Nat}{nd:Nat}{id:Nat}{ops:Array Oper}{l0 l:List cX}(hl0:sU P A ops [] ops.toList=some l0)(hg:A8 ops l0=some l)
  {bq:Env} {M:aO} {x:Out} (hx:ib C l bq M=some x) {j:J} {w:World} {a:Act} (hr:Rel j M w) (hG:sS j M w) (he:cE j M w bq a) (hs:a.tmps.size=A.n) {Q:Exit->Act->World->Prop}
  (hQ:∀a' w' j',Rel j' x.mem w'->cE j' x.mem w' x.bq a'->Ext j M w j' x.mem w'->a'.tmps.size=A.n->a'.defers=a.defers->Q (rV x.e) a' w'):(Code.region id ops true).wpIn (Wd rd) nd P Q a w:=by
 obtain⟨c1,c2⟩:=CL hl0;have hlen0:l0.length=ops.size:=by simpa using c1
 unfold A8 at hg;split at hg
 case isFalse=>cases hg
 rename_i hok;injection hg with hg
 rw[hg] at hok;have fx:l.length=ops.size:=by rw[<-hg,yz]; exact hlen0
 have od:=adQ fx hok
 have hop:∀(k:Nat)(y:cX),l[k]?=some y->∃o x0 b,ops[k]?=some o/\LJ P A ops b o=some x0/\y.dst=x0.dst/\y.op=x0.op/\y.guard=x0.guard:=by
  intro k y hy;rw[<-hg] at hy;obtain⟨x0,h1,h2,h3,h4⟩:=yx _ _ _ _ hy;have hk:k<ops.size:=by rw[<-hlen0]; exact aJ h1
  have ho:ops[k]?=some ops[k]:=bf hk;obtain⟨x1,b,h5,h6⟩:=c2 k ops[k] (by simp[hk])
  rw[h1] at h5; cases h5;exact⟨_,x0,b,ho,h6,h2,h3,h4⟩
 obtain⟨N,vals,mems,hN,m0,st,hxe⟩:=trace hx
 let E:Nat->Bool:=fun k=>match l[k]? with|some y=>y.uf|none=>false
 have hE:∀ {k:Nat} {y:cX},l[k]?=some y->E k=y.uf:=fun {k y} h=>by simp only[E,h]
 have hEs:∀ {k:Nat},E k=true->∃y,l[k]?=some y/\y.uf=true:=fun {k} h=>by
  simp only[E] at h;split at h
  ·exact⟨_,by assumption,h⟩
  ·cases h
 -- memory stays at what is no effect,and grows at what may
 have stays:∀k,k<N->E k=false->mems (k+1)=mems k:=by
  intro k hkN hEk;have hk:k<l.length:=aM;have hy:=ai hk;rw[hE hy] at hEk;rcases st k _ hkN hy with ⟨_,h⟩|⟨_,_,_,_,_,h⟩
  ·rcases rU h with ⟨hn,hi,h1⟩|⟨hn,_,h1⟩|⟨hn,_,_,h1⟩
   ·exact(Hu (od.alone k _ hy hn) h1 hi).1
   all_goals
    have hE0:l[k].op.Ps=false:=by simpa[cX.uf,hn] using hEk
    cases hl:l[k].op.Pt with
    |true=>exact(Iy hl h1).1
    |false=>exact(MM hE0 hl h1).1
  ·exact h
 have grows:∀k (y:cX),k<N->l[k]?=some y->y.uf=true->y.grow=true->mems k <+: mems (k+1)\/(y.sep≠[]/\za (oY bq l vals (fun _=>true) k) (mems k) (mems (k+1)) y.sep):=by
  intro k y hkN hy hEy hgr;rcases st k y hkN hy with ⟨_,h⟩|⟨_,_,_,_,_,h⟩
  ·rcases rU h with ⟨hn,_,_⟩|⟨_,hg',_⟩|⟨_,_,hp,_⟩
   ·simp[cX.uf,hn] at hEy
   ·rw[hgr] at hg'; cases hg'
   ·exact hp
  ·rw[h]; exact .inl (iv _)
 let A0:Nat->Bool:=BI ops l
 have hA:∀k,k<N->A0 k=true->∃(y:cX) (o:Oper) (V:Nat->ag) (B:dg),l[k]?=some y/\ops[k]?=some o/\y.guard=none/\E k=true/\vals k=V (mems k).length/\mems (k+1)=mems k++[B]/\(V (mems k).length).jG=false /\
   ∀ {env':Env} {j:J} {G:aO} {w:World} {a:Act} {p:Nat} {K:Act->World->Prop} {KP:Value->World->Prop},(∀t,t∈y.op.lD->gW env' t=gW (oY bq l vals (fun _=>true) k) t)->Rel j G w->sS j G w->cE j G w env' a->G[p]?=some .vM ->
    (∀v w',iH j G w (V p,G.set p B) v w'->K (a.put o.dst v) w')->tU P o a w K KP:=by
  intro k hkN hAk;have hk:k<l.length:=aM;obtain⟨y,hy⟩:∃y,l[k]?=some y:=⟨_,ai hk⟩;obtain⟨o,ho⟩:∃o,ops[k]?=some o:=⟨_,bf aM⟩;obtain⟨o',x0,b,ho',hco,f1,f2,f3⟩:=hop k _ hy;rw[ho] at ho'; cases ho';obtain⟨g1,_⟩:=Ax hco;rw[<-f2] at g1;simp only[A0,BI,ho,eY,hy,bm,Option.isNone_iff_eq_none] at hAk;obtain⟨k2,k3⟩:=hAk
  have h1:ei C (oY bq l vals (fun _=>true) k) (mems k) y.op=some (vals k,mems (k+1)):=by
   rcases st k y hkN hy with ⟨_,h⟩|⟨t',want,h,_⟩
   ·rcases rU h with ⟨_,_,h1⟩|⟨_,_,h1⟩|⟨_,_,_,h1⟩<;>exact h1
   ·rw[k3] at h; cases h
  have hnm:y.op.xf=false->y.xm=false:=fun hc=>by
   cases hn:y.xm with
   |false=>rfl
   |true=>have:=od.alone k y hy hn; rw[hc] at this; cases this
  split at k2
  ·rename_i cs hcs;split at k2
   case h_2=>cases k2
   rename_i t hot;have hn:=hnm (by rw[hcs]; rfl)
   rw[hcs] at h1 g1;simp only[ei] at h1;injection h1 with h1
   refine⟨y,o,fun p => .ptr p 0,.cells cs,hy,ho,k3,by rw[hE hy]; simp[cX.uf,hn,hcs,kb.Ps],(congrArg Prod.fst h1).symm,(congrArg Prod.snd h1).symm,rfl,fun {env' j G w a p K KP} _ hr hG he hp hK=>?_⟩
   obtain⟨us,tt,hRC,hRan⟩:=Nh hot g1 a w;exact .inl ⟨_,_,hRan,hK _ _ (HP hr hp (hRC _ _ _) tt)⟩
  ·rename_i z hcs;split at k2
   case h_2=>cases k2
   rename_i t yy hot;have hn:=hnm (by rw[hcs]; rfl)
   rw[hcs] at h1 g1;simp only[ei] at h1;obtain⟨cs,hcc,h1⟩:=bu h1;injection h1 with h1
   have hz:ew yy=some z:=by
    simp only[Nt,hot] at g1;obtain⟨z',hz',g1⟩:=bc g1;injection g1 with g1; cases g1
    exact hz'
   refine⟨y,o,fun p => .ptr p 0,.cells cs,hy,ho,k3,by rw[hE hy]; simp[cX.uf,hn,hcs,kb.Ps],(congrArg Prod.fst h1).symm,(congrArg Prod.snd h1).symm,rfl,fun {env' j G w a p K KP} hag hr hG he hp hK=>?_⟩
   have hev:=cQ (x:=z) (fun t ht=>hag t (by rw[hcs]; exact ht))
   exact .inl ⟨_,_,.inl (by simp[execOp,hot,Instr.box,newVar,newRow]),hK _ _ (HP hr hp (tJ (cU he hz) (by rw[hev]; exact hcc)) t)⟩
  ·rename_i f args hcs;split at k2
   case h_2=>cases k2
   rename_i c hot;split at k2
   case h_2=>cases k2
   rename_i f0 hcal;have hn:=hnm (by rw[hcs]; rfl)
   rw[hcs] at h1 g1;obtain⟨xs,sz,n,hx0,_⟩:=yK hC hot hcal g1 h1;refine⟨y,o,fun p => .slice (.own p) xs,.tick sz n,hy,ho,k3,by rw[hE hy]; simp[cX.uf,hn,hcs,kb.Ps],congrArg Prod.fst hx0,congrArg Prod.snd hx0,rfl,fun {env' j G w a p K KP} hag hr hG he hp hK=>?_⟩
   have h2:ei C env' (mems k) (.wE f args)=some (vals k,mems (k+1)):=by
    rw[(Ej (C:=C) (M:=mems k) (op := .wE f args) fun t ht=>hag t (by rw[hcs]; exact ht)).1]
    exact h1
   obtain⟨xs',sz',n',hx1,hrun⟩:=yK hC hot hcal g1 h2;rw[hx0] at hx1;injection hx1 with e1 e2
   injection e1 with _ e1
   have e3:=iJ e2;injection e3 with e3 _
   injection e3 with e3 e4
   subst e1; subst e3; subst e4;exact hrun hr hG he hp hK
  ·cases k2
 have hAE:∀k,k<N->A0 k=true->E k=true:=fun k hk h=>by
  obtain⟨y,o,V,B,_,_,_,h1,_⟩:=hA k hk h;exact h1
 -- where nothing but boxes is made memory grows
 have pref:∀a b,a<=b->b<=N->(∀k,a<=k->k<b->E k=true->A0 k=true)->mems a <+: mems b:=fun a b hab hb hk=>wo b hab fun k h1 h2=>by
  cases hEk:E k with
  |false=>rw[stays k aM hEk]; exact iv _
  |true =>
   obtain⟨y,o,V,B,_,_,_,_,_,h3,_⟩:=hA k aM (hk k h1 h2 hEk);rw[h3]; exact mn _ _
 have same:∀a b,a<=b->b<=N->(∀k,a<=k->k<b->E k=false)->mems b=mems a:=by
  intro a b hab;induction b with
  |zero=>intro _ _; rw[show a=0 by omega]
  |succ b ih =>
   intro hb hk
   by_cases he:a=b+1
   ·rw[he]
   ·rw[stays b aM (hk b aM aM),ih aM aM fun k h1 h2=>hk k h1 aM]
 -- where a box of that length is made
 have XH:∀a b,a<=b->b<=N->(∀k,a<=k->k<b->E k=true->A0 k=true)->∀id,(mems a).length<=id->id<(mems b).length->∃k,a<=k/\k<b/\A0 k=true/\(mems k).length=id:=by
  intro a b hab;induction b with
  |zero=>intro _ _ id h1 h2; rw[show a=0 by omega] at h1; omega
  |succ b ih =>
   intro hb hk id h1 h2
   by_cases he:a=b+1
   ·rw[he] at h1; omega
   ·cases hEb:E b with
    |false =>
     rw[stays b aM hEb] at h2;obtain⟨k,g1,g2,g3⟩:=ih aM aM (fun k h1 h2=>hk k h1 aM) id h1 h2
     exact⟨k,g1,aM,g3⟩
    |true =>
     have hAb:=hk b aM aM hEb;obtain⟨y,o,V,B,_,_,_,_,_,h3,_⟩:=hA b aM hAb;rw[h3] at h2;simp only[aR,aD,aF] at h2
     by_cases hid:id<(mems b).length
     ·obtain⟨k,g1,g2,g3⟩:=ih aM aM (fun k h1 h2=>hk k h1 aM) id h1 hid
      exact⟨k,g1,aM,g3⟩
     ·exact⟨b,aM,aM,hAb,aM⟩
 refine wpIn_region_any hmix ?_
 have key:∀(fuel:Nat)(listed:Array Bool)(a1:Act)(w1:World),listed.size=ops.size->left (fun k=>listed.getD k false) l.length=fuel->Down ops (fun k=>listed.getD k false)->(∀k,k<l.length->listed.getD k false=true->k<N/\(vals k).jG=false) ->
   (∃j1 q G,Gd l.length mems E A0 (fun k=>listed.getD k false) q G/\Rel j1 G w1/\cE j1 G w1 (oY bq l vals (fun k=>listed.getD k false) l.length) a1 /\
    Ext j M w j1 G w1/\a1.tmps.size=A.n/\a1.defers=a.defers)->wpAnyIn (Wd rd) nd P .any ops Q fuel listed a1 w1:=by
  have ends:∀(listed:Array Bool)(a1:Act)(w1:World),(∀k,k<l.length->listed.getD k false=true) ->
    (∃j1 q G,Gd l.length mems E A0 (fun k=>listed.getD k false) q G/\Rel j1 G w1/\cE j1 G w1 (oY bq l vals (fun k=>listed.getD k false) l.length) a1 /\
    Ext j M w j1 G w1/\a1.tmps.size=A.n/\a1.defers=a.defers)->(∀k,k<l.length->listed.getD k false=true->k<N/\(vals k).jG=false)->Q .normal a1 w1:=by
   intro listed a1 w1 hall hI hin;obtain⟨j1,q,G,gp,r1,e1,x1,s1,d1⟩:=hI;rcases hxe with ⟨n1,_,n3⟩|⟨n,y,v,n1,n2,_,n4,_,_⟩
   ·have hm:G=mems l.length:=by
     have hqn:=gp.qn;rw[gp.full fun k hk _=>hall k aM,same q l.length gp.qn aM fun k h1 h2=>?_]
     cases hEk:E k with
     |false=>rfl
     |true =>
      have:=gp.rest k h1 h2 hEk;rw[hall k h2] at this; cases this
    rw[hm] at r1 e1 x1;rw[n3,n1] at hQ;exact hQ a1 w1 j1 r1 (e1.Dy fun t=>xO _ fun k hk _=>(hall k hk).symm) x1 s1 d1
   ·have hnl:=aJ n2;have:=(hin n hnl (hall n hnl)).2;rw[n4] at this; cases this
  intro fuel;induction fuel with
  |zero =>
   intro listed a1 w1 hsz hleft hd hin hI;have hall:=E6 hleft;refine⟨?_,ends listed a1 w1 hall hI hin⟩;apply List.eq_nil_iff_forall_not_mem.2;intro i hi;obtain⟨h1,oi,h2,_⟩:=mem_ready.1 hi;have hil:i<l.length:=by rw[fx]; exact(fy.1 h2).1
   have h3:=hall i hil;simp only[du] at h1 h3;have:i<listed.size:=aM;rw[bf this] at h1 h3;simp at h1 h3;rw[h1] at h3; cases h3
  |succ fuel ih =>
   intro listed a1 w1 hsz hleft hd hin hI;refine⟨fun hnil=>?_,fun i hi=>?_⟩
   ·refine ends listed a1 w1 ?_ hI hin;intro k;induction k using Nat.strongRecOn with
    |_ k ihk =>
     intro hk;cases hL:listed.getD k false with
     |true=>rfl
     |false =>
      exfalso;have hks:k<ops.size:=aM;have ho:ops[k]?=some ops[k]:=bf hks
      have:k∈Region.ready .any ops listed:=by
       refine mem_ready.2 ⟨?_,_,ho,fun e he hb=>?_⟩
       ·simp only[du] at hL ⊢;have hkl:k<listed.size:=aM;rw[bf hkl] at hL ⊢;simpa using hL
       ·have:=od.VK k _ e ho (by simpa using he) hb
        exact ihk e.on this aM
      rw[hnil] at this;cases this
   ·obtain⟨hun0,o,ho,hall⟩:=mem_ready.1 hi;obtain⟨j1,q,G,gp,r1,e1,x1,s1,d1⟩:=hI;have his:i<ops.size:=(fy.1 ho).1;have hil:i<l.length:=aM;have hils:i<listed.size:=aM
    have hLi:listed.getD i false=false:=by
     simp only[du] at hun0 ⊢;rw[bf hils] at hun0 ⊢;simpa using hun0
    have hL'i:(listed.setIfInBounds i true).getD i false=true:=by
     simp only[du,gX,hils,aE];rfl
    have hL'ne:∀k,k≠i->(listed.setIfInBounds i true).getD k false=listed.getD k false:=fun k hk=>by
     simp only[du,fi (dM hk)]
    have hy:=ai hil;obtain⟨o',x0,b,ho',hco,f1,f2,f3⟩:=hop i _ hy;rw[ho] at ho'; cases ho';obtain⟨g1,g2,_,g4,g5⟩:=Ax hco;rw[<-f2] at g1;rw[<-f1] at g2;rw[<-f3] at g5;generalize hyy:l[i]=y at *;have hall':∀e,e∈o.after.toList->Region.binds .any e=true->listed.getD e.on false=true:=fun e h1 h2=>hall e (by simpa using h1) h2
    have rdy:∀k,ahead (qT ops.toList) k i=true->listed.getD k false=true:=fun k h=>Hs (L:=fun k=>listed.getD k false) hd od.VK ho hall' h
    have nol:∀k,k<l.length->ahead (qT ops.toList) i k=true->listed.getD k false=false:=fun k hk h=>by
     cases hL:listed.getD k false with
     |false=>rfl
     |true =>
      have:=Cz (L:=fun k=>listed.getD k false) hd od.VK k h aM hL
      rw[hLi] at this; cases this
    have hiN:i<N:=by
     rcases bK i N with h|h
     ·exact h
     rcases hxe with ⟨n1,_,_⟩|⟨n,y',v,n1,n2,n3,n4,_,_⟩
     ·omega
     ·have h5:=rdy n ((od.stop i n y' n2 n3 hil).1 aM);have:=(hin n (aJ n2) h5).2;rw[n4] at this; cases this
    have agree:∀t,t∈y.reads->gW (oY bq l vals (fun k=>listed.getD k false) l.length) t=gW (oY bq l vals (fun _=>true) i) t:=by
     intro t ht;refine(vl l.length (Nat.le_of_lt hil) fun k h1 h2=>?_).trans (xO i fun k hk hw=>?_)
     ·rintro⟨⟨x',hx',hdx⟩,hLk⟩
      by_cases hki:k=i
      ·subst hki; rw[hLi] at hLk; cases hLk
      ·have hm:meet y x'=true:=by simp[meet,hdx,ht]
       rw[nol k h2 (od.meet i k y x' aM hy hx' hm)] at hLk;cases hLk
     ·obtain⟨x',hx',hdx⟩:=hw;have hm:meet x' y=true:=by simp[meet,hdx,ht]
      exact rdy k (od.meet k i x' y hk hx' hy hm)
    have newEnv:∀t,gW (oY bq l vals (fun k=>(listed.setIfInBounds i true).getD k false) l.length) t=gW (rK (oY bq l vals (fun k=>listed.getD k false) l.length) y.dst (vals i)) t:=by
     intro t
     by_cases hdt:y.dst=some t
     ·rw[hdt];simp only[rK,gW,aE];rw[vl (i:=i+1) l.length aM fun k h1 h2=>?_]
      ·exact LS i ⟨y,hy,hdt⟩ hL'i
      ·rintro⟨⟨x',hx',hdx⟩,hLk⟩;rw[hL'ne k aM] at hLk;have hm:meet y x'=true:=by simp[meet,hdt,hdx]
       rw[nol k h2 (od.meet i k y x' aM hy hx' hm)] at hLk;cases hLk
     ·have e2:gW (rK (oY bq l vals (fun k=>listed.getD k false) l.length) y.dst (vals i)) t=gW (oY bq l vals (fun k=>listed.getD k false) l.length) t:=by
       unfold rK;split
       ·rename_i d hd';rw[gW,aj];rintro rfl;exact hdt hd'
       ·rfl
      rw[e2];refine xO _ fun k _ hw=>hL'ne k ?_
      rintro rfl;obtain⟨x',hx',hdx⟩:=hw;rw[hy] at hx'; cases hx';exact hdt hdx
    have hqN:q<=N:=by
     rcases gp.last with h|⟨p,hp1,hp2,hp3⟩
     ·omega
     ·obtain⟨z0,hz0,_⟩:=hEs hp2;have:=(hin p (aJ hz0) hp3).1;omega
    -- effects that are ordered
    have effA:∀a b,a<b->E a=true->E b=true->(A0 a=false\/A0 b=false)->ahead (qT ops.toList) a b=true:=by
     intro a b hab ha hb hn;obtain⟨x',hx',hE'⟩:=hEs ha;obtain⟨y',hy',hE2⟩:=hEs hb;rcases od.eff a b x' y' hab hx' hy' hE' hE2 with h|⟨h1,h2⟩
     ·exact h
     ·rcases hn with hn|hn
      ·rw[show A0 a=true from h1] at hn; cases hn
      ·rw[show A0 b=true from h2] at hn; cases hn
    have inL:∀a b,b<l.length->ahead (qT ops.toList) a b=true->listed.getD b false=true->listed.getD a false=true:=fun a b hb h1 h2=>Cz (L:=fun k=>listed.getD k false) hd od.VK b h1 aM h2
    -- what is between one that is not done and the last that is
    have betw:∀k,k<q->E k=true->A0 k=true->listed.getD k false=false->∀m,k<=m->m<q->E m=true->A0 m=true:=by
     intro k hkq hEk hAk hLk m h1 h2 hEm;cases hAm:A0 m with
     |true=>rfl
     |false =>
      exfalso;rcases gp.last with h|⟨p,hp1,hp2,hp3⟩
      ·omega
      have hqn:=gp.qn
      have hkm:k<m:=by
       rcases bK k m with h|h
       ·exact h
       ·have:k=m:=aM;subst this; rw[hAk] at hAm; cases hAm
      have a1:=effA k m hkm hEk hEm (.inr hAm)
      have hLm:listed.getD m false=true:=by
       by_cases hmp:m=p
       ·rw[hmp]; exact hp3
       ·exact inL m p aM (effA m p aM hEm hp2 (.inl hAm)) hp3
      rw[inL k m aM a1 hLm] at hLk; cases hLk
    have gC:E i=false->Gd l.length mems E A0 (fun k=>(listed.setIfInBounds i true).getD k false) q G:=by
     intro hEi;have hne:∀k,E k=true->(listed.setIfInBounds i true).getD k false=listed.getD k false:=fun k hk=>hL'ne k (by rintro rfl; rw[hEi] at hk; cases hk)
     refine⟨gp.qn,gp.last.imp (fun h=>h) fun⟨p,h1,h2,h3⟩=>⟨p,h1,h2,by simp only[hne p h2]; exact h3⟩,fun k h1 h2 h3=>by simp only[hne k h3]; exact gp.rest k h1 h2 h3,gp.len,fun id=>?_,fun k h1 h2 h3=>?_⟩
     ·rcases gp.at' id with h|⟨h,k,h1,h2,h3,h4⟩
      ·exact .inl h
      ·exact .inr ⟨h,k,h1,h2,by simp only[hne k (hAE k aM h2)]; exact h3,h4⟩
     ·simp only[hne k (hAE k aM h2)] at h3;exact gp.un k h1 h2 h3
    have gB:E i=true->A0 i=false->G=mems i/\Gd l.length mems E A0 (fun k=>(listed.setIfInBounds i true).getD k false) (i+1) (mems (i+1)):=by
     intro hEi hAi
     have hqi:q<=i:=by
      rcases gp.last with h|⟨p,hp1,hp2,hp3⟩
      ·omega
      ·have hqn:=gp.qn;rcases bK i p with h|h
       ·rw[inL i p aM (effA i p h hEi hp2 (.inl hAi)) hp3] at hLi; cases hLi
       ·by_cases hip:i=p
        ·subst hip; simp only[hLi] at hp3; cases hp3
        ·omega
     have done:∀k,k<i->E k=true->listed.getD k false=true:=fun k hk hEk=>rdy k (effA k i hk hEk hEi (.inr hAi))
     refine⟨?_,aM,.inr ⟨i,rfl,hEi,hL'i⟩,fun k h1 h2 h3=>by simp only[hL'ne k (show k≠i by omega)]; exact gp.rest k aM h2 h3,rfl,fun id => .inl rfl,fun k h1 h2 h3=>?_⟩
     ·rw[gp.full fun k hk hAk=>done k aM (hAE k aM hAk)]
      refine(same q i hqi aM fun k h1 h2=>?_).symm
      cases hEk:E k with
      |false=>rfl
      |true =>
       have:=gp.rest k h1 aM hEk;simp only[done k h2 hEk] at this; cases this
     ·have hki:k≠i:=by rintro rfl; rw[hAi] at h2; cases h2
      simp only[hL'ne k hki,done k aM (hAE k aM h2)] at h3;cases h3
    have down':Down ops (fun k=>(listed.setIfInBounds i true).getD k false):=by
     intro k p e hp hL he' hb
     have hsome:listed.getD e.on false=true:=by
      by_cases hki:k=i
      ·subst hki;rw[ho] at hp; cases hp;exact hall' e he' hb
      ·exact hd k p e hp (by show listed.getD k false=true; rw[<-hL'ne k hki]; exact hL) he' hb
     show(listed.setIfInBounds i true).getD e.on false=true
     by_cases hei:e.on=i
     ·rw[hei]; exact hL'i
     ·rw[hL'ne _ hei]; exact hsome
    have left':left (fun k=>(listed.setIfInBounds i true).getD k false) l.length=fuel:=by
     have:=Iq (L:=fun k=>listed.getD k false) (L':=fun k=>(listed.setIfInBounds i true).getD k false) (i:=i) hLi hL'i (fun k hk=>hL'ne k hk) l.length
     rw[av hil] at this;omega
    have hin':(vals i).jG=false->∀k,k<l.length->(listed.setIfInBounds i true).getD k false=true->k<N/\(vals k).jG=false:=by
     intro hnp k hk hL
     by_cases hki:k=i
     ·rw[hki]; exact⟨hiN,hnp⟩
     ·rw[hL'ne k hki] at hL; exact hin k hk hL
    have hgslot:∀t want,y.guard=some (t,want)->t∈y.reads:=fun t want h=>by simp[cX.reads,h]
    have hopslot:∀t,t∈y.op.lD->t∈y.reads:=fun t h=>by simp[cX.reads,h]
    unfold wpOpIn;rw[ho];simp only;rcases st i y hiN hy with ⟨hgd,hstep⟩|⟨t,want,hgt,hgv,hv0,hm0⟩
    ·rw[av (zf e1 s1 g5 fun t want h=>by rw[agree t (hgslot t want h)]; exact hgd t want h)]
     cases hAi:A0 i with
     |true =>
      obtain⟨y',o',V,B,n1,n2,n3,hEi,n6,n7,npan,hruns⟩:=hA i hiN hAi;rw[hy] at n1; cases n1;rw[ho] at n2; cases n2;have hag:∀t,t∈y.op.lD->gW (oY bq l vals (fun k=>listed.getD k false) l.length) t=gW (oY bq l vals (fun _=>true) i) t:=fun t ht=>agree t (hopslot t ht)
      have fin:∀q' G' G1 j1' p,Gd l.length mems E A0 (fun k=>(listed.setIfInBounds i true).getD k false) q' G'->Rel j1' G1 w1->Ext j1 G w1 j1' G1 w1->G1[p]?=some .vM->p=(mems i).length->G'=G1.set p B ->
        o.wpIn (Wd rd) nd P a1 w1 (wpAnyIn (Wd rd) nd P .any ops Q fuel (listed.setIfInBounds i true)) Q:=by
       intro q' G' G1 j1' p hG' hr1 hx1 hp hpe hGe;refine tU.wpIn (KP:=fun _ _=>False) (zP g1) (hruns hag hr1 ((hG.mono x1).mono hx1) (e1.mono hx1) hp ?_) fun u w' h=>h.elim
       rintro v w' ⟨j',p1,p2,p3⟩;rw[<-hGe] at p1 p2 p3;simp only at p1 p2 p3;refine ih (listed.setIfInBounds i true) _ _ (by simpa using hsz) left' down' (hin' (by rw[n6]; exact npan)) ⟨j',q',G',hG',p1,?_,x1.trans (hx1.trans p2),by rw[xp]; exact s1,by rw[put_defers]; exact d1⟩
       refine cE.Dy ?_ newEnv;rw[g2,n6,<-hpe];exact(e1.mono (hx1.trans p2)).put s1 g4 p3
      rcases bK i q with hiq|hqi
      ·-- its place is there
       have hu:=gp.un i hiq hAi hLi;have hpi:=pref (i+1) q aM hqN fun k h1 h2=>betw i hiq hEi hAi hLi k aM h2
       have hat:(mems q)[(mems i).length]?=some B:=by
        obtain⟨t',ht'⟩:=hpi;rw[<-ht',n7,dW,bA (ak _)];simp
       refine fin q (G.set (mems i).length B) G j1 (mems i).length ⟨gp.qn,?_,fun k h1 h2 h3=>by simp only[hL'ne k (show k≠i by omega)]; exact gp.rest k h1 h2 h3,by simpa using gp.len,fun id=>?_,fun k h1 h2 h3=>?_⟩ r1 (Ext.refl _ _ _) hu rfl rfl
       ·refine gp.last.imp (fun h=>h) fun⟨p,h1,h2,h3⟩=>⟨p,h1,h2,?_⟩
        have hpi:p≠i:=by rintro rfl; simp only[hLi] at h3; cases h3
        simp only[hL'ne p hpi]; exact h3
       ·by_cases hid:(mems i).length=id
        ·subst hid;rw[dZ (aJ hu)];exact .inl hat.symm
        ·rw[cT hid];rcases gp.at' id with h|⟨h,k,h1,h2,h3,h4⟩
         ·exact .inl h
         ·have hki:k≠i:=by rintro rfl; exact hid h4
          refine .inr ⟨h,k,h1,h2,?_,h4⟩;simp only[hL'ne k hki]; exact h3
       ·have hki:k≠i:=by rintro rfl; simp only[hL'i] at h3; cases h3
        simp only[hL'ne k hki] at h3
        have hne:(mems i).length≠(mems k).length:=by
         rcases bK k i with h|h
         ·obtain⟨_,_,_,_,_,_,_,hEk,_,m7,_⟩:=hA k aM h2;have:=(pref (k+1) i aM aM fun m g1 g2=>betw k h1 hEk h2 h3 m aM aM).length_le
          rw[m7] at this;simp at this; omega
         ·have:=(pref (i+1) k aM aM fun m g1 g2=>betw i hiq hEi hAi hLi m aM aM).length_le
          rw[n7] at this;simp at this; omega
        rw[cT hne];exact gp.un k h1 h2 h3
      ·-- behind all that is made
       have allA:∀k,q<=k->k<i->E k=true->A0 k=true:=fun k h1 h2 h3=>by
        cases hAk:A0 k with
        |true=>rfl
        |false =>
         have:=gp.rest k h1 aM h3;simp only[rdy k (effA k i h2 h3 hEi (.inl hAk))] at this; cases this
       have hpi:=pref q i hqi aM allA;have hle:=hpi.length_le;have hln:=gp.len;have hsum:G.length+((mems i).length-(mems q).length)=(mems i).length:=aM;obtain⟨j1',hr1,hx1⟩:=Be r1 ((mems i).length-(mems q).length+1);have hgl:(G++List.replicate ((mems i).length-(mems q).length) dg.vM).length=(mems i).length:=ic;have hG1:G++List.replicate ((mems i).length-(mems q).length+1) dg.vM=(G++List.replicate ((mems i).length-(mems q).length) dg.vM)++[dg.vM]:=by rw[nQ,<-dW]
       have hg1:(G++List.replicate ((mems i).length-(mems q).length+1) dg.vM)[(mems i).length]?=some .vM:=by
        rw[bA aM,jT,av aM]
       have hset:∀(A:aO)(m:Nat),A.length=m->A++[B]=(A++[dg.vM]).set m B:=fun A m h=>by subst h; simp
       have hg2:G++List.replicate ((mems i).length-(mems q).length) dg.vM++[B]=(G++List.replicate ((mems i).length-(mems q).length+1) dg.vM).set (mems i).length B:=by
        rw[hG1]; exact hset _ _ hgl
       refine fin (i+1) (G++List.replicate ((mems i).length-(mems q).length) dg.vM++[B]) _ j1' (mems i).length ⟨aM,.inr ⟨i,rfl,hEi,hL'i⟩,fun k h1 h2 h3=>by simp only[hL'ne k (show k≠i by omega)]; exact gp.rest k aM h2 h3,by rw[n7]; simp; omega,fun id=>?_,fun k h1 h2 h3=>?_⟩ hr1 hx1 hg1 rfl hg2
       ·rcases bK id G.length with h|h
        ·have e1:(G++List.replicate ((mems i).length-(mems q).length) dg.vM++[B])[id]?=G[id]?:=by
          rw[dW,bh h]
         have e2:(mems (i+1))[id]?=(mems q)[id]?:=by
          obtain⟨t',ht'⟩:=hpi;rw[n7,<-ht',dW,bh aM]
         rw[e1,e2];rcases gp.at' id with h|⟨h,k,h1,h2,h3,h4⟩
         ·exact .inl h
         ·exact .inr ⟨h,k,aM,h2,by simp only[hL'ne k (show k≠i by omega)]; exact h3,h4⟩
        ·rcases bK id (mems i).length with h'|h'
         ·refine .inr ⟨?_,?_⟩
          ·rw[bh ic,bA h,jT,av aM]
          ·obtain⟨k,k1,k2,k3,k4⟩:=XH q i hqi aM allA id aM h';exact⟨k,aM,k3,by simp only[hL'ne k (show k≠i by omega)]; exact gp.rest k k1 aM (hAE k aM k3),k4⟩
         ·left;rw[n7,bA ic,bA h'];congr 1;simp; omega
       ·have hki:k≠i:=by rintro rfl; simp only[hL'i] at h3; cases h3
        simp only[hL'ne k hki] at h3;rcases bK k q with h|h
        ·have hu:=gp.un k h h2 h3;rw[dW,bh (aJ hu)];exact hu
        ·obtain⟨_,_,_,_,_,_,_,hEk,_,m7,_⟩:=hA k aM h2;have b1:=(pref (k+1) i aM aM fun m g1 g2=>allA m aM g2).length_le
         have b2:=(pref q k h aM fun m g1 g2=>allA m g1 aM).length_le
         rw[m7] at b1;simp at b1;rw[bh ic,bA aM,jT,av aM]
     |false =>
     have hex:∃q' G',ei C (oY bq l vals (fun k=>listed.getD k false) l.length) G y.op=some (vals i,G')/\Gd l.length mems E A0 (fun k=>(listed.setIfInBounds i true).getD k false) q' G'/\(y.lets=true->G'=mems (i+1)):=by
      have pan0:E i=false->y.lets=true->G=mems (i+1):=by
       intro hEi cA
       have hqi:q<=i:=by
        rcases gp.last with h|⟨p,hp1,hp2,hp3⟩
        ·omega
        ·have hqn:=gp.qn;rcases bK i p with h|h
         ·rw[inL i p aM ((od.stop p i y hy cA aM).1 h) hp3] at hLi; cases hLi
         ·by_cases hip:i=p
          ·subst hip; simp only[hLi] at hp3; cases hp3
          ·omega
       have done:∀k,k<i->E k=true->listed.getD k false=true:=fun k hk hEk=>by
        obtain⟨x',hx',hE'⟩:=hEs hEk;rcases(od.stop k i y hy cA aM).2 hk with h4|h4
        ·exact rdy k h4
        ·have:=h4 x' hx';simp[cX.uf,this] at hE'
       rw[stays i hiN hEi,gp.full fun k hk hAk=>done k aM (hAE k aM hAk)]
       refine(same q i hqi aM fun k h1 h2=>?_).symm
       cases hEk:E k with
       |false=>rfl
       |true =>
        have:=gp.rest k h1 aM hEk;simp only[done k h2 hEk] at this; cases this
      obtain⟨q1,q2⟩:=Ej (C:=C) (M:=G) (op:=y.op) fun t ht=>agree t (hopslot t ht)
      rw[q1];rcases rU hstep with ⟨hn,hids,h1⟩|⟨hn,hgr,h1⟩|⟨hn,hgr,hp,h1⟩
      ·have hEi:E i=false:=by rw[hE hy]; simp[cX.uf,hn]
       exact⟨q,G,(Hu (od.alone i y hy hn) h1 hids).2 _,gC hEi,pan0 hEi⟩
      all_goals
       cases hEo:y.op.Ps with
       |true =>
        have hEi:E i=true:=by rw[hE hy]; simp[cX.uf,hn,hEo]
        obtain⟨k1,k2⟩:=gB hEi hAi;exact⟨i+1,mems (i+1),by rw[k1]; exact h1,k2,fun _=>rfl⟩
       |false =>
        have hEi:E i=false:=by rw[hE hy]; simp[cX.uf,hEo]
        refine⟨q,G,?_,gC hEi,pan0 hEi⟩;cases hlo:y.op.Pt with
        |false=>exact(MM hEo hlo h1).2 _
        |true =>
         -- a load: the memory of the moment and that of the text agree at its box
         have hz:∃z,(y.op = .mY z\/(∃n,y.op = .kl n z)\/∃fk zr ok k,y.op = .look fk zr ok z k)/\∀t,t∈z.lD->t∈y.op.lD:=by
          generalize y.op=op at hlo;cases op<;>simp only[kb.Pt,af] at hlo
          case kl n z=>exact⟨z,.inr (.inl ⟨n,rfl⟩),fun t h=>h⟩
          case look fk zr ok z k=>exact⟨z,.inr (.inr ⟨fk,zr,ok,k,rfl⟩),fun t h=>by simp[kb.lD,h]⟩
          case mY z=>exact⟨z,.inl rfl,fun t h=>h⟩
         obtain⟨z,hz1,hz2⟩:=hz
         have hrep:∃v,gn j1 G w1 (z.ev (oY bq l vals (fun _=>true) i)) v:=by
          rw[<-cQ (x:=z) fun t ht=>agree t (hopslot t (hz2 t ht))]
          cases z with
          |tmp t=>exact⟨_,e1.at' t⟩
          |kj c =>
           have:=od.opl i y hy;rcases hz1 with hz1|⟨n,hz1⟩|⟨_,_,_,_,hz1⟩<;>(rw[hz1] at this; cases this)
         obtain⟨v,hv⟩:=hrep
         have hsame:∀id b,id∈(z.ev (oY bq l vals (fun _=>true) i)).iz->id<G.length->nth (mems i) id=some b->nth G id=some b:=by
          intro id bx hidz hidl hbx;have hq3:=gp.rest;have hq4:=gp.last;have hqn:=gp.qn;rw[gp.len] at hidl
          have hG0:nth G id=nth (mems q) id:=by
           rw[eY,eY];rcases gp.at' id with h|⟨h,_⟩
           ·exact h
           ·exact absurd h (hv.adC hidz)
          rw[hG0];have hni:E i=false:=by rw[hE hy]; simp[cX.uf,hEo]
          by_cases hqi:q<=i
          ·refine I1 (.inr (wo i hqi fun k h2 h3=>?_)) hidl hbx
           cases hEk:E k with
           |false=>rw[stays k aM hEk]; exact iv _
           |true =>
            obtain⟨y',hz1',hz2'⟩:=hEs hEk
            have hunl:¬listed.getD k false=true:=by
             have h5:=hq3 k h2 aM hEk;rw[h5]; simp
            cases hzg:y'.grow with
            |false=>exact absurd (rdy k ((od.Yr k i y' y hz1' hz2' hzg hy hlo).2 h3)) hunl
            |true =>
             rcases grows k y' aM hz1' hz2' hzg with hg'|⟨hsp,_⟩
             ·exact hg'
             ·exact absurd (rdy k ((od.sep k i y' y hz1' hsp hy hlo).1 h3)) hunl
          ·have chain:∀n,i<=n->n<=q->nth (mems n) id=some bx:=by
            intro n;induction n with
            |zero=>intro h0 _; rw[show 0=i by omega]; exact hbx
            |succ n ihn =>
             intro h0 h0'
             by_cases he:i=n+1
             ·rw[<-he]; exact hbx
             ·have hb':=ihn aM aM;cases hEk:E n with
              |false=>rw[stays n aM hEk]; exact hb'
              |true =>
               obtain⟨y',hz1',hz2'⟩:=hEs hEk;cases hAn:A0 n with
               |true =>
                obtain⟨_,_,_,_,_,_,_,_,_,m7,_⟩:=hA n aM hAn;rw[eY] at hb' ⊢;rw[m7,bh (aJ hb')];exact hb'
               |false =>
               have hkni:n≠i:=by rintro rfl; rw[hEk] at hni; cases hni
               have hdone:listed.getD n false=true:=by
                rcases hq4 with h0|⟨p,hp1,hp2,hp3⟩
                ·omega
                ·by_cases hkp:n=p
                 ·subst hkp; exact hp3
                 ·exact inL n p aM (effA n p aM hEk hp2 (.inl hAn)) hp3
               have hnol:ahead (qT ops.toList) i n=true->False:=fun ha=>by
                have:=nol n aM ha;rw[this] at hdone; cases hdone
               cases hzg:y'.grow with
               |false=>exact absurd ((od.Yr n i y' y hz1' hz2' hzg hy hlo).1 aM) hnol
               |true =>
                rcases grows n y' aM hz1' hz2' hzg with hg'|⟨hsp,hsa⟩
                ·obtain⟨t,ht⟩:=hg';rw[eY] at hb' ⊢;rw[<-ht,bh (aJ hb')];exact hb'
                ·rcases(od.sep n i y' y hz1' hsp hy hlo).2 aM with ha|⟨zs,hzs,hmem,hnw⟩
                 ·exact(hnol ha).elim
                 ·have hslot:z = .tmp zs:=by
                   rcases hz1 with hz1|⟨m,hz1⟩|⟨_,_,_,_,hz1⟩<;>(rw[hz1] at hzs; cases z<;>simp[kb.MU] at hzs; rw[hzs])
                  subst hslot
                  have hsame0:gW (oY bq l vals (fun _=>true) n) zs=gW (oY bq l vals (fun _=>true) i) zs:=by
                   refine vl n aM fun p hp1 hp2=>?_
                   rintro⟨⟨x',hx',hdx⟩,_⟩;have:=bF.1 hnw p (gH.2 hp2);rw[eY,hx'] at this;simp[hdx,Nat.not_lt.2 hp1] at this
                  have hat:∀ {sl:List Nat},za (oY bq l vals (fun _=>true) n) (mems n) (mems (n+1)) sl->zs∈sl->nth (mems (n+1)) id=nth (mems n) id:=by
                   intro sl;induction sl with
                   |nil=>intro _ h; cases h
                   |cons z0 r0 ih0 =>
                    intro hs hm;rcases ba.1 hm with rfl|hm
                    ·have h6:=hs.1;rw[hsame0] at h6;simp only[gw.ev] at hidz;split at h6
                     ·rename_i id' off' he';rw[he'] at hidz;simp[ag.iz] at hidz;subst hidz;exact h6
                     ·exact h6.elim
                    ·exact ih0 hs.2 hm
                  rw[hat hsa hmem]; exact hb'
           exact chain q aM (ak _)
         exact(Iy hlo h1).2 z hsame hz1 hv
     obtain⟨q',G',haop,hG',hpan⟩:=hex;refine tU.wpIn (KP:=fun u w'=>Hj j1 G w1 (vals i,G') u w') (zP g1) (Dz hC g1 haop r1 (hG.mono x1) e1 ?_ fun u w' h=>h) ?_
     ·rintro v w' ⟨j',p1,p2,p3⟩
      have hnp:(vals i).jG=false:=by
       cases hvi:vals i<;>first|rfl|(rw[hvi] at p3; exact p3.KV.elim)
      refine ih (listed.setIfInBounds i true) _ w' (by simpa using hsz) left' down' (hin' hnp) ⟨j',q',G',hG',p1,?_,x1.trans p2,by rw[xp]; exact s1,by rw[put_defers]; exact d1⟩
      refine cE.Dy ?_ newEnv;rw[g2];exact(e1.mono p2).put s1 g4 p3
     ·rintro u w' ⟨hu,j',p1,p2⟩;simp only at hu;rcases hxe with ⟨n1,n2,_⟩|⟨n,y',v,n1,n2,n3,n4,n5,n6⟩
      ·have:=n2 i hiN; rw[hu] at this; cases this
      ·have hin0:i=n:=by
        rcases bK i n with h|h
        ·have:=n5 i h; rw[hu] at this; cases this
        ·omega
       subst hin0;rw[hy] at n2; cases n2;rw[hu] at n4; cases n4;have hmem:G'=mems N:=by rw[hpan n3,n1]
       rw[hmem] at p1 p2;rw[n6] at hQ;exact hQ a1 w' j' p1 (e1.nil p2) (x1.trans p2) s1 d1
    ·rw[aj (by rw[F1 e1 s1 g5 hgt (by rw[agree t (hgslot t want hgt)]; exact hgv)]; simp)]
     have hmem:∃q',Gd l.length mems E A0 (fun k=>(listed.setIfInBounds i true).getD k false) q' G:=by
      cases hEi:E i with
      |true =>
       have hAi:A0 i=false:=by
        cases hAi:A0 i with
        |false=>rfl
        |true =>
         obtain⟨y',_,_,_,n1,_,n5,_⟩:=hA i hiN hAi;rw[hy] at n1; cases n1;rw[n5] at hgt; cases hgt
       obtain⟨k1,k2⟩:=gB hEi hAi;rw[hm0,<-k1] at k2;exact⟨_,k2⟩
      |false=>exact⟨_,gC hEi⟩
     obtain⟨q',hG'⟩:=hmem;refine⟨fun _ _=>trivial,?_⟩
     refine ih (listed.setIfInBounds i true) _ w1 (by simpa using hsz) left' down' (hin' (by rw[hv0]; rfl)) ⟨j1,q',G,hG',r1,?_,x1,by rw[xp]; exact s1,by rw[put_defers]; exact d1⟩
     refine cE.Dy ?_ newEnv;rw[g2,hv0];exact e1.put s1 g4 (.tuple (vs := #[]) rfl fun i c v h=>by simp at h)
 have q:Quiet w { w with drawn:=w.drawn+1 }:=⟨ak _,rfl,rfl,rfl⟩
 have hrep:∀k,(Array.replicate ops.size false).getD k false=false:=fun k=>by
  simp only[du,Array.getElem?_replicate];split<;>rfl
 have hleft:left (fun k=>(Array.replicate ops.size false).getD k false) l.length=ops.size:=by
  have:∀n,left (fun k=>(Array.replicate ops.size false).getD k false) n=n:=by
   intro n;induction n with
   |zero=>rfl
   |succ n ihn=>rw[left,ihn,hrep n]; rfl
  rw[this,fx]
 refine key ops.size _ a _ dk hleft (fun k o e _ hL=>by rw[show(fun k=>(Array.replicate ops.size false).getD k false) k=false from hrep k] at hL; cases hL) (fun k _ hL=>by rw[hrep k] at hL; cases hL) ⟨j,0,M,⟨ct _,.inl rfl,fun k _ _ _=>hrep k,by rw[m0],fun id => .inl (by rw[m0]),fun k h=>aM⟩,?_,?_,?_,hs,rfl⟩
 ·exact hr.grow q.size rfl rfl rfl fun _ _=>rfl
 ·refine cE.Dy (cE.mono he (Ext.grow q.size rfl rfl rfl fun _ _=>rfl)) fun t=>?_
  exact vl (i:=0) l.length (ct _) fun k _ _ hc=>by have h2:=hc.2; rw[hrep k] at h2; cases h2
 ·exact Ext.grow q.size rfl rfl rfl fun _ _=>rfl
end
def I3{F:Fence}{nd:Nat}{P:Program}{c:Code}{Q Q':Exit->Act->World->Prop}{n:Nat}{a:Act}{w:World}(h:Code.roundsIn F nd P c Q n a w)(hq:∀e a w,Q e a w->Q' e a w):Code.roundsIn F nd P c Q' n a w:=by
 induction n generalizing a w with
 |zero=>exact h
 |succ n ih =>
  refine wpIn_mono h fun e a' w' h'=>?_
  cases e<;>simp[Exit.then] at h' ⊢ <;> first|exact ih h'|exact hq _ _ _ h'
theorem o5{bZ:Nat}{M:aO}(hb:bZ<=M.length):(j6 bZ M).length=bZ:=by grind [j6]
theorem kZ{bZ:Nat}{M:aO}{i:Nat}(hi:i<bZ):(j6 bZ M)[i]?=(M[i]?).map (dg.back bZ M):=by
 grind [j6]
theorem PV(bZ:Nat)(M:aO)(b:dg):(b.back bZ M).tag=b.tag:=by cases b<;>rfl
def JS(bZ:Nat)(M:aO)(b:dg):(b.back bZ M).fixed=b.fixed:=by cases b<;>rfl
def JU{bZ:Nat}{M:aO}{b:dg}(h:b.loose=true):b.back bZ M=b:=by cases b<;>first|rfl|cases h
section
variable {bZ:Nat} {M:aO} {j:J} {w:World} (hb:bZ<=M.length)
include hb
def wY{b off:Nat}(h:ow j M w b off):ow j (j6 bZ M) w b off:=by
 refine⟨h.lt,fun id hid hj=>?_,h.nx⟩
 rw[o5 hb] at hid;obtain⟨sz,n,h1,h2⟩:=h.ids _ aM hj;exact⟨sz,n,by rw[kZ hid,h1]; rfl,h2⟩
def mH:∀b off,ow j M w b off->ow j (j6 bZ M) w b off/\w.cell? ⟨b,off,none⟩=w.cell? ⟨b,off,none⟩:=fun b off hs=>⟨wY hb hs,rfl⟩
def LD{id:Nat}(cA:id<bZ)(hM:∀bx,M[id]?=some bx->bx.loose=true):(j6 bZ M)[id]?=M[id]?:=by
 have h0:=ai (show id<M.length by omega)
 rw[kZ cA,h0,cW,JU (hM _ h0)]
variable (hr:Rel j M w)
include hr
theorem An{x:ag}{v:Value}(h:gn j M w x v):gn j (j6 bZ M) w (x.jD bZ M) v:=by
 cases h with
 |plain h =>
  have:x.jD bZ M=x:=by cases h<;>rfl
  rw[this];exact .plain (h.mono (mH hb))
 |c0 A=>exact .c0 A
 | @own k xs v sz n hk hn hp ht =>
  simp only[ag.jD];split
  ·rename_i cA;exact .own (sz:=sz) (n:=n) (by rw[kZ cA,hk]; rfl) hn (hp.mono (mH hb)) ht
  ·exact .plain (hp.mono (mH hb))
 |agg=>exact .any _
 |tuple=>exact .any _
 | @ptr id off b hid hc hj =>
  simp only[ag.jD];split
  ·rename_i cA;obtain⟨cs,hc⟩:=hc;exact .ptr (by rw[o5 hb]; omega) ⟨_,by rw[kZ cA,hc]; rfl⟩ hj
  ·exact .any _
 |ju h=>exact .ju fun k c hk=>⟨(h k c hk).1,wY hb (h k c hk).2.1,(h k c hk).2.2.mono (mH hb)⟩
 |func=>exact .any _
 | @gJ id b hc hj =>
  simp only[ag.jD];split
  ·rename_i cA;obtain⟨ks,vs,hc⟩:=hc;exact .gJ ⟨_,_,by rw[kZ cA,hc]; rfl⟩ hj
  ·exact .any _
 | @jI id b hc hj =>
  simp only[ag.jD];split
  ·rename_i cA;obtain⟨ks,vs,hc⟩:=hc;exact .jI ⟨_,_,by rw[kZ cA,hc]; rfl⟩ hj
  ·exact .any _
 |iB cA hf hx hw hk hv hks hvs =>
  exact .iB cA (fun i hi=>hf i (by rw[o5 hb] at hi; omega)) hx hw hk hv (fun i k e h1 h2=>(hks i k e h1 h2).mono (mH hb)) (fun i k e h1 h2=>(hvs i k e h1 h2).mono (mH hb))
 | @jX t id off b hc hj =>
  simp only[ag.jD];split
  ·rename_i cA;obtain⟨cs,hc⟩:=hc;exact .jX ⟨_,by rw[kZ cA,hc]; rfl⟩ hj
  ·exact .any _
 |rP hl hd=>exact .rP hl fun i c v h1 h2=>(hd i c v h1 h2).mono (mH hb)
 | @cY id ver sz0 lo hi v h0 hid hM hv =>
  simp only[ag.jD];split
  ·rename_i cA;have e:=LD hb cA hM;exact .cY h0 (by rw[o5 hb]; omega) (fun bx hbx=>hM bx (e▸hbx)) fun sz v' xs h=>hv sz v' xs (e▸h)
  ·rename_i hge;split
   ·rename_i sz v' xs hMi;split
    ·rename_i he;subst he;obtain⟨_,k2⟩:=hv sz v' xs hMi;obtain⟨rfl,l1,l2,⟨rfl,_,A,rfl⟩|⟨b,cap,vs,t,l3,rfl,l5,l6,l7⟩⟩:=k2 rfl
     ·simp only[List.take_nil,List.drop_nil];exact .plain (fK.nil _ _ _)
     obtain⟨b',vs',t',g1,g2,g3,g4,g5⟩:=hr.yF hMi l3;rw[l3] at g1; cases g1;refine .plain (xH g2 g4 g5 (fun b off h=>wY hb h) (fun off _=>⟨hr.lt id b hid l3,fun id' hid' hj'=>?_,hr.u9 id b hid l3 off⟩) l1 l2 l5)
     rw[o5 hb] at hid';have:=hr.inj id' id b aM hid hj' l3;omega
    ·exact .any _
   ·exact .any _
 | @iI id ver i off v h0 hid hM hv =>
  simp only[ag.jD];split
  ·rename_i cA;have e:=LD hb cA hM;exact .iI h0 (by rw[o5 hb]; omega) (fun bx hbx=>hM bx (e▸hbx)) fun sz v' xs h=>hv sz v' xs (e▸h)
  ·exact .any _
 |any v=>exact .any v
theorem jm{x:ag}{v:Value}(h:gn j M w x v):gn j (j6 bZ M) w (x.kG bZ M) v:=by
 by_cases hag:∃f cs,x = .func f cs
 ·obtain⟨f,caps,rfl⟩:=hag;obtain⟨vs,rfl,hl,hc⟩:=h.rB;refine .func kW fun i c u hi hu=>?_
  rw[bb,aW] at hi;obtain⟨c0,hc0,rfl⟩:=hi
  grind [An]
 ·have e1:x.kG bZ M=x.jD bZ M:=by cases x<;>first|rfl|grind
  grind [An]
theorem Ao{x:ag}{v:Value}(h:gn j M w x v):gn j (j6 bZ M) w (x.jL bZ M) v:=by
 by_cases hag:∃cs,x = .agg cs
 ·obtain⟨cs,rfl⟩:=hag;obtain⟨vs,rfl,hl,hc⟩:=h.mM;refine .agg kW fun i c u hi hu=>?_
  grind [jm]
 ·have e1:x.jL bZ M=x.kG bZ M:=by cases x<;>first|rfl|grind
  grind [jm]
theorem Np{x:ag}{v:Value}(h:gn j M w x v):gn j (j6 bZ M) w (x.lN bZ M) v:=by
 by_cases hag:∃cs,x = .tuple cs
 ·obtain⟨cs,rfl⟩:=hag;obtain⟨vs,rfl,hl,hc⟩:=h.tP;refine .tuple kW fun i c u hi hu=>?_
  grind [Ao]
 ·have e1:x.lN bZ M=x.jL bZ M:=by cases x<;>first|rfl|grind
  grind [Ao]
theorem Nn{bq:Env}{a:Act}(h:cE j M w bq a):cE j (j6 bZ M) w (wD bZ M bq) a:=by
 refine⟨fun t=>?_,h.gl.im fun b off hs=>wY hb hs⟩
 have:gW (wD bZ M bq) t=(gW bq t).lN bZ M:=by
  clear h hr hb;induction bq with
  |nil=>rfl
  |cons p r ih =>
   grind [wD,gW]
 rw[this];exact Np hb hr (h.at' t)
theorem CE{x:ag}{v:Value}(h:gn j M w x v):gn j (j6 bZ M) w (x.j8 bZ M) v:=by
 cases x with
 |slice tk xs=>exact .plain (h.eb.mono (mH hb))
 |gJ id =>
  simp only[ag.j8];split
  ·have:=An hb hr h;simp_all [ag.jD]
  ·split
   ·rename_i ks vs hM;split
    ·rename_i hp;simp only[bm,bF] at hp;obtain⟨b,_,hj,rfl⟩:=h.vy;obtain⟨b',hj',es,clock,g1,g2,g3,g4,g5⟩:=hr.fix id _ hM rfl;have:b'=b:=kW;subst this;have hid  := aJ hM
     exact .iB (hr.lt id _ hid hj) (fun i hi he=>by
      rw[o5 hb] at hi;have:=hr.inj i id _ aM hid he hj;omega) (hr.u9 id _ hid hj) g1 g2 g3 (fun i k e h1 h2=>(g4 i k e h1 h2).mono (mH hb))
      fun i u e h1 h2=>(BZ.xn (g5 i u e h1 h2) (hp.1 u (aU h1))).mono (mH hb)
    ·exact .any _
   ·exact .any _
 |func f caps=>exact jm hb hr h
 |agg cs=>exact jm hb hr h
 |tuple cs=>exact jm hb hr h
 |bool b=>exact jm hb hr h
 |int k n=>exact jm hb hr h
 |str s=>exact jm hb hr h
 |ptr id off=>exact jm hb hr h
 |ju cs=>exact jm hb hr h
 |jI id=>exact jm hb hr h
 |cY id v sz lo hi=>exact jm hb hr h
 |iI id v i off=>exact jm hb hr h
 |rP f fs=>exact jm hb hr h
 |jX t id off=>exact jm hb hr h
 |iB ks vs=>exact jm hb hr h
 |raw v=>exact jm hb hr h
 |oU v=>exact h.KV.elim
 |any=>exact .any _
theorem CF{x:ag}{v:Value}(h:gn j M w x v):gn j (j6 bZ M) w (x.kC bZ M) v:=by
 by_cases hag:∃cs,x = .agg cs
 ·obtain⟨cs,rfl⟩:=hag;obtain⟨vs,rfl,hl,hc⟩:=h.mM;refine .agg kW fun i c u hi hu=>?_
  grind [CE]
 ·have e1:x.kC bZ M=x.j8 bZ M:=by cases x<;>first|rfl|grind
  grind [CE]
theorem Eo{x:ag}{v:Value}(h:gn j M w x v):gn j (j6 bZ M) w (x.mR bZ M) v:=by
 by_cases hag:∃cs,x = .tuple cs
 ·obtain⟨cs,rfl⟩:=hag;obtain⟨vs,rfl,hl,hc⟩:=h.tP;refine .tuple kW fun i c u hi hu=>?_
  grind [CF]
 ·have e1:x.mR bZ M=x.kC bZ M:=by cases x<;>first|rfl|grind
  grind [CF]
theorem JT{b:Nat}{bx:dg}(h:Holds j M w b bx):Holds j (j6 bZ M) w b (bx.back bZ M):=by
 cases bx with
 |cells cs =>
  obtain⟨vs,t,h1,h2,h3⟩:=h;refine⟨vs,t,h1,kW,fun q c v hc hv=>?_⟩
  grind [jm]
 |tick=>trivial
 |map ks vs =>
  obtain⟨es,clock,h1,h2,h3,h4,h5⟩:=h;refine⟨es,clock,h1,h2,kW,fun i k e hk he=>(h4 i k e hk he).mono (mH hb),fun i k e hk he=>?_⟩
  grind [Ao]
 |nW s pos=>exact h
 |vM=>trivial
 |arr=>trivial
theorem zt:Rel j (j6 bZ M) w:=by
 have ln:=o5 hb;refine⟨fun i i' b hi hi'=>hr.inj i i' b aM aM,fun i b hi=>hr.lt i b aM,fun i bx h hf=>?_,fun i sz n b h hj=>?_,fun i sz ver xs h=>?_,fun i b hi=>hr.u9 i b aM,hr.Ah⟩
 ·have hi:i<bZ:=kW;rw[kZ hi,aW] at h;obtain⟨bx0,h1,rfl⟩:=h;obtain⟨b,g1,g2⟩:=hr.fix i bx0 h1 (by rw[<-JS bZ M]; omega)
  grind [JT]
 ·have hi:i<bZ:=by rw[<-ln]; grind
  rw[kZ hi,aW] at h;obtain⟨bx,h1,h2⟩:=h;cases bx with
  |tick sz0 n0=>exact hr.tick i sz0 n0 b h1 hj
  |cells cs=>cases h2
  |map ks vs=>cases h2
  |nW s p=>cases h2
  |vM=>cases h2
  |arr sz v xs=>cases h2
 ·have hi:i<bZ:=by rw[<-ln]; grind
  rw[kZ hi,aW] at h;obtain⟨bx,h1,h2⟩:=h;cases bx with
  |arr sz0 v0 xs0 =>
   injection h2 with e1 e2 e3
   subst e1; subst e2; subst e3;obtain⟨g0,g1⟩|⟨b,vs,t,g1,g2,g3,g4,g5⟩:=hr.arr i _ _ _ h1
   ·grind
   exact .inr ⟨b,vs,t,g1,g2,g3,g4,fun q x k c hx hk=>(g5 q x k c hx hk).imp fun u hu=>⟨hu.1,hu.2.mono (mH hb)⟩⟩
  |cells cs=>cases h2
  |map ks vs=>cases h2
  |nW s p=>cases h2
  |vM=>cases h2
  |tick sz n=>cases h2
omit hr in
theorem wX{j0:J}{M0:aO}{w0:World}(h0:M0.length<=bZ)(hx:Ext j0 M0 w0 j M w):Ext j0 M0 w0 j (j6 bZ M) w where
 len:=by rw[o5 hb]; omega
 size:=hx.size
 os:=hx.os
 tape:=hx.tape
 output:=hx.output
 X:=hx.X
 fix:=fun i bx h hf=>by
  obtain⟨h1,bx',h2,h3⟩:=hx.fix i bx h hf
  grind [aJ,kZ,PV,trans]
 tick:=fun i sz n h=>by
  obtain⟨n',h1,h2,h3⟩:=hx.tick i sz n h;have hi:i<bZ:=kW;exact⟨n',h1,by rw[kZ hi,h2]; rfl,h3⟩
 arr:=fun i sz v xs h=>by
  have hi:i<bZ:=kW;rcases hx.arr i sz v xs h with ⟨n',g⟩|⟨v',xs',g1,g2⟩
  ·exact .inl ⟨n',by rw[kZ hi,g]; rfl⟩
  ·exact .inr ⟨v',xs',by rw[kZ hi,g1]; rfl,g2⟩
 tags:=hx.tags
 im:=fun b off h=>⟨wY hb (hx.im b off h).1,(hx.im b off h).2⟩
 uL:=fun b cA h=>⟨(hx.uL b cA h).1,fun i hi=>(hx.uL b cA h).2 i (by rw[o5 hb] at hi; omega)⟩
end
def Vl(A:zi)(j:J)(M:aO)(w:World)(a:Act)(o:Out):Exit->Act->World->Prop:=fun e a' w' =>
 e=rV o.e/\a'.tmps.size=A.n/\a'.defers=a.defers/\∃j',Rel j' o.mem w'/\cE j' o.mem w' o.bq a'/\Ext j M w j' o.mem w'
theorem Bb{A:zi}{j:J}{M:aO}{w:World}{a:Act}{o:Out}{live:List Nat}{a':Act}{w':World}{j':J}(h1:Rel j' o.mem w')(h2:cE j' o.mem w' o.bq a')(h3:Ext j M w j' o.mem w')(h4:a'.tmps.size=A.n)
  (h5:a'.defers=a.defers):Vl A j M w a (o.tv live) (rV o.e) a' w':=by
 obtain⟨e,bq,M'⟩:=o;cases e
 case normal=>exact⟨rfl,h4,h5,j',h1,h2.tv _,h3⟩
 all_goals exact⟨rfl,h4,h5,j',h1,h2,h3⟩
section
variable {P:Program} {C:eO} {A:zi}
def V5{j:J}{M:aO}{w:World}{bq:Env}{a:Act}(t:Nat)(hr:Rel j M w)(he:cE j M w bq a):Rel j (vm M (gW bq t).ids) w/\cE j (vm M (gW bq t).ids) w (Kt M t bq) a/\Ext j M w j (vm M (gW bq t).ids) w:=by
 obtain⟨f1,f2,f3,f4⟩:=Ch (j:=j) (w:=w) (gW bq t).ids hr;refine⟨f2,⟨fun t'=>?_,he.gl.mono f1⟩,f1⟩
 unfold Kt;rw[gW];split
 ·rename_i e; rw[<-e]; exact(he.at' t).sZ hr f1 f2 f3 fun id hid=>f4 id hid
 ·exact(he.at' t').mono f1
def L7{F:cD->Env->aO->Option Out}(hF:∀t c bq M,F (.sZ t c) bq M=F c (Kt M t bq) (vm M (gW bq t).ids)){A:zi}{y:Code}{ac:cD}{j:J}{M:aO}{w:World}{bq:Env}{a:Act}{o:Out}(h:F (QW A y ac) bq M=some o)(hr:Rel j M w)(he:cE j M w bq a) :
  ∃env' M',F ac env' M'=some o/\Rel j M' w/\cE j M' w env' a/\Ext j M w j M' w:=by
 unfold QW at h;split at h
 ·obtain⟨h1,h2,h3⟩:=V5 _ hr he;exact⟨_,_,(hF _ _ _ _).symm.trans h,h1,h2,h3⟩
 ·exact⟨_,_,h,hr,he,.refl _ _ _⟩
theorem nk(hmix:P.follows .mixedOrders=true)(hC:pC P C){rd:Option Nat}{nd:Nat}:∀(c:Code){ac:cD},comp P A c=some ac->∀ {bq:Env} {M:aO} {o:Out},fe C ac bq M=some o->∀ {j:J} {w:World} {a:Act},Rel j M w->sS j M w->cE j M w bq a ->
  a.tmps.size=A.n->c.wpIn (Wd rd) nd P (Vl A j M w a o) a w
 | .skip,ac,hc,bq,M,o,h,j,w,a,hr,hG,he,hs=>by
  simp only[comp] at hc; cases hc;simp only[fe] at h; cases h;exact wpIn_skip ⟨rfl,hs,rfl,j,hr,he,Ext.refl j M w⟩
 | .exit id,ac,hc,bq,M,o,h,j,w,a,hr,hG,he,hs=>by
  simp only[comp] at hc; cases hc;simp only[fe] at h; cases h;exact wpIn_exit ⟨rfl,hs,rfl,j,hr,he,Ext.refl j M w⟩
 | .ret,ac,hc,bq,M,o,h,j,w,a,hr,hG,he,hs=>by
  simp only[comp] at hc; cases hc;simp only[fe] at h; cases h;exact wpIn_ret ⟨rfl,hs,rfl,j,hr,he,Ext.refl j M w⟩
 | .region id ops draw,ac,hc,bq,M,o,h,j,w,a,hr,hG,he,hs=>by
  simp only[comp] at hc;cases draw with
  |true =>
   simp only[aE] at hc;obtain⟨l0,hl0,hc⟩:=bc hc;obtain⟨l,hl,hc⟩:=bc hc;cases hc;simp only[fe] at h;obtain⟨x,hx,h⟩:=bu h
   grind [I2,Bb]
  |false =>
   simp only[af,aC] at hc;obtain⟨l,hl,hc⟩:=bc hc;cases hc;simp only[fe] at h;obtain⟨x,hx,h⟩:=bu h;cases h;refine wpIn_region ?_;rw[nP];exact x5 hC (grow:=[]) ops.toList 0 (by rfl) hl hx hr hG he hs fun a' w' j' h1 h2 h3 h4 h5=>Bb h1 h2 h3 h4 h5
 | .seq x y,ac,hc,bq,M,o,h,j,w,a,hr,hG,he,hs=>by
  simp only[comp] at hc;obtain⟨ax,hx,hc⟩:=bc hc;obtain⟨ay,hy,hc⟩:=bc hc;cases hc;simp only[fe] at h;obtain⟨o1,h1,h⟩:=bu h;refine wpIn_seq (wpIn_mono (nk hmix hC x hx h1 hr hG he hs) ?_);rintro e a1 w1 ⟨he1,hs1,hd1,j1,r1,e1,x1⟩;rcases ud h with ⟨hn,h2⟩|⟨hn,h2⟩
  ·rw[hn] at he1;subst he1;obtain⟨env',M',h3,r3,e3,x3⟩:=L7 (F:=fe C) (fun _ _ _ _=>rfl) h2 r1 e1
   refine wpIn_mono (nk hmix hC y hy h3 r3 (hG.mono (x1.trans x3)) e3 hs1) ?_;rintro e a2 w2 ⟨he2,hs2,hd2,j2,r2,e2,x2⟩;exact⟨he2,hs2,hd2.trans hd1,j2,r2,e2,(x1.trans x3).trans x2⟩
  ·subst h2;have:rV o.e ≠ .normal:=by cases ho:o.e<;>simp_all [rV]
   subst he1
   cases hx:rV o.e<;>first
    |exact absurd hx this
    |(simp only[Exit.then]; exact⟨hx.symm,hs1,hd1,j1,r1,e1,x1⟩)
 | .cond c x y,ac,hc,bq,M,o,h,j,w,a,hr,hG,he,hs=>by
  simp only[comp] at hc;obtain⟨cc,hcc,hc⟩:=bc hc;obtain⟨ax,hx,hc⟩:=bc hc;obtain⟨ay,hy,hc⟩:=bc hc;cases hc;simp only[fe] at h;have h1:=cU he hcc;split at h
  ·rename_i t ht;rw[ht] at h1;rcases k8 h with ⟨rfl,h⟩|⟨rfl,h⟩
   ·exact wpIn_cond_true h1.js (nk hmix hC x hx h hr hG he hs)
   ·exact wpIn_cond_false h1.js (nk hmix hC y hy h hr hG he hs)
  grind
 | .block id c,ac,hc,bq,M,o,h,j,w,a,hr,hG,he,hs=>by
  simp only[comp] at hc;obtain⟨ax,hx,hc⟩:=bc hc;cases hc;simp only[fe] at h;obtain⟨o1,h1,h⟩:=bu h;cases h;refine wpIn_block (wpIn_mono (nk hmix hC c hx h1 hr hG he hs) ?_);rintro e a1 w1 ⟨he1,hs1,hd1,j1,r1,e1,x1⟩;subst he1;cases ho:o1.e with
  |normal=>simp only[rV,Exit.inBlock]; refine⟨?_,hs1,hd1,j1,?_⟩<;>simp[zU,ho,rV,r1,e1,x1]
  |ret=>simp only[rV,Exit.inBlock]; refine⟨?_,hs1,hd1,j1,?_⟩<;>simp[zU,ho,rV,r1,e1,x1]
  |oU v=>simp only[rV,Exit.inBlock]; refine⟨?_,hs1,hd1,j1,?_⟩<;>simp[zU,ho,rV,r1,e1,x1]
  |exit i =>
   simp only[rV,Exit.inBlock]
   by_cases hi:i=id
   ·rw[av hi]; refine⟨?_,hs1,hd1,j1,?_⟩<;>simp[zU,ho,rV,hi,r1,e1,x1]
   ·rw[aj hi]; refine⟨?_,hs1,hd1,j1,?_⟩<;>simp[zU,ho,rV,hi,r1,e1,x1]
 | .loop c,ac,hc,bq,M,o,h,j,w,a,hr,hG,he,hs=>by
  simp only[comp] at hc;obtain⟨ax,hx,hc⟩:=bc hc;injection hc with hc
  obtain⟨g,hg,n,hn⟩:∃g:Nat->Nat->Nat,(∀p q,p<=q->p<=g p q/\g p q<=q)/\∃n,iter g (fe C ax) (find A.lp (j7 c)) n bq M=some o:=by
   unfold IC at hc;split at hc<;>subst hc<;>simp only[fe] at h<;>obtain⟨n,hn⟩:=uY h
   ·exact⟨gR,fun p q h=>⟨h,ak _⟩,n,hn⟩
   ·exact⟨gL,fun p q h=>⟨ak _,h⟩,n,hn⟩
  refine wpIn_loop_rounds n ?_
  have key:∀n bq M j1 w1 a1,iter g (fe C ax) (find A.lp (j7 c)) n bq M=some o->Rel j1 M w1->sS j1 M w1->cE j1 M w1 bq a1->a1.tmps.size=A.n ->
    Code.roundsIn (Wd rd) nd P c (Vl A j1 M w1 a1 o) n a1 w1:=by
   intro n;induction n with
   |zero=>intro bq M j1 w1 a1 h; cases h
   |succ n ih =>
    intro bq M j1 w1 a1 h r1 hG1 e1 s1;rw[iter] at h;obtain⟨o1,h1,h⟩:=bu h;rw[roundsIn_succ];refine wpIn_mono (nk hmix hC c hx h1 r1 hG1 (e1.tv _) s1) ?_;rintro e a2 w2 ⟨he2,hs2,hd2,j2,r2,e2,x2⟩;rcases ud h with ⟨hn,h2⟩|⟨hn,h2⟩
    ·rw[hn] at he2;subst he2;obtain⟨b1,b2⟩:=hg _ _ x2.len;have:=ih _ _ j2 w2 a2 h2 (zt b2 r2) (hG1.mono (wX b2 b1 x2)) (Nn b2 r2 (e2.tv _)) hs2;simp only[rV,Exit.then]
     exact I3 this fun e a3 w3 ⟨g1,g2,g3,j3,g4,g5,g6⟩=>⟨g1,g2,g3.trans hd2,j3,g4,g5,(wX b2 b1 x2).trans g6⟩
    ·subst h2;have:rV o.e ≠ .normal:=by cases ho:o.e<;>simp_all [rV]
     subst he2
     cases hx:rV o.e<;>first
      |exact absurd hx this
      |(simp only[Exit.then]; exact⟨hx.symm,hs2,hd2,j2,r2,e2,x2⟩)
  grind
 | .rangeFunc ..,ac,hc,bq,M,o,h,j,w,a,hr,hG,he,hs=>by grind [comp]
 | .scope _,ac,hc,bq,M,o,h,j,w,a,hr,hG,he,hs=>by grind [comp]
 | .label _,ac,hc,bq,M,o,h,j,w,a,hr,hG,he,hs=>by grind [comp]
 | .goto _,ac,hc,bq,M,o,h,j,w,a,hr,hG,he,hs=>by grind [comp]
 | .refuse _,ac,hc,bq,M,o,h,j,w,a,hr,hG,he,hs=>by simp_all [comp]
theorem Cm{bq:Env}{M:aO}{j:J}{w:World}{a:Act}(hr:Rel j M w)(he:cE j M w bq a):∀ {rs:List ResultVar} {ars:List sm} {l:List ag},HB P rs=some ars->qb bq M ars=some l ->
  ∃vs:List Value,(rs.mapM fun r=>(match r with | .tmp t=>pure (a.tmps.getD t undef) | .cell q t=>do loadVar t (<-asAddr (a.tmps.getD q undef)):Sem Value)).run P w = .ok vs w/\l.length=vs.length /\
   ∀(i:Nat)(c:ag)(v:Value),l[i]?=some c->vs[i]?=some v->gn j M w c v
 | [],ars,l,h1,h2=>by
  simp_all [HB,qb]
 | .tmp t::rs,ars,l,h1,h2=>by
  simp only[HB] at h1;obtain⟨ars',h3,h1⟩:=bc h1;cases h1;simp only[qb,zY,cq] at h2;obtain⟨l',h4,h2⟩:=bu h2;cases h2;obtain⟨vs,g1,g2,g3⟩:=Cm hr he h3 h4
  refine⟨a.tmps.getD t undef::vs,by
   rw[List.mapM_cons,Sem.run_bind];simp_all,by simp[g2],fun i c v hc hv=>?_⟩
  cases i with
  |zero=>simp only[eu,iR] at hc hv; subst hc; subst hv; exact he.at' t
  |succ i=>grind
 | .cell q t::rs,ars,l,h1,h2=>by
  simp only[HB] at h1;obtain⟨g,hg,h1⟩:=bc h1;obtain⟨n,hn,h1⟩:=bc h1;obtain⟨ars',h3,h1⟩:=bc h1;cases h1;simp only[qb] at h2;obtain⟨c0,hc0,h2⟩:=bu h2;obtain⟨l',h4,h2⟩:=bu h2;cases h2;obtain⟨vs,g1,g2,g3⟩:=Cm hr he h3 h4;have hq:=he.at' q
  have hload:∃v,(do loadVar t (<-asAddr (a.tmps.getD q undef)):Sem Value).run P w = .ok v w/\gn j M w c0 v:=by
   cases g with
   |true =>
    simp only[aE,zY] at hc0;split at hc0
    ·rename_i id off e;rw[e] at hq;obtain⟨b,_,_,hj,hv⟩:=hq.pV;rw[eY] at hc0;split at hc0
     ·rename_i cs hM;split at hc0
      ·rename_i hle;cases hc0;obtain⟨us,t0,hw,hl,hcs,hcell⟩:=wZ hr hM hj
       have hrun:=o3 (P:=P) (w:=w) b off n (fun k=>(us[off+k]?).getD undef) fun k hk=>by
        rw[hcell,bf aM]; simp
       refine⟨_,by simp only[hv,asAddr,Sem.run_bind,Sem.run_pure,Result.andThen_ok,loadVar,lf hg,aE,jd hn,hrun]; rfl,.agg ic fun p c u hc hu=>?_⟩
       grind
      ·cases hc0
     ·cases hc0
    ·cases hc0
   |false =>
    simp only[af,aC,zY] at hc0;split at hc0
    ·rename_i id off e;rw[e] at hq;obtain⟨b,_,_,hj,hv⟩:=hq.pV;rw[eY] at hc0;split at hc0
     ·rename_i cs hM;rw[eY] at hc0;obtain⟨us,t0,hw,hl,hcs,hcell⟩:=wZ hr hM hj;have cA:=aJ hc0;have hu:us[off]?=some (us[off]'(by omega)):=bf aM
      exact⟨_,by simp[hv,asAddr,loadVar,lf hg,hcell,hu],hcs _ _ _ hc0 hu⟩
     ·cases hc0
    ·cases hc0
  obtain⟨v0,hv0,hr0⟩:=hload;refine⟨v0::vs,?_,by simp[g2],fun i c v hc hv=>?_⟩
  ·rw[List.mapM_cons,Sem.run_bind,hv0];simp_all
  grind
def AN:∀(args:List ag)(i t:Nat),gW (km i args) t=if i<=t then (args[t-i]?).getD .any else .any
 | [],i,t=>by simp[km,gW]
 |v::r,i,t=>by
  rw[km,gW,AN r (i+1) t]
  by_cases h:i=t
  ·subst h; simp
  ·rw[aj h]
   by_cases h2:i<=t
   ·rw[av aM,av h2,show t-i=(t-(i+1))+1 by omega]; simp
   ·rw[aj aM,aj h2]
def MC{j:J}{M:aO}{w:World}:∀ {l:List ag} {us:List Value},l.length=us.length->(∀(i:Nat)(c:ag)(v:Value),l[i]?=some c->us[i]?=some v->gn j M w c v) ->
  gn j M w (one l) (if h:us.toArray.size=1 then us.toArray[0] else .tuple us.toArray)
 | [c0],[v0],_,h=>by simpa[one] using h 0 c0 v0 rfl rfl
 | [],[],_,_=>by simpa[one] using(gn.tuple (j:=j) (M:=M) (w:=w) (cs:=[]) (vs := #[]) rfl fun i c v h=>by simp at h)
 |c0::c1::r,v0::v1::s,hl,h=>by
  have:¬(v0::v1::s).toArray.size=1:=dk;rw[dif_neg this];exact .tuple (by simpa using hl) fun i c v h1 h2=>h i c v h1 (by simpa using h2)
 | [],_::_,hl,_=>by simp at hl
 | [_],[],hl,_=>by simp at hl
 | [_],_::_::_,hl,_=>by simp at hl
 |_::_::_,[],hl,_=>by simp at hl
 |_::_::_,[_],hl,_=>by simp at hl
def EH(hmix:P.follows .mixedOrders=true)(hC:pC P C){f:Nat}{fn:eX}{A:zi}{func:Func}(hf:P.funcs[f]?=some func)(hc:pE P A func=some fn){args:List ag}{M:aO}{x:ag×aO}{B:Nat}(hB:M.length<=B)(hB2:B<=M.length\/B<=x.2.length)
  (hl:args.length=fn.nparams) (h:bP (fe C fn.body (km 0 args) M) (finish fn.results B)=some x):k6 P f=true/\eZ P f args M x:=by
 unfold pE at hc;split at hc
 ·cases hc
 ·rename_i c hbody;split at hc
  ·rename_i hcond;obtain⟨hname,hn,hle⟩:=hcond;obtain⟨b,hb,hc⟩:=bc hc;obtain⟨rs,hrs,hc⟩:=bc hc;cases hc;refine⟨by simp[k6,hf,hbody,hname],fun j w vs hr hG fx hv=>?_⟩
   obtain⟨o,ho,hfin⟩:=bu h;simp only at hl;refine calls_of_wp hf hbody ?_;have hsz:(vs++Array.replicate (func.ntmps-vs.size) undef).size=A.n:=ic
   have he:cE j M w (km 0 args) { tmps:=vs++Array.replicate (func.ntmps-vs.size) undef,defers:=[] }:=by
    refine⟨fun t=>?_,hG⟩
    rw[AN,av (ct _),cd];rcases bK t args.length with ht|ht
    ·have h1:=ai ht;have cA:t<vs.size:=aM;have h2:=bf cA;rw[h1];have h3:=hv t _ _ h1 h2
     have:(vs++Array.replicate (func.ntmps-vs.size) undef).getD t undef=vs[t]:=by
      simp[du,cy cA,h2]
     rw[this];exact h3
    ·rw[gQ ht]; exact .any _
   refine wp_mono (wpIn_wide.1 (nk (rd:=none) (nd:=0) hmix hC c hb ho hr hG he hsz)) ?_;rintro e a' w' ⟨he1,hs1,hd1,j1,r1,e1,x1⟩
   by_cases hpan:∃u,o.e = .oU u
   ·obtain⟨u,hu⟩:=hpan;rw[hu] at he1; subst he1;simp only[finish,hu] at hfin;cases hfin
    have hb:B<=o.mem.length:=by
     have:=x1.len;rcases hB2 with h|h
     ·omega
     ·simp[j6] at h; omega
    exact⟨hd1,.inr ⟨u,rfl,rfl,j1,zt hb r1,wX hb hB x1⟩⟩
   have hno:∀i,o.e ≠ .exit i:=by
    intro i hi;simp[finish,hi] at hfin
   have hfin':bP (qb o.bq o.mem rs) (fun l=>some ((one l).mR B o.mem,j6 B o.mem))=some x:=by
    unfold finish at hfin;split at hfin
    ·rename_i i hi; exact absurd hi (hno i)
    ·rename_i u hu; exact absurd ⟨u,hu⟩ hpan
    ·exact hfin
   obtain⟨l,hl',hfin'⟩:=bu hfin';cases hfin';obtain⟨us,u1,u2,u3⟩:=Cm (P:=P) r1 e1 hrs hl'
   have hbase:B<=o.mem.length:=by
    have:=x1.len;rcases hB2 with h|h
    ·omega
    ·simp[j6] at h; omega
   have hres:(results func a'.tmps).run P w' = .ok (if h:us.toArray.size=1 then us.toArray[0] else .tuple us.toArray) w':=by
    unfold results;rw[lj,Sem.run_bind,Sem.run_map];refine dj (congrArg (fun r:Result (List Value)=>Result.andThen (r.andThen fun a w' => .ok a.toArray w') _) (dj ?_ u1)) rfl
    rfl
   have hone:gn j1 o.mem w' (one l) (if h:us.toArray.size=1 then us.toArray[0] else .tuple us.toArray):=by
    exact MC u2 u3
   have hfinal:∃v,(results func a'.tmps).run P w' = .ok v w'/\vN j M w ((one l).mR B o.mem,j6 B o.mem) (.returned v) w' :=
    ⟨_,hres,.inl ⟨_,rfl,j1,zt hbase r1,wX hbase hB x1,Eo hbase r1 hone⟩⟩
   cases hoe:o.e with
   |exit i=>exact absurd hoe (hno i)
   |oU u=>exact absurd ⟨u,hoe⟩ hpan
   |normal=>rw[hoe] at he1; subst he1; exact⟨hd1,hfinal⟩
   |ret=>rw[hoe] at he1; subst he1; exact⟨hd1,hfinal⟩
  ·cases hc
def QV(hmix:P.follows .mixedOrders=true)(hC:pC P C){f:Nat}{fn:eX}{A:zi}{func:Func}(hf:P.funcs[f]?=some func)(hc:pE P A func=some fn){args:List ag}{M:aO}{x:ag×aO}
  (hl:args.length=fn.nparams) (h:bP (fe C fn.body (km 0 args) M) (finish fn.results M.length)=some x):k6 P f=true/\eZ P f args M x :=
 EH hmix hC hf hc (ak _) (.inl (ak _)) hl h
noncomputable def K7(C:eO)(fn:eX)(d:Nat)(args:List ag)(M:aO):Option (ag×aO) :=
 if args.length=fn.nparams then bP (bP (fe C fn.body (km 0 args) M) (finish fn.results (M.length+d))) fun x=>if x.2.length=M.length+d then some x else none else none
def Oa(hmix:P.follows .mixedOrders=true)(hC:pC P C){f:Nat}{fn:eX}{A:zi}{func:Func}(hf:P.funcs[f]?=some func)(hc:pE P A func=some fn){d:Nat}{args:List ag}{M:aO}{x:ag×aO}
  (h:K7 C fn d args M=some x):k6 P f=true/\eZ P f args M x:=by
 unfold K7 at h;split at h
 ·rename_i hl;obtain⟨y,hy,h⟩:=bu h;split at h
  ·rename_i fx;cases h;exact EH hmix hC hf hc (nF _ _) (.inr aM) hl hy
  ·cases h
 ·cases h
def abB{C:eO}{fn:eX}{d:Nat}{args:List ag}{M:aO}{x:ag×aO}(hl:args.length=fn.nparams)(h:bP (fe C fn.body (km 0 args) M) (finish fn.results (M.length+d))=some x)(hx:x.2.length=M.length+d):K7 C fn d args M=some x:=by
 unfold K7;rw[av hl,h,cq,av hx]
structure ym(P:Program)(T:Br):Prop where
 code:∀f fn,T.code f=some fn->∃A func,P.funcs[f]?=some func/\pE P A func=some fn
 qP:∀f g,T.qP f=some g->∀args M x,g args M=some x->k6 P f=true/\eZ P f args M x
def zn(hmix:P.follows .mixedOrders=true){T:Br}(hT:ym P T):∀n,pC P (lh T n)
 |0,f,args,M,x,h=>by
  unfold lh at h;split at h
  ·rename_i g hg; exact hT.qP f g hg args M x h
  ·cases h
 |n+1,f,args,M,x,h=>by
  rw[lh] at h;split at h
  ·rename_i g hg; exact hT.qP f g hg args M x h
  ·split at h
   ·cases h
   ·rename_i fn hfn;split at h
    ·rename_i hl;obtain⟨A,func,h1,h2⟩:=hT.code f fn hfn;exact QV hmix (zn hmix hT n) h1 h2 hl h
    ·cases h
def uE(hmix:P.follows .mixedOrders=true){T:Br}(hT:ym P T):pC P (aq T):=fun f args M x h=>by
 obtain⟨n,hn⟩:=uY h;exact zn hmix hT n f args M x hn
end
section
variable {j:J} {M:aO} {w w':World}
def oz(b:Nat):∀(l:List Value)(o:Nat)(w:World),w.setCells b o l=pf w b o l
 | [],_,_=>rfl
 |v::r,o,w=>by rw[World.setCells,pf,oz b r]
end
noncomputable def p9(sz bytes:Nat):List ag->aO->Option (ag×aO)
 | [.slice _ xs],M=>match xs with
  | []=>some (.slice .c0 [],M)
  |x::r=>cH (wid (x::r) sz/\dY (x::r).length bytes) (some (.cY M.length 0 sz 0 (x::r).length,M++[.arr sz 0 (x::r)]))
 |_,_=>none
noncomputable def ZN(sz bytes:Nat):List ag->aO->Option (ag×aO)
 | [.slice _ xs],M=>cH (wid xs sz/\dY xs.length bytes) (some (.slice .sh xs,M))
 |_,_=>none
noncomputable def x8(sz bytes:Nat):List ag->aO->Option (ag×aO)
 | [.slice _ xs],M=>cH (wid xs sz/\dY xs.length bytes) (some (.slice (.own M.length) xs,M++[.tick sz xs.length]))
 |_,_=>none
noncomputable def oS(sz:Nat):List ag->aO->Option (ag×aO)
 | [.cY id ver sz' lo hi,.int .i64 i,.int .i64 i'],M=>match nth M id with
  |some (.arr sz0 v xs)=>cH (v=ver/\sz'=sz/\lo=0/\hi=xs.length/\0<=i/\i.toNat<xs.length/\i'=i+1/\xs.length<=2 ^ 44)
    (some (.cY id (ver+1) sz 0 (xs.length-1),jY M id (.arr sz0 (ver+1) (xs.take i.toNat++xs.drop (i.toNat+1)))))
  |_=>none
 |_,_=>none
noncomputable def nI(sz bytes:Nat):List ag->aO->Option (ag×aO)
 | [.cY id ver sz' lo hi,.int .i64 i,.slice _ [e]],M=>match nth M id with
  |some (.arr sz0 v xs)=>cH (v=ver/\sz'=sz/\lo=0/\hi=xs.length/\0<=i/\i.toNat<=xs.length/\e.cells.length=sz/\dY (xs.length+1) bytes)
    (some (.cY id (ver+1) sz 0 (xs.length+1),jY M id (.arr sz0 (ver+1) (xs.take i.toNat++e::xs.drop i.toNat))))
  |_=>none
 | [.slice .c0 [],.int .i64 i,.slice _ [e]],M=>cH (i=0/\e.cells.length=sz) (some (.cY M.length 0 sz 0 1,M++[.arr sz 0 [e]]))
 |_,_=>none
def B9(P:Program)(f:Nat)(E:TypeId)(sz bytes:Nat):Prop:=∀(b off n c:Nat)(news:List Value)(w:World),news.length=n*sz->n<=maxLen->n*bytes<=140737488355328->(∀j u,news[j]?=some u->w.cell? ⟨b,off+j,none⟩=some u)->(∀u∈news,u.oneCell'=true) ->
 Calls P f #[.slice (some ⟨b,off,none⟩) n c] w fun e w'=>∃v',e = .returned v'/\w'.ownsRow w.heap.size E sz v' n news/\v' ≠ .slice none 0 0/\Below w.heap.size w w'
def zl(P:Program)(f:Nat):Prop:=∀(A:Option Addr)(c:Nat)(w:World),Calls P f #[.slice A 0 c] w fun e w'=>(∃B,e = .returned (.slice B 0 0))/\Below w.heap.size w w'
def X9(P:Program)(f sz:Nat)(z:List Value):Prop:=∀(blk cap i i' n:Nat)(cs:List Value)(w:World),cs.length=n*sz->n<=cap->n<=9223372036854775807->i<n->i'=i+1 ->
 (∀p v,cs[p]?=some v->w.cell? ⟨blk,p,none⟩=some v/\w.frozen? ⟨blk,p,none⟩=false/\v.oneCell'=true) ->
 Calls P f #[.slice (some ⟨blk,0,none⟩) n cap,.int .i64 i,.int .i64 i'] w fun e w'=>e = .returned (.slice (some ⟨blk,0,none⟩) (n-1) cap) /\
  w'=(w.drew.setCells blk (i*sz) (cs.drop (i'*sz))).setCells blk ((n-1)*sz) z
def xC(sz:Nat)(w:World)(b:Nat)(row:Array Value)(t:TypeId)(n i:Nat)(cs vs:List Value)(e:Ending)(w':World):Prop :=
 ∃b' cap' row' t',e = .returned (.slice (some ⟨b',0,none⟩) (n+1) cap')/\n+1<=cap'/\w'.heap[b']?=some (.cells row' t' (0,0))/\cap'*sz<=row'.size /\
  (∀p,p<(n+1)*sz->row'[p]?=(cs.take (i*sz)++(vs++cs.drop (i*sz)))[p]?)/\Quiet w w' /\
  ((b'=b/\t'=t/\row'.size=row.size/\∀b0,b0≠b->b0<w.heap.size->w'.heap[b0]?=w.heap[b0]?)\/(w.heap.size<=b'/\∀b0,b0<w.heap.size->w'.heap[b0]?=w.heap[b0]?))
def PH(P:Program)(f sz bytes:Nat):Prop:=∀(b n c i vb voff vc:Nat)(cs vs:List Value)(w:World)(row:Array Value)(t:TypeId),i<=n->n<=c->(n+1)*bytes<=140737488355328->n+1<=9223372036854775807->vb≠b->cs.length=n*sz->vs.length=sz->w.heap[b]?=some (.cells row t (0,0))->c*sz<=row.size ->
 (∀(p:Nat)(v:Value),cs[p]?=some v->row[p]?=some v)->(∀(p:Nat)(v:Value),vs[p]?=some v->w.cell? ⟨vb,voff+p,none⟩=some v)->(∀v∈cs,v.oneCell'=true)->(∀v∈vs,v.oneCell'=true) ->
 Calls P f #[.slice (some ⟨b,0,none⟩) n c,.int .i64 i,.slice (some ⟨vb,voff,none⟩) 1 vc] w (xC sz w b row t n i cs vs)
def PI(P:Program)(f sz:Nat):Prop:=∀(A:Option Addr)(vb voff vc:Nat)(vs:List Value)(w:World)(row:Array Value),vs.length=sz->(∀(p:Nat)(v:Value),vs[p]?=some v->w.cell? ⟨vb,voff+p,none⟩=some v)->(∀v∈vs,v.oneCell'=true) ->
 Calls P f #[.slice A 0 0,.int .i64 0,.slice (some ⟨vb,voff,none⟩) 1 vc] w fun e w'=>xC sz w w.heap.size row 0 0 0 [] vs e w'
section
variable {P:Program} {f:Nat} {sz bytes:Nat} {E:TypeId}
def DV{α:Type}{vs:Array α}{p q r:ag}(h:[p,q,r].length=vs.size):∃a b c,vs = #[a,b,c]:=by
 obtain⟨l⟩:=vs
 match l,h with
 | [a,b,c],_=>simp
def Ck{α:Type}{vs:Array α}{p:ag}(h:[p].length=vs.size):∃a,vs = #[a]:=by
 obtain⟨l⟩:=vs
 match l,h with
 | [a],_=>simp
def gn.xv{j:J}{M:aO}{w:World}{tk:Tk}{xs:List ag}{v:Value}(h:gn j M w (.slice tk xs) v):fK w (ow j M w) (.slice .sh xs) v:=h.eb
theorem w6(hsz:0<sz)(hby:bytes*8<=2 ^ 20/\0<bytes)
  (hC:B9 P f E sz bytes) (h0:zl P f)
  {args:List ag} {M:aO} {x:ag×aO} (h:p9 sz bytes args M=some x):eZ P f args M x:=by
 unfold p9 at h;split at h
 ·refine nK.call ?_;intro j w vs hr hG hl hv;obtain⟨u,rfl⟩:=Ck hl;have h1:=(hv 0 _ u rfl rfl).xv;split at h
  ·cases h;obtain⟨A,cap,rfl,_,_⟩:=nY (size:=sz) h1 (fun y hy=>by cases hy)
   refine(h0 A cap w).mono ?_;rintro e w' ⟨⟨B,rfl⟩,hb⟩;exact⟨_,j,rfl,hr.grow hb.size hb.os hb.tape hb.output hb.block,Ext.grow hb.size hb.os hb.tape hb.output hb.block,.c0 _⟩
  ·rename_i y r;obtain⟨⟨hw,hroom⟩,h⟩:=dw h;cases h;obtain⟨A,cap,rfl,hcap,h2⟩:=nY h1 hw;obtain⟨b,off,rfl,us,hrl,hul,hone,hcell⟩:=h2.resolve_left dk;unfold dY at hroom;have hle:(y::r).length<=2 ^ 44:=bg (fA _ hby.2) hroom;refine(hC b off (y::r).length cap us w hul (by unfold maxLen; omega) aM (fun p u hp=>(hcell p u hp).1) hone).mono ?_
   rintro e w' ⟨v',rfl,⟨_,hown⟩,hnn,hb⟩;obtain⟨g,cap',cur,rfl,hg,hg',hn1,_,hcs,htk⟩:=hown.resolve_left (fun h=>hnn h.1)
   have q:Quiet w w':=⟨hb.size,hb.os,hb.tape,hb.output⟩;have hob:∀b,some g=some b->w.heap.size<=b/\b<w'.heap.size:=fun b h=>kW
   have hcl:∀p,p<us.length->cur[p]?=us[p]?:=fun p hp=>by
    rw[<-htk,bM (by rw[<-hul]; exact hp)]; simp
   have ext:Ext j M w (gD j M.length (some g)) (M++[.arr sz 0 (y::r)]) w':=Ext.push (fun b h=>(hob b h).1) q hb.block
   refine⟨_,gD j M.length (some g),rfl,hr.push hob q hb.block (fun h=>by cases h) (fun sz n b h _=>by cases h) (fun sz0 v0 xs0 he=>?_),ext,?_⟩
   ·injection he with e1 e2 e3
    subst e1; subst e3;have hat:∀j' M',Ext j M w j' M' w'->Eg j' M' w' g sz (y::r):=fun j' M' hx=>ma hg' hw (hrl.mono hx.im) hcl
    refine .inr ⟨g,cur,E,rfl,hg',by rw[hcs]; grind,hw,fun j' M' hx q x k c hx' hk=>?_⟩
    obtain⟨vs,t,a1,a2,a3,a4⟩:=hat j' M' hx;rw[hg'] at a1; injection a1 with a1; injection a1 with a1 a1'
    subst a1;exact a4 q x k c hx' hk
   ·refine .cY (.inl ⟨g,0,cap',rfl,aM⟩) dk (fun bx hbx=>by rw[kd] at hbx; cases hbx; rfl) fun sz' v' xs hx=>?_
    rw[kd] at hx; injection hx with hx; injection hx with e1 e2 e3
    subst e1; subst e2; subst e3;exact⟨ak _,fun _=>⟨rfl,ct _,ak _,.inr ⟨g,cap',cur,E,by simp[gD],dk,aM,hg',by rw[aN]; omega⟩⟩⟩
 ·cases h
theorem aaX(hsz:0<sz)(hby:bytes*8<=2 ^ 20/\0<bytes)
  (hC:B9 P f E sz bytes) (h0:zl P f)
  {args:List ag} {M:aO} {x:ag×aO} (h:ZN sz bytes args M=some x):eZ P f args M x:=by
 unfold ZN at h;split at h
 ·rename_i tk xs;refine nK.call ?_;intro j w vs hr hG hl hv;obtain⟨u,rfl⟩:=Ck hl;have h1:=(hv 0 _ u rfl rfl).xv;obtain⟨⟨hw,hroom⟩,h⟩:=dw h;cases h;obtain⟨A,cap,rfl,hcap,h2⟩:=nY h1 hw;rcases h2 with rfl|⟨b,off,rfl,us,hrl,hul,hone,hcell⟩
  ·refine(h0 A cap w).mono ?_;rintro e w' ⟨⟨B,rfl⟩,hb⟩;exact⟨_,j,rfl,hr.grow hb.size hb.os hb.tape hb.output hb.block,Ext.grow hb.size hb.os hb.tape hb.output hb.block,.plain (fK.nil _ _ _)⟩
  ·unfold dY at hroom;have hle  := bg (fA _ hby.2) hroom;refine(hC b off xs.length cap us w hul (by grind [maxLen]) aM (fun p u hp=>(hcell p u hp).1) hone).mono ?_
   rintro e w' ⟨v',rfl,⟨_,hown⟩,hnn,hb⟩;obtain⟨g,cap',cur,rfl,hg,hg',hn1,_,hcs,htk⟩:=hown.resolve_left (fun h=>hnn h.1)
   have ext:Ext j M w j M w':=Ext.grow hb.size hb.os hb.tape hb.output hb.block;refine⟨_,j,rfl,hr.grow hb.size hb.os hb.tape hb.output hb.block,ext,.plain ?_⟩
   have hcl:∀p,p<us.length->cur[p]?=us[p]?:=fun p hp=>by
    rw[<-htk,bM aM]; simp
   obtain⟨vs,t,a1,a2,a3,a4⟩:=ma (j':=j) hg' hw (hrl.mono ext.im) hcl;rw[hg'] at a1; injection a1 with a1; injection a1 with a1 a1'
   subst a1;have:=xH hg' a3 a4 (fun b off h=>h) (fun off ho=>⟨lt_of_block hg',fun id hid hji=>by have:=hr.lt id g hid hji; omega,fun hx=>by have:=hr.Ah g off hx; omega⟩) (ct _) (ak _) aM
   simpa using this
 grind
theorem Gp(hsz:0<sz)(hby:bytes*8<=2 ^ 20/\0<bytes)
  (hC:B9 P f E sz bytes) (h0:zl P f)
  {args:List ag} {M:aO} {x:ag×aO} (h:x8 sz bytes args M=some x):eZ P f args M x:=by
 unfold x8 at h;split at h
 ·rename_i tk xs;refine nK.call ?_;intro j w vs hr hG hl hv;obtain⟨u,rfl⟩:=Ck hl;have h1:=(hv 0 _ u rfl rfl).xv;obtain⟨⟨hw,hroom⟩,h⟩:=dw h;cases h;obtain⟨A,cap,rfl,hcap,h2⟩:=nY h1 hw;rcases h2 with rfl|⟨b,off,rfl,us,hrl,hul,hone,hcell⟩
  ·refine(h0 A cap w).mono ?_;rintro e w' ⟨⟨B,rfl⟩,hb⟩;have q:Quiet w w':=⟨hb.size,hb.os,hb.tape,hb.output⟩;refine⟨_,gD j M.length none,rfl,hr.push (fun b h=>by cases h) q hb.block (fun h=>by cases h) (fun _ _ _ _ h=>by cases h),Ext.push (fun b h=>by cases h) q hb.block,?_⟩
   refine .own (kd ..) (ak _) (fK.nil _ _ _) fun _ => .inl ⟨by simp[gD],rfl,B,rfl⟩
  ·unfold dY at hroom;have hle:xs.length<=2 ^ 44:=bg (fA _ hby.2) hroom;refine(hC b off xs.length cap us w hul (by grind [maxLen]) aM (fun p u hp=>(hcell p u hp).1) hone).mono ?_
   rintro e w' ⟨v',rfl,⟨_,hown⟩,hnn,hb⟩;obtain⟨g,cap',cur,rfl,hg,hg',hn1,_,hcs,htk⟩:=hown.resolve_left (fun h=>hnn h.1)
   have q:Quiet w w':=⟨hb.size,hb.os,hb.tape,hb.output⟩;have hob:∀b,some g=some b->w.heap.size<=b/\b<w'.heap.size:=fun b h=>kW
   have ext:Ext j M w (gD j M.length (some g)) (M++[.tick sz xs.length]) w':=Ext.push (fun b h=>(hob b h).1) q hb.block
   refine⟨_,gD j M.length (some g),rfl,hr.push hob q hb.block (fun h=>by cases h) (fun _ _ b _ h=>kW),ext,?_⟩
   have hcl:∀p,p<us.length->cur[p]?=us[p]?:=fun p hp=>by
    rw[<-htk,bM (by rw[<-hul]; exact hp)]; simp
   obtain⟨vs,t,a1,a2,a3,a4⟩:=ma (j':=gD j M.length (some g)) (M':=M++[.tick sz xs.length]) hg' hw (hrl.mono ext.im) hcl;rw[hg'] at a1; injection a1 with a1; injection a1 with a1 a1'
   subst a1
   have:=xH (lo:=0) (hi:=xs.length) (cap:=cap') hg' a3 a4 (fun b off h=>h) (fun off ho=>⟨lt_of_block hg',fun id hid hji=>by
    rcases bK id M.length with hid'|hid'
    ·have hj:j id=some g:=by simpa[gD,gA hid'] using hji
     have:=hr.lt id g hid' hj; omega
    grind,fun hx=>by have:=hr.Ah g off hx; omega⟩) (ct _) (ak _) aM
   refine .own (kd ..) (ak _) (by simpa using this) fun _ => .inr ⟨g,cap',cur,E,by simp[gD],dk,hg',aM,aM⟩
 ·cases h
def vV(hsz:0<sz){z:List Value}(hz:z.length=sz)
  (hD:X9 P f sz z)
  {args:List ag} {M:aO} {x:ag×aO} (h:oS sz args M=some x):eZ P f args M x:=by
 unfold oS at h;split at h
 ·rename_i id ver sz' lo hi i i';rw[eY] at h;split at h
  ·rename_i sz0 v0 xs hM;obtain⟨hc,h⟩:=dw h;cases h;obtain⟨rfl,rfl,rfl,rfl,hi0,hin,rfl,hbig⟩:=hc;refine nK.call ?_;intro j w vs hr hG hl hv;obtain⟨u1,u2,u3,rfl⟩:=DV hl;have h2:=(hv 1 _ u2 rfl rfl).fS;have h3:=(hv 2 _ u3 rfl rfl).fS;subst h2; subst h3;obtain⟨_,hid,_,g⟩:=(hv 0 _ u1 rfl rfl).mQ;obtain⟨e1,_,_,⟨rfl,l3,B,rfl⟩|⟨b,cap,row,t0,l3,l4,l5,l6,l7⟩⟩:=(g sz0 v0 xs hM).2 rfl
   ·exact absurd hin dk
   subst e1; subst l4;obtain⟨b',row',t',k1,k2,k3,k4,k5⟩:=hr.yF hM l3;rw[l3] at k1; cases k1;rw[l6] at k2; injection k2 with k2; injection k2 with k2 k2'
   subst k2; subst k2';have hrow:=xG (b:=b) k3 k4 k5;rw[cd] at l5;rw[aN] at l7;generalize hcs:row.toList.take (xs.length*sz0)=cs at hrow;have hcl:cs.length=xs.length*sz0:=by rw[<-hcs]; simp; omega
   have hat:∀p v,cs[p]?=some v->row[p]?=some v:=fun p v hp=>by
    have cA:p<xs.length*sz0:=by rw[<-hcl]; exact aJ hp
    rw[<-hcs,bM cA] at hp; simpa using hp
   obtain⟨m,rfl⟩:∃m:Nat,i=m:=⟨i.toNat,(oD (by assumption)).symm⟩
   simp only[bj] at hin ⊢;have e0:((m:Int)+1)=((m+1:Nat):Int):=rfl;rw[cd,jv,e0];refine(hD b cap m (m+1) xs.length cs w hcl l5 aM hin rfl (fun p v hp=>⟨by simp[World.cell?,l6,hat p v hp],by simp[World.frozen?,l6],?_⟩)).mono ?_
   ·have hp':p<(jM xs).length:=by rw[hrow.1]; exact aJ hp
    exact fK.one (hrow.2 p _ v (ai hp') hp)
   ·rintro e w' ⟨rfl,hw'⟩;rw[oz,oz] at hw';have hl1:(cs.drop ((m+1)*sz0)).length=(xs.length-(m+1))*sz0:=by rw[jg,hcl,lX]
    have ha1:(m+1)*sz0=m*sz0+sz0:=by rw[cg,fM]
    have ha2:(xs.length-(m+1))*sz0=xs.length*sz0-(m*sz0+sz0):=by rw[lX,ha1]
    have ha3:(xs.length-1)*sz0=xs.length*sz0-sz0:=by rw[lX,fM]
    have ha4:m*sz0+sz0<=xs.length*sz0:=by rw[<-ha1]; exact bd _ hin
    have hd:w.drew.heap=w.heap:=rfl;obtain⟨s1,s2,s3,s4,s5,r1,s6,s7,s8,s9⟩:=lU (t:=t0) (cs.drop ((m+1)*sz0)) w.drew (m*sz0) row (by rw[hd]; exact l6) (by rw[hl1]; omega)
    obtain⟨q1,q2,q3,q4,q5,r2,q6,q7,q8,q9⟩:=lU (t:=t0) z _ ((xs.length-1)*sz0) r1 s6 (by rw[hz,s7]; omega)
    rw[<-hw'] at q1 q2 q3 q4 q5 q6;have hwd:wid (xs.take m++xs.drop (m+1)) sz0:=nr (vJ k4) (vH k4)
    have iC:RL w (ow j M w) (jM (xs.take m++xs.drop (m+1))) (cs.take (m*sz0)++cs.drop ((m+1)*sz0)):=by
     rw[oO,rY m k4,uc (m+1) k4];exact(hrow.take _).append (hrow.drop _)
    have htk:(cs.take (m*sz0)).length=m*sz0:=by rw[fL,hcl]; omega
    have hput:=xF (ver':=v0+1) (xs':=xs.take m++xs.drop (m+1)) hr hM l3 (w':=w') ⟨by rw[q1,s1]; simp,q2.trans s2,q3.trans s3,q4.trans s4⟩ (fun b' hb' _=>(q5 b' hb').trans (s5 b' hb')) l6 q6 (q7.trans s7) aM (fun h=>aM) hwd iC (fun p hp=>by
     rw[aR,htk,hl1] at hp;rw[q8 p (.inl aM)];rcases bK p (m*sz0) with c1|c1
     ·rw[s8 p (.inl c1),bh (by rw[htk]; exact c1),bM c1]
      have hp1:p<cs.length:=aM;rw[hat p _ (ai hp1),ai hp1]
     ·rw[bA (by rw[htk]; exact c1),htk]
      have:=s9 (p-m*sz0) (by rw[hl1]; omega)
      rw[dn c1] at this;exact this)
    rw[fJ];refine⟨_,j,rfl,hput.1,hput.2,.cY (.inl ⟨b,0,cap,rfl,aM⟩) (by simpa using hid) (fun bx hbx=>by rw[dZ (aJ hM)] at hbx; cases hbx; rfl) fun sz' v' ys hx=>?_⟩
    rw[dZ (aJ hM)] at hx; injection hx with hx; injection hx with e1 e2 e3
    subst e1; subst e2; subst e3;exact⟨ak _,fun _=>⟨rfl,ct _,ic,.inr ⟨b,cap,r2,t0,l3,dk,aM,q6,by rw[aN,q7,s7]; exact l7⟩⟩⟩
  ·cases h
 ·cases h
end
section
variable {sz:Nat} {w:World} {b n c i:Nat} {row:Array Value} {t:TypeId} {cs vs:List Value} {e:Ending} {w':World}
def rS(w:World)(o:Obj):(w.alloc o).heap=w.heap.push o:=rfl
def tL(w:World):w.drew.heap=w.heap:=rfl
def BT{A B C:List Value}{p:Nat}:(A++(B++C))[p]?=if p<A.length then A[p]? else if p<A.length+B.length then B[p-A.length]? else C[p-A.length-B.length]?:=by
 split
 ·rw[bh (by assumption)]
 ·rw[bA aM];split
  ·rw[bh aM]
  ·rw[bA aM]
def Ob(hi:i<n)(hroom:n+1<=c)(hcl:cs.length=n*sz)(hvl:vs.length=sz)(hw:w.heap[b]?=some (.cells row t (0,0)))(hrow:c*sz<=row.size)(hat:∀(p:Nat)(v:Value),cs[p]?=some v->row[p]?=some v)
  (he:e = .returned (.slice (some ⟨b,0,none⟩) (n+1) c)) (hw':w'=(w.drew.setCells b ((i+1)*sz) (cs.drop (i*sz))).setCells b (i*sz) vs):xC sz w b row t n i cs vs e w':=by
 have a1:(i+1)*sz=i*sz+sz:=by rw[cg,fM]
 have a2:(n+1)*sz=n*sz+sz:=by rw[cg,fM]
 have a3:i*sz+sz<=n*sz:=by rw[<-a1]; exact bd _ hi
 have a4:(n+1)*sz<=row.size:=bg (bd _ hroom) hrow;have hdl:(cs.drop (i*sz)).length=n*sz-i*sz:=by rw[jg,hcl]
 rw[oz,oz] at hw';obtain⟨s1,s2,s3,s4,s5,r1,s6,s7,s8,s9⟩:=lU (t:=t) (cs.drop (i*sz)) w.drew ((i+1)*sz) row hw aM;obtain⟨q1,q2,q3,q4,q5,r2,q6,q7,q8,q9⟩:=lU (t:=t) vs _ (i*sz) r1 s6 aM;rw[<-hw'] at q1 q2 q3 q4 q5 q6;have htk:(cs.take (i*sz)).length=i*sz:=by rw[fL,hcl]; omega
 refine⟨b,c,r2,t,he,hroom,q6,by rw[q7,s7]; exact hrow,fun p hp=>?_,⟨by rw[q1,s1]; exact ak _,q2.trans s2,q3.trans s3,q4.trans s4⟩,.inl ⟨rfl,rfl,q7.trans s7,fun b0 h0 _=>(q5 b0 h0).trans (s5 b0 h0)⟩⟩
 rw[BT,htk,hvl];split
 ·rename_i c1;rw[q8 p (.inl c1),s8 p (.inl aM),bM c1];have hp1:p<cs.length:=aM;rw[hat p _ (ai hp1),ai hp1]
 ·rename_i c1;split
  ·have:=q9 (p-i*sz) aM;rwa[dn aM] at this
  ·rw[q8 p (.inr aM)];have:=s9 (p-(i+1)*sz) aM;rw[dn aM] at this;rw[this]; congr 1; omega
def Q8(hroom:n+1<=c)(hcl:cs.length=n*sz)(hvl:vs.length=sz)(hw:w.heap[b]?=some (.cells row t (0,0)))(hrow:c*sz<=row.size)(hat:∀(p:Nat)(v:Value),cs[p]?=some v->row[p]?=some v)
  (he:e = .returned (.slice (some ⟨b,0,none⟩) (n+1) c)) (hw':w'=w.setCells b (n*sz) vs):xC sz w b row t n n cs vs e w':=by
 have a2:(n+1)*sz=n*sz+sz:=by rw[cg,fM]
 have a4:(n+1)*sz<=row.size:=bg (bd _ hroom) hrow;rw[oz] at hw';obtain⟨q1,q2,q3,q4,q5,r2,q6,q7,q8,q9⟩:=lU (t:=t) vs w (n*sz) row hw aM;rw[<-hw'] at q1 q2 q3 q4 q5 q6;refine⟨b,c,r2,t,he,hroom,q6,by rw[q7]; exact hrow,fun p hp=>?_,⟨by rw[q1]; exact ak _,q2,q3,q4⟩,.inl ⟨rfl,rfl,q7,fun b0 h0 _=>q5 b0 h0⟩⟩
 rw[<-hcl,bT,gY,cu];rcases bK p cs.length with c1|c1
 ·rw[q8 p (.inl aM),bh c1,hat p _ (ai c1),ai c1]
 ·rw[bA c1];have:=q9 (p-n*sz) aM;rw[dn aM] at this;rw[this,hcl]
def zK{z:Value}{E:TypeId}(hsz:0<sz)(hz:z.cells.size=sz)(hcl:cs.length=n*sz)(hvl:vs.length=sz)(hG:n+1<=c)
  (he:e = .returned (.slice (some ⟨w.heap.size,0,none⟩) (n+1) c)) (hw':w'=w.drew.alloc (.cells ((cs++vs).toArray++Builtin.zeroCells z.cells (c-(n+1))) E)):xC sz w b row t n n cs vs e w':=by
 have a2:(n+1)*sz=n*sz+sz:=by rw[cg,fM]
 have hzl:(Builtin.zeroCells z.cells (c-(n+1))).size=(c-(n+1))*sz:=by simp[Builtin.zeroCells,hz]
 have a3:c*sz=(n+1)*sz+(c-(n+1))*sz:=by rw[<-cg,dn hG]
 subst hw';refine⟨w.heap.size,c,(cs++vs).toArray++Builtin.zeroCells z.cells (c-(n+1)),E,he,hG,by rw[rS,tL]; simp,by simp[hzl,hcl,hvl]; omega,fun p hp=>?_,⟨by rw[rS,tL]; simp,rfl,rfl,rfl⟩,.inr ⟨ak _,fun b0 h0=>by rw[rS,tL]; simp[fR,gA h0]⟩⟩
 rw[cy ic,<-hcl,bT,gY,cu];simp
def Q7{z:Value}{E:TypeId}(hsz:0<sz)(hz:z.cells.size=sz)(hi:i<n)(hcl:cs.length=n*sz)(hvl:vs.length=sz)(hG:n+1<=c)
  (he:e = .returned (.slice (some ⟨w.heap.size,0,none⟩) (n+1) c))
  (hw':w'=(((w.alloc (.cells ((cs.take (i*sz)).toArray++Builtin.zeroCells z.cells (n+1-i)++Builtin.zeroCells z.cells (c-(n+1))) E)).drew.setCells w.heap.size (i*sz) vs).drew).setCells w.heap.size ((i+1)*sz) (cs.drop (i*sz))):xC sz w b row t n i cs vs e w':=by
 have a1:(i+1)*sz=i*sz+sz:=by rw[cg,fM]
 have a2:(n+1)*sz=n*sz+sz:=by rw[cg,fM]
 have a3:i*sz+sz<=n*sz:=by rw[<-a1]; exact bd _ hi
 have hz1:(Builtin.zeroCells z.cells (n+1-i)).size=(n+1-i)*sz:=by simp[Builtin.zeroCells,hz]
 have hz2:(Builtin.zeroCells z.cells (c-(n+1))).size=(c-(n+1))*sz:=by simp[Builtin.zeroCells,hz]
 have a4:c*sz=(n+1)*sz+(c-(n+1))*sz:=by rw[<-cg,dn hG]
 have a5:(n+1)*sz=i*sz+(n+1-i)*sz:=by rw[<-cg,dn aM]
 have htk:(cs.take (i*sz)).length=i*sz:=by rw[fL,hcl]; omega
 have hdl:(cs.drop (i*sz)).length=n*sz-i*sz:=by rw[jg,hcl]
 generalize hR:(cs.take (i*sz)).toArray++Builtin.zeroCells z.cells (n+1-i)++Builtin.zeroCells z.cells (c-(n+1))=ROW at hw';have hRs:ROW.size=c*sz:=by rw[<-hR]; simp only[fU,hz1,hz2,dI,htk]; omega
 have hR0:∀p,p<i*sz->ROW[p]?=cs[p]?:=fun p hp=>by
  rw[<-hR,cy (by simp only[fU,hz1,dI,htk]; omega),cy (by simp only[dI,htk]; exact hp)]
  simp[bM hp]
 rw[oz,oz] at hw';have h0:((w.alloc (.cells ROW E)).drew).heap[w.heap.size]?=some (.cells ROW E (0,0)):=by rw[tL,rS]; simp
 obtain⟨s1,s2,s3,s4,s5,r1,s6,s7,s8,s9⟩:=lU (t:=E) vs _ (i*sz) ROW h0 aM;obtain⟨q1,q2,q3,q4,q5,r2,q6,q7,q8,q9⟩:=lU (t:=E) (cs.drop (i*sz)) (pf ((w.alloc (.cells ROW E)).drew) w.heap.size (i*sz) vs).drew ((i+1)*sz) r1 s6 aM;rw[<-hw'] at q1 q2 q3 q4 q5 q6;have hpush:((w.alloc (.cells ROW E)).drew).heap.size=w.heap.size+1:=by rw[tL,rS]; simp
 refine⟨w.heap.size,c,r2,E,he,hG,q6,aM,fun p hp=>?_,⟨?_,q2.trans s2,q3.trans s3,q4.trans s4⟩,.inr ⟨ak _,fun b0 hb0=>?_⟩⟩
 ·rw[BT,htk,hvl];split
  ·rename_i c1;rw[q8 p (.inl aM),s8 p (.inl c1),hR0 p c1,bM c1]
  ·rename_i c1;split
   ·rw[q8 p (.inl aM)];have:=s9 (p-i*sz) aM;rwa[dn aM] at this
   ·have:=q9 (p-(i+1)*sz) aM;rw[dn aM] at this;rw[this]; congr 1; omega
 ·have e1:(pf ((w.alloc (.cells ROW E)).drew) w.heap.size (i*sz) vs).drew.heap.size=(pf ((w.alloc (.cells ROW E)).drew) w.heap.size (i*sz) vs).heap.size:=rfl;omega
 ·rw[q5 b0 aM];refine(s5 b0 aM).trans ?_;rw[tL,rS]; simp[fR,gA hb0]
end
def we{P:Program}{f sz bytes:Nat}(hsz:0<sz)(hby:0<bytes)
  (hI:PH P f sz bytes) (h0:PI P f sz)
  {args:List ag} {M:aO} {x:ag×aO} (h:nI sz bytes args M=some x):eZ P f args M x:=by
 unfold nI at h;split at h
 ·rename_i id ver sz' lo hi i tk el;rw[eY] at h;split at h
  ·rename_i sz0 v0 xs hM;obtain⟨hc,h⟩:=dw h;cases h;obtain⟨rfl,rfl,rfl,rfl,hi0,hin,hel,hroom⟩:=hc;refine nK.call ?_;intro j w vs hr hG hl hv;obtain⟨u1,u2,u3,rfl⟩:=DV hl;have h2:=(hv 1 _ u2 rfl rfl).fS;subst h2;have h3:=(hv 2 _ u3 rfl rfl).xv;have hwe:wid [el] sz':=fun y hy=>by rw[bU.1 hy]; exact hel
   obtain⟨A,vc,rfl,_,h4⟩:=nY h3 hwe;obtain⟨vb,voff,rfl,us,hrl,hul,hone,hcell⟩:=h4.resolve_left dk;obtain⟨_,hid,_,g⟩:=(hv 0 _ u1 rfl rfl).mQ;obtain⟨e1,_,_,⟨rfl,l3,B,rfl⟩|⟨b,cap,row,t0,l3,l4,l5,l6,l7⟩⟩:=(g sz0 v0 xs hM).2 rfl
   ·subst e1;have hm0:i=0:=by simp at hin; omega
    subst hm0;have hvl:us.length=sz0:=by simpa using hul
    refine(h0 B vb voff vc us w #[] hvl (fun p v hp=>(hcell p v hp).1) hone).mono ?_
    rintro e w' ⟨b',cap',row',t',rfl,d1,d2,d3,d4,q,d5⟩
    have hbk:w.heap.size<=b'/\∀b0,b0<w.heap.size->w'.heap[b0]?=w.heap[b0]?:=by
     rcases d5 with ⟨rfl,_,_,d7⟩|d5
     ·exact⟨ak _,fun b0 hb0=>d7 b0 (gA hb0) hb0⟩
     ·exact d5
    have hrel:=Rel.uS (ver':=v0+1) (xs':=[el]) hM hr q hbk.2 hbk.1 (lt_of_block d2) aM (fun j' M' hx=>ma d2 hwe (hrl.mono hx.im) (fun p hp=>by have:=d4 p aM; simpa using this))
    have hext:=Ext.uS (j:=j) (ver':=v0+1) (xs':=[el]) hM q hbk.2 hbk.1 aM;rw[fJ];refine⟨_,_,rfl,by simpa using hrel,by simpa using hext,.cY (.inl ⟨b',0,cap',rfl,by simpa using d1⟩) (by simpa using hid) (fun bx hbx=>by rw[dZ (aJ hM)] at hbx; cases hbx; rfl) fun sz' v' ys hx=>?_⟩
    rw[dZ (aJ hM)] at hx; injection hx with hx; injection hx with e1 e2 e3
    subst e1; subst e2; subst e3;exact⟨ak _,fun _=>⟨rfl,ct _,dk,.inr ⟨b',cap',row',t',by simp[gD],dk,by simpa using d1,d2,by rw[aN]; exact d3⟩⟩⟩
   subst e1; subst l4;obtain⟨b',row',t',k1,k2,k3,k4,k5⟩:=hr.yF hM l3;rw[l3] at k1; cases k1;rw[l6] at k2; injection k2 with k2; injection k2 with k2 k2'
   subst k2; subst k2';have hrow:=xG (b:=b) k3 k4 k5;rw[cd] at l5;rw[aN] at l7;generalize hcs:row.toList.take (xs.length*sz0)=cs at hrow;have hcl:cs.length=xs.length*sz0:=by rw[<-hcs]; simp; omega
   have hat:∀p v,cs[p]?=some v->row[p]?=some v:=fun p v hp=>by
    have cA:p<xs.length*sz0:=by rw[<-hcl]; exact aJ hp
    rw[<-hcs,bM cA] at hp; simpa using hp
   obtain⟨m,rfl⟩:∃m:Nat,i=m:=⟨i.toNat,(oD (by assumption)).symm⟩
   simp only[bj] at hin ⊢;unfold dY at hroom;have hbig:xs.length+1<=2 ^ 44:=bg (fA _ hby) hroom;have hvl:us.length=sz0:=by simpa using hul
   have hvb:vb≠b:=by
    rintro rfl;obtain⟨s,n,hs1,_⟩:=(hcell 0 _ (ai aM)).2.ids id hid l3;rw[hM] at hs1; cases hs1
   rw[cd,jv];refine(hI b xs.length cap m vb voff vc cs us w row t0 hin l5 aM aM hvb hcl hvl l6 l7 hat (fun p v hp=>(hcell p v hp).1) (fun v hv=>?_) hone).mono ?_
   ·obtain⟨p,hp⟩:=bX hv;have hp':p<(jM xs).length:=by rw[hrow.1]; exact aJ hp
    exact fK.one (hrow.2 p _ v (ai hp') hp)
   ·rintro e w' ⟨b',cap',row',t',rfl,d1,d2,d3,d4,q,d5⟩
    have hwd:wid (xs.take m++el::xs.drop m) sz0:=nr (vJ k4) (fun y hy=>by
     rcases ba.1 hy with rfl|hy
     ·exact hel
     ·exact vH k4 y hy)
    have iC:RL w (ow j M w) (jM (xs.take m++el::xs.drop m)) (cs.take (m*sz0)++(us++cs.drop (m*sz0))):=by
     rw[oO,oQ,rY m k4,uc m k4];have hrl':RL w (ow j M w) el.cells us:=by simpa[jM] using hrl
     exact(hrow.take _).append (hrl'.append (hrow.drop _))
    have fx:(xs.take m++el::xs.drop m).length=xs.length+1:=ic;have hpl:(cs.take (m*sz0)++(us++cs.drop (m*sz0))).length=(xs.length+1)*sz0:=by rw[<-iC.1,iA hwd,fx]
    rw[fJ];rcases d5 with ⟨rfl,rfl,d6,d7⟩|⟨d6,d7⟩
    ·have hput:=xF (ver':=v0+1) (xs':=xs.take m++el::xs.drop m) hr hM l3 q d7 l6 d2 d6 aM (fun h=>aM) hwd iC (fun p hp=>d4 p (by rw[<-hpl]; exact hp))
     refine⟨_,j,rfl,hput.1,hput.2,.cY (.inl ⟨b',0,cap',rfl,aM⟩) (by simpa using hid) (fun bx hbx=>by rw[dZ (aJ hM)] at hbx; cases hbx; rfl) fun sz' v' ys hx=>?_⟩
     rw[dZ (aJ hM)] at hx; injection hx with hx; injection hx with e1 e2 e3
     subst e1; subst e2; subst e3;exact⟨ak _,fun _=>⟨rfl,ct _,aM,.inr ⟨b',cap',row',t',l3,dk,aM,d2,by rw[aN]; exact d3⟩⟩⟩
    ·have hrel:=Rel.uS (ver':=v0+1) (xs':=xs.take m++el::xs.drop m) hM hr q d7 d6 (lt_of_block d2) aM (fun j' M' hx=>ma d2 hwd (iC.mono hx.im) (fun p hp=>d4 p (by rw[<-hpl]; exact hp)))
     have hext:=Ext.uS (j:=j) (ver':=v0+1) (xs':=xs.take m++el::xs.drop m) hM q d7 d6 aM;refine⟨_,_,rfl,hrel,hext,.cY (.inl ⟨b',0,cap',rfl,aM⟩) (by simpa using hid) (fun bx hbx=>by rw[dZ (aJ hM)] at hbx; cases hbx; rfl) fun sz' v' ys hx=>?_⟩
     rw[dZ (aJ hM)] at hx; injection hx with hx; injection hx with e1 e2 e3
     subst e1; subst e2; subst e3;exact⟨ak _,fun _=>⟨rfl,ct _,aM,.inr ⟨b',cap',row',t',by simp[gD],dk,aM,d2,by rw[aN]; exact d3⟩⟩⟩
  ·cases h
 ·rename_i i tk el;obtain⟨hc,h⟩:=dw h;cases h;obtain⟨rfl,hel⟩:=hc;refine nK.call ?_;intro j w vs hr hG hl hv;obtain⟨u1,u2,u3,rfl⟩:=DV hl;have h2:=(hv 1 _ u2 rfl rfl).fS;subst h2;have h3:=(hv 2 _ u3 rfl rfl).xv;have hwe:wid [el] sz:=fun y hy=>by rw[bU.1 hy]; exact hel
  obtain⟨A,vc,rfl,_,h4⟩:=nY h3 hwe;obtain⟨vb,voff,rfl,us,hrl,hul,hone,hcell⟩:=h4.resolve_left dk;obtain⟨B,rfl⟩:=(hv 0 _ u1 rfl rfl).CK;have hvl:us.length=sz:=by simpa using hul
  refine(h0 B vb voff vc us w #[] hvl (fun p v hp=>(hcell p v hp).1) hone).mono ?_
  rintro e w' ⟨b',cap',row',t',rfl,d1,d2,d3,d4,q,d5⟩
  have hbk:w.heap.size<=b'/\∀b0,b0<w.heap.size->w'.heap[b0]?=w.heap[b0]?:=by
   rcases d5 with ⟨rfl,_,_,d7⟩|d5
   ·exact⟨ak _,fun b0 hb0=>d7 b0 (gA hb0) hb0⟩
   ·exact d5
  have hob:∀b,some b'=some b->w.heap.size<=b/\b<w'.heap.size:=fun b h=>by cases h; exact⟨hbk.1,lt_of_block d2⟩
  have ext:Ext j M w (gD j M.length (some b')) (M++[.arr sz 0 [el]]) w':=Ext.push (fun b h=>(hob b h).1) q hbk.2
  refine⟨_,gD j M.length (some b'),rfl,hr.push hob q hbk.2 (fun h=>by cases h) (fun sz n b h _=>by cases h) (fun sz0 v0 xs0 he=>?_),ext,?_⟩
  ·injection he with e1 e2 e3
   subst e1; subst e3;refine .inr ⟨b',row',t',rfl,d2,by simp at d1 d3 ⊢; exact bg (Nat.le_mul_of_pos_left _ aM) d3,hwe,fun j' M' hx q x k c hx' hk=>?_⟩
   obtain⟨vs,t,a1,a2,a3,a4⟩:=ma (j':=j') (M':=M') d2 hwe (hrl.mono hx.im) (fun p hp=>by have:=d4 p aM; simpa using this)
   rw[d2] at a1; injection a1 with a1; injection a1 with a1 a1'
   subst a1;exact a4 q x k c hx' hk
  ·refine .cY (.inl ⟨b',0,cap',rfl,aM⟩) dk (fun bx hbx=>by rw[kd] at hbx; cases hbx; rfl) fun sz' v' xs hx=>?_
   rw[kd] at hx; injection hx with hx; injection hx with e1 e2 e3
   subst e1; subst e2; subst e3;exact⟨ak _,fun _=>⟨rfl,ct _,ak _,.inr ⟨b',cap',row',t',by simp[gD],dk,aM,d2,by rw[aN]; exact d3⟩⟩⟩
 ·cases h
end Go.Abs
namespace Go.Proofs.YtcbopkblmebjiaaGreatDoor
open Go Go.Abs
open Go.RowKit Go.Lib
def F8{P:Program}(w:World){o:Oper}{a:Act}{K:Act->World->Prop}{Q:Exit->Act->World->Prop}(d s:Operand)(t t':TypeId)
  (ho:o.op = .call { callee := .builtin .copy,args := #[d,s],argTypes := #[t,t'] }) (v u:Value) (hd:a.eval d=v) (hs:a.eval s=u) {v':Value} {w':World}
  (hr:(Builtin.copy_ #[t,t'] o.type #[v,u]).run P w = .ok v' w') (h:K (a.put o.dst v') w'):o.wp P a w K Q:=by
 unfold Oper.wp execOp;simp only[ho,resolve,invoke,builtin,Sem.run_bind,Sem.run_pure,Result.andThen_ok,List.map_toArray,a8,bE,hd,hs,hr];exact h
def u7{P:Program}(w:World){ops:Array Oper}{rest:List Oper}{o:Oper}{a:Act}{Q:Exit->Act->World->Prop}(hgd:o.guard=none)(d s:Operand)(t t':TypeId)
  (ho:o.op = .call { callee := .builtin .copy,args := #[d,s],argTypes := #[t,t'] }) (v u:Value) (hd:a.eval d=v) (hs:a.eval s=u) {v':Value} {w':World}
  (hr:(Builtin.copy_ #[t,t'] o.type #[v,u]).run P w = .ok v' w') (h:wpList P ops Q rest (a.put o.dst v') w'):wpList P ops Q (o::rest) a w :=
 wpList_plain hgd fun _ hK=>F8 w d s t t' ho v u hd hs hr (hK _ _ h)
def BS{P:Program}{ops:Array Oper}{o:Oper}{a:Act}{w:World}{K:Act->World->Prop}{Q:Exit->Act->World->Prop}{E:Prop}
  (hg:o.guard=none) (d x:Operand) (dT sT:TypeId) (hop:o.op=Op.call { callee:=Callee.builtin Builtin.copy,args := #[d,x],argTypes := #[dT,sT] })
  (v u:Value) (hd:a.eval d=v) (hx:a.eval x=u) {v':Value} {w':World} (hr:(Builtin.copy_ #[dT,sT] o.type #[v,u]).run P w = .ok v' w') (hK:K (a.put o.dst v') w') :
  if Region.wanted o (yielded ops a.tmps) then Oper.wp P o a w K Q else E:=by
 rw[av (show Region.wanted o (yielded ops a.tmps)=true by simp[Region.wanted,hg])]
 exact F8 w d x dT sT hop v u hd hx hr hK
def Ef{P:Program}{ops:Array Oper}{o:Oper}{a:Act}{w:World}{K:Act->World->Prop}{Q:Exit->Act->World->Prop}{E:Prop}
  (hg:o.guard=none) (d x:Operand) (dT sT:TypeId) (hop:o.op=Op.call { callee:=Callee.builtin Builtin.append,args := #[d,x],argTypes := #[dT,sT] })
  (v u:Value) (hd:a.eval d=v) (hx:a.eval x=u) {v':Value} {w':World} (hr:(Builtin.append_ #[dT,sT] o.type #[v,u]).run P w = .ok v' w') (hK:K (a.put o.dst v') w') :
  if Region.wanted o (yielded ops a.tmps) then Oper.wp P o a w K Q else E:=by
 rw[av (show Region.wanted o (yielded ops a.tmps)=true by simp[Region.wanted,hg])]
 exact wp_append_run w d x dT sT hop v u hd hx v' w' hr hK
section
variable {P:Program} {S E:TypeId} {k by' f fo:Nat} {z:Value}
def ya(w:World)(dT sT ty elem:TypeId)(k b o dLen dCap:Nat)(a:Addr)(sLen sCap:Nat)(cs:List Value)(m:Nat)
  (hu:P.underlying dT=some (.slice elem)) (hs:(P.info? elem).map (·.size)=some k) (hm:m=Nat.min sLen dLen) (hn:cs.length=m*k)
  (hsrc:∀j v,cs[j]?=some v->w.cell? (a.add j)=some v) (hc:∀j,j<cs.length->(w.cell? ⟨b,o+j,none⟩).isSome=true) (hf:∀j,j<cs.length->w.frozen? ⟨b,o+j,none⟩=false) (h1:∀v∈cs,v.oneCell'=true) :
  (Builtin.copy_ #[dT,sT] ty #[.slice (some ⟨b,o,none⟩) dLen dCap,.slice (some a) sLen sCap]).run P w = .ok (goInt m) (w.setCells b o cs):=by
 have hl:=run_loadCells_list (P:=P) w a cs hsrc;have hst:=run_storeCells_cells (P:=P) b o cs 0 w (by simpa using hc) (by simpa using hf) h1
 cases hq:P.info? elem with
 |none=>simp[hq] at hs
 |some i =>
  have hi:i.size=k:=by simpa[hq] using hs
  simp only[dq] at hst;rw[hn] at hl;subst hm;simp[Builtin.copy_,run_underlying hu,Builtin.lenOf,Builtin.firstCells,sizeOf,typeInfo,hq,hi,hl,hst]
def DK(w:World)(tS tR e:TypeId)(ht:P.underlying tS=some (.slice e))(size:Nat)(hz:∀w,(Go.sizeOf e).run P w = .ok size w)
  (a b:Addr) (la ca lb cb:Nat) (hne:a.block≠b.block) (tA tB:TypeId) (kA:Nat) (vs:Array Value) (hsa:w.shape? a.block=some (tA,kA+1)) (hb:w.heap[b.block]?=some (.cells vs tB (0,0))) :
  (Extern.SlicesOverlaps.overlaps #[tS,tS] #[tR] #[.slice (some a) la ca,.slice (some b) lb cb]).run P w = .ok (.bool false) w:=by
 have hnb:(a.block != b.block)=true:=by simpa using hne
 have hnb':(a.block==b.block)=false:=by simpa using hne
 have hsb:w.shape? b.block=some (tB,vs.size):=by simp[World.shape?,hb]
 have hfb:∀o s,w.frozen? ⟨b.block,o,s⟩=false:=fun o s=>by simp[World.frozen?,hb]
 have hfb':w.frozen? b=false:=by simp[World.frozen?,hb]
 rw[show Extern.SlicesOverlaps.overlaps #[tS,tS] #[tR] #[.slice (some a) la ca,.slice (some b) lb cb]=(underlying tS >>= _) from rfl]
 by_cases h0:la=0\/lb=0\/size=0
 ·simp[run_underlying ht,hz,h0]
 ·cases hfa:w.frozen? a with
  |true=>simp[run_underlying ht,hz,h0,hnb,hnb',frozen,noView,viewAt,mayBeOne,stringish,shape,Sem.run,hsa,hsb,hfa,hfb,hfb']
  |false =>
   cases hfe:w.frozen? { block:=a.block,off:=kA+1 } <;>
   simp[run_underlying ht,hz,h0,hnb,hnb',frozen,noView,viewAt,mayBeOne,stringish,shape,Sem.run,hsa,hsb,hfa,hfb,hfb',hfe]
def B7(w:World)(t e ty:TypeId)(ht:P.underlying t=some (.slice e)){i:TypeInfo}(hi:P.info? e=some i){z:Value}(hz:i.zero=some z)(b o n c:Nat)(hn:0<n)
  (zs:List Value) (hzs:zs=(Builtin.zeroCells z.cells n).toList) (hc:∀j,j<zs.length->(w.cell? ⟨b,o+j,none⟩).isSome=true) (hf:∀j,j<zs.length->w.frozen? ⟨b,o+j,none⟩=false) (h1:∀v∈zs,v.oneCell'=true) :
  (Builtin.clear_ #[t] ty #[.slice (some ⟨b,o,none⟩) n c]).run P w = .ok (.tuple #[]) (w.setCells b o zs):=by
 have hst:=run_storeCells_cells (P:=P) b o zs 0 w (by simpa using hc) (by simpa using hf) h1
 simp only[dq] at hst;rw[hzs] at hst;obtain⟨m,rfl⟩:∃m,n=m+1:=⟨n-1,aM⟩;rw[hzs];simp[Builtin.clear_,run_underlying ht,zeroValue,typeInfo,hi,hz,hst]
def qU(b:Nat)(vs:List Value)(o:Nat)(w:World)(h:∀j,j<vs.length->(w.cell? ⟨b,o+j,none⟩).isSome=true)(k:Nat)(hk:(w.cell? ⟨b,k,none⟩).isSome=true):((w.setCells b o vs).cell? ⟨b,k,none⟩).isSome=true:=by
 by_cases hin:o<=k/\k<o+vs.length
 ·have:=World.cell?_setCells_in b vs o w h (k-o) aM;rw[show o+(k-o)=k by omega] at this
  rw[this];simp
 ·rw[World.cell?_setCells_out b vs o w ⟨b,k,none⟩ (fun _ _=>by show k<o\/o+vs.length<=k; omega)]
  exact hk
structure El(P:Program)(S E:TypeId)(k by':Nat)(z:Value):Prop where
 u:P.underlying S=some (.slice E)
 i:∃i0,P.info? E=some i0/\i0.size=k/\i0.zero=some z/\i0.bytes=by'
 c:z.cells.size=k
 o:∀v∈z.cells.toList,v.oneCell'=true
 p:0<k
 b:0<by'
def El.of(hu:P.underlying S=some (.slice E))(hi:(P.info? E).map (fun i=>(i.size,i.zero,i.bytes))=some (k,some z,by'))(hc:z.cells.size=k/\z.cells.toList.all (·.oneCell')=true)(hp:0<k)(hb:0<by'):El P S E k by' z:=by
 obtain⟨i0,h1,h2⟩:=aW.1 hi;injection h2 with h2 h3
 injection h3 with h3 h4
 exact⟨hu,⟨i0,h1,h2,h3,h4⟩,hc.1,bF.1 hc.2,hp,hb⟩
def El.s(h:El P S E k by' z):(P.info? E).map (·.size)=some k:=by
 obtain⟨i0,h1,h2,_⟩:=h.i;rw[h1]; simp[h2]
def El.so(h:El P S E k by' z)(w:World):(Go.sizeOf E).run P w = .ok k w:=by
 obtain⟨i0,h1,h2,_⟩:=h.i;simp[sizeOf,typeInfo,h1,h2]
def El.q(h:El P S E k by' z):(∀(w:World)(a:Option Addr)(n c n' c':Nat),(binOp .eql S (.slice a n c) (.slice none n' c')).run P w = .ok (.bool a.isNone) w)/\∀w,Sem.run P (underlying S) w = .ok (TypeDesc.slice E) w :=
 ⟨fun w a n c n' c'=>Lib.run_eql_slice_nil w _ _ a n c n' c' h.u,run_underlying h.u⟩
def Cs(P:Program)(f:Nat)(S E:TypeId):Prop:=∀(b off n c:Nat)(w:World)(K:Value->World->Prop),
 (∀ {ops:Array Oper} {rest:List Oper} {o:Oper} {a:Act} {Q:Exit->Act->World->Prop},o.guard=none->∀s x,o.op = .call { callee := .builtin .append,args := #[s,x],argTypes := #[S,S] }->a.eval s = .slice (some ⟨w.heap.size,0,none⟩) 0 0 ->
  a.eval x = .slice (some ⟨b,off,none⟩) n c->(∀v' w1,K v' w1->wpList P ops Q rest (a.put o.dst v') w1)->wpList P ops Q (o::rest) a (w.alloc (.cells #[] E))) ->
 Calls P f #[.slice (some ⟨b,off,none⟩) n c] w fun e w'=>∃v',e = .returned v'/\K v' w'
def Cr(P:Program)(f:Nat)(S E:TypeId):Prop:=∀(A:Option Addr)(c:Nat)(w:World),
 (∀ty a,(Builtin.append_ #[S,S] ty #[.slice (some ⟨w.heap.size,0,none⟩) 0 0,.slice (some a) 0 c]).run P (w.alloc (.cells #[] E)) = .ok (.slice (some ⟨w.heap.size,0,none⟩) 0 0) (w.alloc (.cells #[] E))) ->
 Calls P f #[.slice A 0 c] w fun e w'=>(∃B,e = .returned (.slice B 0 0))/\(w'=w\/w'=w.alloc (.cells #[] E))
def zy(h:El P S E k by' z)(hw:Cs P f S E):B9 P f E k by':=by
 intro b off n c news w hl hn hbig hc h1;obtain⟨i0,g1,g2,g3,g4⟩:=h.i;refine(hw b off n c w (fun v' w'=>w'.ownsRow w.heap.size E k v' n news/\v' ≠ .slice none 0 0/\Below w.heap.size w w') ?_).mono fun e w' ⟨v',e1,e2⟩=>⟨v',e1,e2⟩
 intro ops rest o a Q hg s x ho hs hx hK;refine wpList_append_own _ hg s x S ho w.heap.size E i0 z k by' h.u g1 g3 g2 g4 h.c h.p _ _ _ hs (World.ownsRow_made w #[] 0 (ak _) (ct _) dk) ⟨b,off,none⟩ n c news hx hl (fun j u hj=>?_) h1 (by rw[aN]; exact hn) (by rw[aN]; exact hbig) dk ?_
 ·rw[Addr.add_lit];exact Lib.cell?_alloc_some _ (hc j u hj)
 ·intro v' w1 hown hgrow hnil;refine hK v' w1 ⟨by simpa using hown,by simpa using hnil,?_⟩
  exact((Below.refl _ w).alloc (ak _) _).grown hgrow dk (by intro k hk; simp[Value.ownBlock] at hk; omega)
def xK(h:El P S E k by' z)(hw:Cr P f S E):zl P f:=by
 intro A c w;refine(hw A c w fun ty a=>?_).mono fun e w' ⟨h1,h2⟩=>⟨h1,?_⟩
 ·simp[Builtin.append_,run_underlying h.u,h.so,Builtin.lenOf,Builtin.firstCells,loadCells,loadCellsFrom,storeCells]
 ·rcases h2 with rfl|rfl
  ·exact Below.refl _ _
  ·exact(Below.refl _ w).alloc (ak _) _
def U3(P:Program)(f:Nat)(S:TypeId)(k:Nat):Prop:=∀(blk cap i j n:Nat)(A:Addr)(w W1 W2:World),(if cap=j then some (⟨blk,0,none⟩:Addr) else some ⟨blk,j*k,none⟩)=some A ->
 (∀ty,(Builtin.append_ #[S,S] ty #[.slice (some ⟨blk,0,none⟩) i cap,.slice (some A) (n-j) (cap-j)]).run P w.drew = .ok (.slice (some ⟨blk,0,none⟩) (i+(n-j)) cap) W1) ->
 (∀ty,(Builtin.clear_ #[S] ty #[.slice (some ⟨blk,(i+(n-j))*k,none⟩) (n-(i+(n-j))) (cap-(i+(n-j)))]).run P W1 = .ok (.tuple #[]) W2) ->
 n<=cap->n<=9223372036854775807->i<n->i<=cap->i<j->j<=cap->j<=n ->
 Calls P f #[.slice (some ⟨blk,0,none⟩) n cap,.int .i64 i,.int .i64 j] w fun e w'=>e = .returned (.slice (some ⟨blk,0,none⟩) (i+(n-j)) cap)/\w'=W2
def J7(h:El P S E k by' z)(hw:U3 P f S k):X9 P f k z.cells.toList:=by
 intro blk cap i j n cs w hl hcap hm hi hj hH;obtain⟨i0,g1,g2,g3,g4⟩:=h.i;have a1:j*k=i*k+k:=by rw[hj,mF]
 have a2:j*k<=n*k:=bd _ aM;have a3:(n-j)*k=n*k-j*k:=lX ..;have a4:(n-1)*k=n*k-k:=by rw[lX,fM]
 obtain⟨news,hnews⟩:∃news,news=cs.drop (j*k):=⟨_,rfl⟩;have fx:news.length=(n-j)*k:=by rw[hnews,jg,hl,a3]
 have hsome:∀p,p<n*k->(w.cell? ⟨blk,p,none⟩).isSome=true/\w.frozen? ⟨blk,p,none⟩=false:=fun p hp=>by
  obtain⟨h1,h2,_⟩:=hH p _ (ai aM);exact⟨by rw[h1]; rfl,h2⟩
 obtain⟨A,hA,hsrc⟩:∃A:Addr,(if cap=j then some (⟨blk,0,none⟩:Addr) else some ⟨blk,j*k,none⟩)=some A/\∀t u,news[t]?=some u->w.drew.cell? (A.add t)=some u:=by
  by_cases hc:cap=j
  ·refine⟨⟨blk,0,none⟩,by simp[hc],fun t u hu=>?_⟩
   have e0:n-j=0:=aM;have h0:news.length=0:=by rw[fx,e0,jv]
   rw[cf.1 h0] at hu;simp at hu
  ·refine⟨⟨blk,j*k,none⟩,by simp[hc],fun t u hu=>?_⟩
   rw[hnews,cZ] at hu;rw[Addr.add_lit];exact(hH _ _ hu).1
 have s2:∀u∈news,u.oneCell'=true:=by
  intro u hu;rw[hnews] at hu;obtain⟨p,hp⟩:=bX (dQ hu);exact(hH p u hp).2.2
 have hW1c:∀p,p<n*k->((w.drew.setCells blk (i*k) news).cell? ⟨blk,p,none⟩).isSome=true:=fun p hp =>
  qU blk news _ w.drew (fun q hq=>(hsome (i*k+q) (by rw[fx] at hq; omega)).1) p (hsome p hp).1
 have hW1f:∀p,p<n*k->(w.drew.setCells blk (i*k) news).frozen? ⟨blk,p,none⟩=false:=fun p hp=>by
  rw[World.frozen?_setCells];exact(hsome p hp).2
 have hin:i+(n-j)=n-1:=aM;have hzl:z.cells.toList.length=k:=by simp[h.c]
 have hzz:∀q,q<z.cells.toList.length->(n-1)*k+q<n*k:=fun q hq=>by
  have:k<=n*k:=Nat.le_mul_of_pos_left _ aM;omega
 refine(hw blk cap i j n A w (w.drew.setCells blk (i*k) news) ((w.drew.setCells blk (i*k) news).setCells blk ((n-1)*k) z.cells.toList) hA (fun ty=>?_) (fun ty=>?_) hcap hm hi aM aM aM aM).mono ?_
 ·have hr:=run_append_room_cells (P:=P) w.drew S ty E i0 h.u g1 blk 0 i cap A (n-j) (cap-j) news (by rw[g2,fx]) hsrc s2 aM (fun q hq=>by rw[g2,aN]; exact(hsome _ aM).1) (fun q hq=>by rw[g2,aN]; exact(hsome _ aM).2)
  rw[g2,aN] at hr;exact hr
 ·rw[hin];exact B7 _ _ _ ty h.u g1 g3 blk _ _ _ aM _ (by rw[show n-(n-1)=1 by omega,rN]; simp) (fun q hq=>hW1c _ (hzz q hq)) (fun q hq=>hW1f _ (hzz q hq)) h.o
 ·rintro e w' ⟨rfl,rfl⟩;exact⟨by rw[hin],by rw[hnews]⟩
def Gg(P:Program)(f fo:Nat)(S:TypeId)(k:Nat):Prop:=∀(b n c i vb voff vc:Nat)(vs:List Value)(w W1:World),
 (∀lb cb,(callFunc fo #[.slice (some ⟨vb,voff,none⟩) 1 vc,.slice (some ⟨b,(i+1)*k,none⟩) lb cb]).run P w = .ok (.value (.bool false)) w) ->
 (∀ty dc sc,(Builtin.copy_ #[S,S] ty #[.slice (some ⟨b,(i+1)*k,none⟩) (n-i) dc,.slice (some ⟨b,i*k,none⟩) (n+1-i) sc]).run P w.drew = .ok (goInt ((n-i:Nat):Int)) W1) ->
 (∀W:World,(∀x,W.cell? x=W1.cell? x)->(∀x,W.frozen? x=W1.frozen? x)->∀ty dc,(Builtin.copy_ #[S,S] ty #[.slice (some ⟨b,i*k,none⟩) (n+1-i) dc,.slice (some ⟨vb,voff,none⟩) 1 vc]).run P W = .ok (goInt 1) (W.setCells b (i*k) vs)) ->
 i<n->n+1<=c->n+1<=9223372036854775807->¬((i:Int)=(n:Int))->IntKind.i64.wrap ((i:Int)+1)=(i:Int)+1->(0:Int)<=(i:Int)+1->i<=n->((i:Int)+1).toNat=i+1->¬(c=i+1)->(i:Int)<=(n:Int)+1->¬(c=i) ->
 Calls P f #[.slice (some ⟨b,0,none⟩) n c,.int .i64 i,.slice (some ⟨vb,voff,none⟩) 1 vc] w fun e w'=>e = .returned (.slice (some ⟨b,0,none⟩) (n+1) c)/\w'=W1.setCells b (i*k) vs
def PG(P:Program)(f:Nat)(S:TypeId):Prop:=∀(bZ:Option Addr)(n c vb voff vc:Nat)(V:Value)(w W:World),
 (∀ty,(Builtin.append_ #[S,S] ty #[.slice bZ n c,.slice (some ⟨vb,voff,none⟩) 1 vc]).run P w = .ok V W)->n<=c->n+1<=9223372036854775807->(bZ=none->n=0) ->
 Calls P f #[.slice bZ n c,.int .i64 n,.slice (some ⟨vb,voff,none⟩) 1 vc] w fun e w'=>e = .returned V/\w'=W
def Lv(P:Program)(f:Nat)(S E:TypeId)(k:Nat):Prop:=∀(b n c i G vb voff vc:Nat)(ROW:Array Value)(vs ds:List Value)(w:World),
 (∀ty,(Builtin.append_ #[S,3] ty #[.slice (some ⟨b,0,none⟩) i c,.int .i64 ((n:Int)+1-(i:Int))]).run P w = .ok (.slice (some ⟨w.heap.size,0,none⟩) (n+1) G) (w.drew.alloc (.cells ROW E))) ->
 (∀W:World,(∀x,W.cell? x=(w.drew.alloc (.cells ROW E)).cell? x)->(∀x,W.frozen? x=(w.drew.alloc (.cells ROW E)).frozen? x)->∀ty dc,(Builtin.copy_ #[S,S] ty #[.slice (some ⟨w.heap.size,i*k,none⟩) (n+1-i) dc,.slice (some ⟨vb,voff,none⟩) 1 vc]).run P W = .ok (goInt 1) (W.setCells w.heap.size (i*k) vs)) ->
 (∀W:World,(∀x,W.cell? x=((w.drew.alloc (.cells ROW E)).setCells w.heap.size (i*k) vs).cell? x)->(∀x,W.frozen? x=((w.drew.alloc (.cells ROW E)).setCells w.heap.size (i*k) vs).frozen? x)->∀ty dc sc,
  (Builtin.copy_ #[S,S] ty #[.slice (some ⟨w.heap.size,(i+1)*k,none⟩) (n+1-(i+1)) dc,.slice (some ⟨b,i*k,none⟩) (n-i) sc]).run P W = .ok (goInt ((n-i:Nat):Int)) (W.setCells w.heap.size ((i+1)*k) ds)) ->
 (∀x,((w.alloc (.cells ROW E)).drew).cell? x=(w.drew.alloc (.cells ROW E)).cell? x)->(∀x,((w.alloc (.cells ROW E)).drew).frozen? x=(w.drew.alloc (.cells ROW E)).frozen? x) ->
 (∀x,(((w.alloc (.cells ROW E)).drew.setCells w.heap.size (i*k) vs).drew).cell? x=((w.drew.alloc (.cells ROW E)).setCells w.heap.size (i*k) vs).cell? x) ->
 (∀x,(((w.alloc (.cells ROW E)).drew.setCells w.heap.size (i*k) vs).drew).frozen? x=((w.drew.alloc (.cells ROW E)).setCells w.heap.size (i*k) vs).frozen? x) ->
 i<n->n<=c->c<n+1->¬((i:Int)=(n:Int))->(c:Int)<(n:Int)+1->n+1<=G->G<=9223372036854775807->¬(G=i)->¬(G=i+1)->¬(c=i)->IntKind.i64.wrap ((i:Int)+1)=(i:Int)+1->(0:Int)<=(i:Int)+1->i<=n->((i:Int)+1).toNat=i+1->(i:Int)<=(n:Int)->n+1<=140737488355328 ->
 Calls P f #[.slice (some ⟨b,0,none⟩) n c,.int .i64 i,.slice (some ⟨vb,voff,none⟩) 1 vc] w fun e w'=>e = .returned (.slice (some ⟨w.heap.size,0,none⟩) (n+1) G) /\
  w'=(((w.alloc (.cells ROW E)).drew.setCells w.heap.size (i*k) vs).drew).setCells w.heap.size ((i+1)*k) ds
def UE{w:World}{vb voff:Nat}{v:Value}(h0:w.cell? ⟨vb,voff,none⟩=some v):∃tA kA,w.shape? vb=some (tA,kA+1):=by
 unfold World.cell? at h0;unfold World.shape?;split at h0
 ·rename_i cc ee ff hb;simp only[hb];simp at h0;have:=(fy.1 h0).1;exact⟨ee,cc.size-1,ic⟩
 ·cases h0
def GA(h:El P S E k by' z)(h3:P.underlying 3=some (.int .i64))(ho:∀args w,(callFunc fo args).run P w=((Extern.SlicesOverlaps.overlaps #[S,S] #[4] args).run P w).andThen fun v w' => .ok (.value v) w')
  (hS:Gg P f fo S k) (hE:PG P f S) (hG:Lv P f S E k):PH P f k by':=by
 intro b n c i vb voff vc cs vs w row tB hi hnc hbig h63 hvb hcl hvl hw hrow hat hvs h1c h1v;obtain⟨i0,hi0,hzs,hz0,hzb⟩:=h.i;have hk:=h.p;have hcs:∀(p:Nat)(v:Value),cs[p]?=some v->w.cell? ⟨b,p,none⟩=some v:=fun p v hp=>by simp[World.cell?,hw,hat p v hp]
 have hfz:∀j,w.frozen? ⟨b,j,none⟩=false:=fun j=>by simp[World.frozen?,hw]
 have a1:(n+1)*k=n*k+k:=mF ..;have a2:(i+1)*k=i*k+k:=mF ..;have a3:(n-i)*k=n*k-i*k:=lX ..;have a4:i*k<=n*k:=bd _ hi;have hdl:(cs.drop (i*k)).length=(n-i)*k:=by rw[jg,hcl,a3]
 have hv0:=hvs 0 _ (ai aM);have hle:n+1<=140737488355328:=bg (fA _ h.b) hbig;have hw1:IntKind.i64.wrap ((i:Int)+1)=(i:Int)+1:=by rw[IntKind.wrap_i64]; omega
 have hmin:1=Nat.min 1 (n+1-i):=by simp only[Nat.min_def]; split<;>omega
 by_cases hroom:n+1<=c
 ·have hr0:(n+1)*k<=row.size:=bg (bd _ hroom) hrow
  have hsp:∀j,j<(n+1)*k->(w.cell? ⟨b,j,none⟩).isSome=true:=fun j hj=>by
   simp[World.cell?,hw,bf (show j<row.size by omega)]
  by_cases hin:i<n
  ·have a5:(i+1)*k<=n*k:=bd _ hin;obtain⟨tA,kA,hsa⟩:=UE hv0;refine(hS b n c i vb voff vc vs w (w.drew.setCells b ((i+1)*k) (cs.drop (i*k))) (fun lb cb=>?_) (fun ty dc sc=>?_) (fun W hWc hWf ty dc=>?_) hin hroom h63 aM hw1 aM aM aM aM aM aM).mono ?_
   ·rw[ho,DK w S 4 E h.u k h.so ⟨vb,voff,none⟩ ⟨b,(i+1)*k,none⟩ 1 vc lb cb hvb tA tB kA row hsa hw];rfl
   ·exact ya w.drew _ _ ty E k b ((i+1)*k) (n-i) dc ⟨b,i*k,none⟩ (n+1-i) sc (cs.drop (i*k)) (n-i) h.u h.s (by simp only[Nat.min_def]; split<;>omega) hdl
     (fun j v hj=>by rw[Addr.add_lit]; exact hcs (i*k+j) v (by rwa[cZ] at hj))
     (fun j hj=>hsp ((i+1)*k+j) aM) (fun j hj=>hfz _) (fun v hv=>h1c v (dQ hv))
   ·exact ya W _ _ ty E k b (i*k) (n+1-i) dc ⟨vb,voff,none⟩ 1 vc vs 1 h.u h.s hmin (by rw[hvl,fM])
     (fun j v hj=>by
      rw[Addr.add_lit,hWc,World.cell?_setCells_out b _ _ _ _ (fun h _=>absurd h hvb)]
      exact hvs j v hj)
     (fun j hj=>by rw[hWc]; exact qU b _ _ w.drew (fun j hj=>hsp ((i+1)*k+j) aM) _ (hsp (i*k+j) aM))
     (fun j hj=>by rw[hWf,World.frozen?_setCells]; exact hfz _) h1v
   ·rintro e w' ⟨he,hw'⟩;exact Ob hin hroom hcl hvl hw hrow hat he hw'
  ·obtain rfl:i=n:=aM;refine(hE (some ⟨b,0,none⟩) i c vb voff vc (.slice (some ⟨b,0,none⟩) (i+1) c) w (w.setCells b (i*k) vs) (fun ty=>?_) hnc h63 dk).mono ?_
   ·have hr:=run_append_room_cells (P:=P) w S ty E i0 h.u hi0 b 0 i c ⟨vb,voff,none⟩ 1 vc vs (by rw[hzs,hvl,fM]) (fun j u hj=>by rw[Addr.add_lit]; exact hvs j u hj) h1v hroom
     (fun j hj=>by rw[hzs,aN]; exact hsp _ aM) (fun j hj=>hfz _)
    rw[hzs,aN] at hr;exact hr
   ·rintro e w' ⟨he,hw'⟩;exact Q8 hroom hcl hvl hw hrow hat he hw'
 ·have hGc:=grownCap_ge w (n+1) c E
  by_cases hin:i<n
  ·have a5:(i+1)*k<=n*k:=bd _ hin;have hbw:b<w.heap.size:=lt_of_block hw;have hvw:vb<w.heap.size:=block_lt_of_cell hv0;have hik:i+(n+1-i)=n+1:=aM
   have hold:(Builtin.firstCells i0.size i (.slice (some ⟨b,0,none⟩) i c)).run P w.drew = .ok (cs.take (i*k)).toArray w.drew:=by
    rw[hzs]
    exact run_firstCells_some w.drew k i ⟨b,0,none⟩ i c (cs.take (i*k)) (by rw[fL]; omega) (fun j v hj=>by
     rw[Addr.add_lit,aN];rw[gk] at hj;split at hj
     ·exact hcs j v hj
     ·cases hj)
   obtain⟨ROW,hROW⟩:∃ROW:Array Value,ROW=(cs.take (i*k)).toArray++Builtin.zeroCells z.cells (n+1-i)++Builtin.zeroCells z.cells (grownCap w (n+1) c E-(n+1)):=⟨_,rfl⟩
   have hRl:(n+1)*k<=ROW.size:=by
    have e1:(n+1-i)*k=(n+1)*k-i*k:=lX ..;rw[hROW];simp only[Builtin.zeroCells,fU,Array.size_map,lA,h.c,dI,fL,hcl];omega
   have hN:∀j,j<(n+1)*k->((w.drew.alloc (.cells ROW E)).cell? ⟨w.heap.size,j,none⟩).isSome=true:=fun j hj=>by
    rw[World.cell?_alloc_at (w:=w.drew) ROW _ w.heap.size j rfl,bf aM]; rfl
   have hNf:∀j,(w.drew.alloc (.cells ROW E)).frozen? ⟨w.heap.size,j,none⟩=false:=fun j=>World.frozen?_alloc_at (w:=w.drew) ROW _ w.heap.size j rfl
   have hG63:grownCap w (n+1) c E<=9223372036854775807:=by
    have:=grownCap_le_maxLen w (n+1) c E (by unfold maxLen; omega)
    unfold maxLen at this;omega
   refine(hG b n c i (grownCap w (n+1) c E) vb voff vc ROW vs (cs.drop (i*k)) w (fun ty=>?_) (fun W hWc hWf ty dc=>?_) (fun W hWc hWf ty dc sc=>?_) (fun _=>rfl) (fun _=>rfl) (fun _=>rfl) (fun _=>rfl)
    hin hnc aM aM aM hGc hG63 aM aM aM hw1 aM aM aM aM hle).mono ?_
   ·have hr:=Lib.run_append_grow_zeros w S 3 ty E i0 _ .i64 .i64 h.u h3 hi0 hz0 (some ⟨b,0,none⟩) i c (cs.take (i*k)) hold (n+1-i) aM aM aM aM
     (by rw[hzb]; exact bg (bd _ (by omega:n+1-i<=n+1)) aM) (by rw[hzb,hik]; exact growslice_fits aM hbig)
    rw[hik] at hr;rw[show(n:Int)+1-(i:Int)=((n+1-i:Nat):Int) by omega,hROW]
    exact hr
   ·exact ya W _ _ ty E k w.heap.size (i*k) (n+1-i) dc ⟨vb,voff,none⟩ 1 vc vs 1 h.u h.s hmin (by rw[hvl,fM])
     (fun j v hj=>by rw[Addr.add_lit,hWc,World.cell?_alloc_past (w:=w.drew) _ vb _ hvw]; exact hvs j v hj)
     (fun j hj=>by rw[hWc]; exact hN (i*k+j) aM) (fun j hj=>by rw[hWf]; exact hNf _) h1v
   ·exact ya W _ _ ty E k w.heap.size ((i+1)*k) (n+1-(i+1)) dc ⟨b,i*k,none⟩ (n-i) sc (cs.drop (i*k)) (n-i) h.u h.s (by simp only[Nat.min_def]; split<;>omega) hdl
     (fun j v hj=>by
      rw[Addr.add_lit,hWc,World.cell?_setCells_out _ _ _ _ _ (fun h _=>absurd h (by show b≠w.heap.size; omega)),World.cell?_alloc_past (w:=w.drew) _ b _ hbw]
      exact hcs (i*k+j) v (by rwa[cZ] at hj))
     (fun j hj=>by rw[hWc]; exact qU _ _ _ _ (fun t ht=>hN (i*k+t) aM) _ (hN ((i+1)*k+j) aM))
     (fun j hj=>by rw[hWf,World.frozen?_setCells]; exact hNf _) (fun v hv=>h1c v (dQ hv))
   ·rintro e w' ⟨he,hw'⟩;rw[hROW] at hw';exact Q7 hk h.c hin hcl hvl hGc he hw'
  ·obtain rfl:i=n:=aM;refine(hE (some ⟨b,0,none⟩) i c vb voff vc _ w _ (fun ty=>run_append_grow_src w S S ty E i0 z h.u hi0 hz0 (some ⟨b,0,none⟩) i c cs ?_ _ 1 vs ?_ aM aM (by rw[hzb]; exact growslice_fits aM hbig)) hnc h63 dk).mono ?_
   ·rw[hzs];exact run_firstCells_some w.drew k i _ i c cs hcl (fun j v hj=>by rw[Addr.add_lit,aN]; exact hcs j v hj)
   ·rw[hzs];exact Src.ofSlice w h.u ⟨vb,voff,none⟩ 1 vc vs (by rw[hvl,fM]) (fun j u hj=>by rw[Addr.add_lit]; exact hvs j u hj) h1v
   ·rintro e w' ⟨he,hw'⟩;exact zK hk h.c hcl hvl hGc he hw'
def GB(h:El P S E k by' z)(hby:by'<=140737488355328)(hE:PG P f S):PI P f k:=by
 intro A vb voff vc vs w row hvl hvs h1v;obtain⟨i0,hi0,hzs,hz0,hzb⟩:=h.i;refine(hE A 0 0 vb voff vc _ w _ (fun ty=>run_append_grow_src w S S ty E i0 z h.u hi0 hz0 A 0 0 [] ?_ _ 1 vs ?_ aM aM (by rw[hzb]; exact growslice_fits aM aM)) (ak _) aM (fun _=>rfl)).mono ?_
 ·rw[hzs];cases A with
  |none=>exact run_firstCells_none w.drew k 0 0 0
  |some a=>exact run_firstCells_some w.drew k 0 a 0 0 [] dk (fun j v hj=>by simp at hj)
 ·rw[hzs];exact Src.ofSlice w h.u ⟨vb,voff,none⟩ 1 vc vs (by rw[hvl,fM]) (fun j u hj=>by rw[Addr.add_lit]; exact hvs j u hj) h1v
 ·rintro e w' ⟨he,hw'⟩;exact zK h.p h.c dk hvl (grownCap_ge w 1 0 E) he hw'
end
section
set_option maxHeartbeats 4000000
set_option maxRecDepth 1000000
def mix:Tryz.prog.follows .mixedOrders=true:=gd
def Kg:El Tryz.prog 58 129 3 32 (.agg #[.string ⟨#[]⟩,.int .i64 0,.int .i64 0]) := .of underlying58 gd ⟨rfl,rfl⟩ aM aM
def Kf:El Tryz.prog 40 60 6 80 (.agg #[.int .i64 0,.int .i64 0,.int .i64 0,.slice none 0 0,.slice none 0 0,.int .i64 0]) := .of underlying40 gd ⟨rfl,rfl⟩ aM aM
def Ke:El Tryz.prog 29 65 3 32 (.agg #[.string ⟨#[]⟩,.int .i64 0,.int .i64 0]) := .of underlying29 gd ⟨rfl,rfl⟩ aM aM
def VL:El Tryz.prog 35 9 1 16 (.string ⟨#[]⟩) := .of underlying35 gd ⟨rfl,rfl⟩ aM aM
def cws:Cs Tryz.prog 218 58 129/\Cs Tryz.prog 234 40 60/\Cs Tryz.prog 145 29 65/\Cs Tryz.prog 107 35 9:=by
 have mixed:=mix;refine⟨?_,?_,?_,?_⟩<;>intro b off n c w K hap
 all_goals first
 |(have t25:=underlying58; obtain⟨q22,u22⟩:=Kg.q; go_enter func218,ntmps218)
 |(have t25:=underlying40; obtain⟨q22,u22⟩:=Kf.q; go_enter func234,ntmps234)
 |(have t25:=underlying29; obtain⟨q22,u22⟩:=Ke.q; go_enter func145,ntmps145)
 |(have t25:=underlying35; obtain⟨q22,u22⟩:=VL.q; go_enter func107,ntmps107)
 all_goals (go_wp2_with (at_builtin; refine hap rfl _ _ rfl rfl rfl ?_); intro v' w1 hK; go_wp2; go_ret; exact⟨v',rfl,hK⟩)
def cns:Cr Tryz.prog 218 58 129/\Cr Tryz.prog 234 40 60/\Cr Tryz.prog 145 29 65/\Cr Tryz.prog 107 35 9:=by
 have mixed:=mix;refine⟨?_,?_,?_,?_⟩<;>intro A c w hrun
 all_goals first
 |(have t25:=underlying58; obtain⟨q22,u22⟩:=Kg.q; cases A<;>go_enter func218,ntmps218)
 |(have t25:=underlying40; obtain⟨q22,u22⟩:=Kf.q; cases A<;>go_enter func234,ntmps234)
 |(have t25:=underlying29; obtain⟨q22,u22⟩:=Ke.q; cases A<;>go_enter func145,ntmps145)
 |(have t25:=underlying35; obtain⟨q22,u22⟩:=VL.q; cases A<;>go_enter func107,ntmps107)
 all_goals (first
  |(go_wp2; go_ret; exact⟨⟨_,rfl⟩,.inl rfl⟩)
  |(go_wp2_with (at_builtin; refine Lib.wpList_append_run _ rfl _ _ _ _ rfl _ _ rfl rfl _ _ (hrun _ _) ?_); go_ret; exact⟨⟨_,rfl⟩,.inr rfl⟩))
def dws:U3 Tryz.prog 233 40 6/\U3 Tryz.prog 252 58 3/\U3 Tryz.prog 163 29 3:=by
 have mixed:=mix;refine⟨?_,?_,?_⟩<;>intro blk cap i j n A w W1 W2 hA hap hcl hcap hm hi hic hij hjc hjn
 all_goals first
 |(have t25:=underlying40; go_enter func233,ntmps233)
 |(have t25:=underlying58; go_enter func252,ntmps252)
 |(have t25:=underlying29; go_enter func163,ntmps163)
 all_goals (go_wp2_with fail; go_region_law_o (refine Ef rfl _ _ _ _ rfl _ _ (by simp[Act.eval,Act.put]) (by simp[Act.eval,Act.put]) (hap _) ?_); go_wp2; go_ret; exact⟨rfl,rfl⟩)
def sws:Gg Tryz.prog 249 274 40 6/\Gg Tryz.prog 250 276 58 3/\Gg Tryz.prog 160 211 29 3:=by
 have mixed:=mix;refine⟨?_,?_,?_⟩<;>intro b n c i vb voff vc vs w W1 hov hcp1 hcp2 hi hroom hc63 hz2 hw1 hb1 hin htn hb2 hb3 hb4
 all_goals first
 |(have t25:=underlying40; go_enter func249,ntmps249)
 |(have t25:=underlying58; go_enter func250,ntmps250)
 |(have t25:=underlying29; go_enter func160,ntmps160)
 all_goals (go_wp2_with (simp only[hov]); go_region_law_o (refine BS rfl _ _ _ _ rfl _ _ (by simp[Act.eval,Act.put]) (by simp[Act.eval,Act.put]) (hcp1 _ _ _) ?_); go_wp2_with (at_builtin; refine u7 _ rfl _ _ _ _ rfl _ _ rfl rfl (hcp2 _ (fun _=>rfl) (fun _=>rfl) _ _) ?_); go_ret; exact⟨rfl,rfl⟩)
def ews:PG Tryz.prog 249 40/\PG Tryz.prog 250 58/\PG Tryz.prog 160 29:=by
 have mixed:=mix;refine⟨?_,?_,?_⟩<;>intro bZ n c vb voff vc V w W hrun hnc hroom hnil
 all_goals first
 |(have t25:=underlying40; go_enter func249,ntmps249)
 |(have t25:=underlying58; go_enter func250,ntmps250)
 |(have t25:=underlying29; go_enter func160,ntmps160)
 all_goals (cases bZ with
 |none =>
  have h0:=hnil rfl;subst h0
  go_wp2_with (at_builtin; refine Lib.wpList_append_run _ rfl _ _ _ _ rfl _ _ rfl rfl _ _ (hrun _) ?_)
  go_ret
  exact⟨rfl,rfl⟩
 |some a =>
  obtain⟨ab,ao,asp⟩:=a
  go_wp2_with (at_builtin; refine Lib.wpList_append_run _ rfl _ _ _ _ rfl _ _ rfl rfl _ _ (hrun _) ?_)
  all_goals (go_ret; exact⟨rfl,rfl⟩))
def gws:Lv Tryz.prog 249 40 60 6/\Lv Tryz.prog 250 58 129 3/\Lv Tryz.prog 160 29 65 3:=by
 have mixed:=mix;refine⟨?_,?_,?_⟩<;>intro b n c i G vb voff vc ROW vs ds w hrz hcpA hcpB hE1 hE2 hF1 hF2 hi hnc hroom hz2 hz3 hGn hG63 hGi hGim hci hw1 hb1 hin htn hb3 hle
 all_goals first
 |(have t25:=underlying40; go_enter func249,ntmps249)
 |(have t25:=underlying58; go_enter func250,ntmps250)
 |(have t25:=underlying29; go_enter func160,ntmps160)
 all_goals (go_wp2_with (first
  |(at_builtin; refine Lib.wpList_append_run _ rfl _ _ _ _ rfl _ _ rfl rfl _ _ (hrz _) ?_)
  |(at_builtin; refine u7 _ rfl _ _ _ _ rfl _ _ rfl rfl (hcpA _ hE1 hE2 _ _) ?_)
  |(at_builtin; refine u7 _ rfl _ _ _ _ rfl _ _ rfl rfl (hcpB _ (fun _=>rfl) (fun _=>rfl) _ _ _) ?_)); go_region_law_o (refine BS rfl _ _ _ _ rfl (.slice (some ⟨w.heap.size,_,none⟩) (n+1-(i+1)) (G-(i+1))) (.slice (some ⟨b,_,none⟩) (n-i) (c-i)) (by simp[Act.eval,Act.put]) (by simp[Act.eval,Act.put]) (hcpB _ hF1 hF2 3 (G-(i+1)) (c-i)) ?_); go_wp2; go_ret; exact⟨rfl,rfl⟩)
end
def Ny{args:List ag}{M:aO}{x:ag×aO}(h:p9 3 32 args M=some x):eZ Tryz.prog 218 args M x:=w6 aM aM (zy Kg cws.1) (xK Kg cns.1) h
def Nz{args:List ag}{M:aO}{x:ag×aO}(h:p9 6 80 args M=some x):eZ Tryz.prog 234 args M x:=w6 aM aM (zy Kf cws.2.1) (xK Kf cns.2.1) h
def Nx{args:List ag}{M:aO}{x:ag×aO}(h:p9 3 32 args M=some x):eZ Tryz.prog 145 args M x:=w6 aM aM (zy Ke cws.2.2.1) (xK Ke cns.2.2.1) h
def JZ{args:List ag}{M:aO}{x:ag×aO}(h:x8 1 16 args M=some x):eZ Tryz.prog 107 args M x:=Gp aM aM (zy VL cws.2.2.2) (xK VL cns.2.2.2) h
def NI{args:List ag}{M:aO}{x:ag×aO}(h:oS 6 args M=some x):eZ Tryz.prog 233 args M x:=vV (sz:=6) (z:=(Value.agg #[.int .i64 0,.int .i64 0,.int .i64 0,.slice none 0 0,.slice none 0 0,.int .i64 0]).cells.toList) aM rfl (J7 Kf dws.1) h
def NJ{args:List ag}{M:aO}{x:ag×aO}(h:oS 3 args M=some x):eZ Tryz.prog 252 args M x:=vV (sz:=3) (z:=(Value.agg #[.string ⟨#[]⟩,.int .i64 0,.int .i64 0]).cells.toList) aM rfl (J7 Kg dws.2.1) h
def NH{args:List ag}{M:aO}{x:ag×aO}(h:oS 3 args M=some x):eZ Tryz.prog 163 args M x:=vV (sz:=3) (z:=(Value.agg #[.string ⟨#[]⟩,.int .i64 0,.int .i64 0]).cells.toList) aM rfl (J7 Ke dws.2.2) h
def Od{args:List ag}{M:aO}{x:ag×aO}(h:nI 6 80 args M=some x):eZ Tryz.prog 249 args M x:=we aM aM (GA Kf underlying3 (fun args w=>run_callFunc_extern func274 gd gd gd gd args w) sws.1 ews.1 gws.1) (GB Kf aM ews.1) h
def Oe{args:List ag}{M:aO}{x:ag×aO}(h:nI 3 32 args M=some x):eZ Tryz.prog 250 args M x:=we aM aM (GA Kg underlying3 (fun args w=>run_callFunc_extern func276 gd gd gd gd args w) sws.2.1 ews.2.1 gws.2.1) (GB Kg aM ews.2.1) h
def Oc{args:List ag}{M:aO}{x:ag×aO}(h:nI 3 32 args M=some x):eZ Tryz.prog 160 args M x:=we aM aM (GA Ke underlying3 (fun args w=>run_callFunc_extern func211 gd gd gd gd args w) sws.2.2 ews.2.2 gws.2.2) (GB Ke aM ews.2.2) h
end Go.Proofs.YtcbopkblmebjiaaGreatDoor
namespace Go.Proofs
open Go.Shelf
def Tryz.I8:Go.Shelf.Ren:=⟨fun|6=>220|15=>123|14=>247|28=>190|29=>191|20=>266|21=>267|22=>268|23=>269|24=>270|25=>271|26=>272|27=>273|46=>279|47=>236|48=>237|49=>280|50=>281|57=>284|n=>n,fun|22=>58|24=>129|25=>266|3=>3|39=>163|0=>0|53=>223|55=>225|4=>4|46=>217|45=>216|50=>144|5=>5|9=>9|66=>278|70=>282|76=>297|77=>240|n=>n,fun|n=>n⟩
def Tryz.MV:Go.Proofs.SlLaysF0.n6 Tryz.prog Tryz.I8:={
 mixed:=gd
 f6:=⟨Tryz.f220.name,pd,(sN func220)⟩
 f14:=⟨Tryz.f247.name,pd,(sN func247)⟩
 f15:=(sN func123)
 f20:=⟨Tryz.f266.name,pd,(sN func266)⟩
 f21:=⟨Tryz.f267.name,pd,(sN func267)⟩
 f22:=⟨Tryz.f268.name,pd,(sN func268)⟩
 f23:=⟨Tryz.f269.name,pd,(sN func269)⟩
 f24:=⟨Tryz.f270.name,pd,(sN func270)⟩
 f25:=⟨Tryz.f271.name,pd,(sN func271)⟩
 f26:=⟨Tryz.f272.name,pd,(sN func272)⟩
 f27:=⟨Tryz.f273.name,pd,(sN func273)⟩
 f28:=(sN func190)
 f29:=(sN func191)
 f46:=⟨Tryz.f279.name,pd,(sN func279)⟩
 f47:=(sN func236)
 f48:=(sN func237)
 f49:=⟨Tryz.f280.name,pd,(sN func280)⟩
 f50:=⟨Tryz.f281.name,pd,(sN func281)⟩
 f57:=⟨Tryz.f284.name,pd,(sN func284)⟩
 t0:=underlying0
 a0:=isAgg0
 z0:=sizeOf0
 v0:=zeroValue0
 t3:=underlying3
 a3:=isAgg3
 z3:=sizeOf3
 v3:=zeroValue3
 t4:=underlying4
 a4:=isAgg4
 z4:=sizeOf4
 v4:=zeroValue4
 t5:=underlying5
 a5:=isAgg5
 z5:=sizeOf5
 v5:=zeroValue5
 t9:=underlying9
 a9:=isAgg9
 z9:=sizeOf9
 v9:=zeroValue9
 t22:=underlying58
 a22:=isAgg58
 z22:=sizeOf58
 v22:=zeroValue58
 t25:=underlying266
 a25:=isAgg266
 z25:=sizeOf266
 v25:=zeroValue266
 t39:=underlying163
 a39:=isAgg163
 z39:=sizeOf163
 v39:=zeroValue163
 t45:=underlying216
 a45:=isAgg216
 z45:=sizeOf216
 v45:=zeroValue216
 t46:=underlying217
 a46:=isAgg217
 z46:=sizeOf217
 v46:=zeroValue217
 t50:=underlying144
 a50:=isAgg144
 z50:=sizeOf144
 v50:=zeroValue144
 t53:=underlying223
 a53:=isAgg223
 z53:=sizeOf223
 v53:=zeroValue223
 t55:=underlying225
 a55:=isAgg225
 z55:=sizeOf225
 v55:=zeroValue225
 t66:=underlying278
 a66:=isAgg278
 z66:=sizeOf278
 v66:=zeroValue278
 t70:=underlying282
 a70:=isAgg282
 z70:=sizeOf282
 v70:=zeroValue282
 t76:=underlying297
 a76:=isAgg297
 z76:=sizeOf297
 v76:=zeroValue297
 t77:=underlying240
 a77:=isAgg240
 z77:=sizeOf240
 v77:=zeroValue240 }
def Tryz.G2:Go.Shelf.Ren:=⟨fun|6=>58|15=>123|14=>122|28=>190|29=>191|20=>182|21=>183|22=>184|23=>185|24=>186|25=>187|26=>188|27=>189|46=>235|47=>236|48=>237|49=>238|50=>239|57=>260|n=>n,fun|22=>40|24=>60|25=>110|3=>3|39=>163|0=>0|53=>223|55=>225|4=>4|46=>217|45=>216|50=>144|5=>5|9=>9|66=>278|70=>282|76=>297|77=>240|n=>n,fun|n=>n⟩
def Tryz.Jc:Go.Proofs.SlLaysF0.n6 Tryz.prog Tryz.G2:={
 mixed:=gd
 f6:=⟨Tryz.f58.name,pd,(sN func58)⟩
 f14:=⟨Tryz.f122.name,pd,(sN func122)⟩
 f15:=(sN func123)
 f20:=⟨Tryz.f182.name,pd,(sN func182)⟩
 f21:=⟨Tryz.f183.name,pd,(sN func183)⟩
 f22:=⟨Tryz.f184.name,pd,(sN func184)⟩
 f23:=⟨Tryz.f185.name,pd,(sN func185)⟩
 f24:=⟨Tryz.f186.name,pd,(sN func186)⟩
 f25:=⟨Tryz.f187.name,pd,(sN func187)⟩
 f26:=⟨Tryz.f188.name,pd,(sN func188)⟩
 f27:=⟨Tryz.f189.name,pd,(sN func189)⟩
 f28:=(sN func190)
 f29:=(sN func191)
 f46:=⟨Tryz.f235.name,pd,(sN func235)⟩
 f47:=(sN func236)
 f48:=(sN func237)
 f49:=⟨Tryz.f238.name,pd,(sN func238)⟩
 f50:=⟨Tryz.f239.name,pd,(sN func239)⟩
 f57:=⟨Tryz.f260.name,pd,(sN func260)⟩
 t0:=underlying0
 a0:=isAgg0
 z0:=sizeOf0
 v0:=zeroValue0
 t3:=underlying3
 a3:=isAgg3
 z3:=sizeOf3
 v3:=zeroValue3
 t4:=underlying4
 a4:=isAgg4
 z4:=sizeOf4
 v4:=zeroValue4
 t5:=underlying5
 a5:=isAgg5
 z5:=sizeOf5
 v5:=zeroValue5
 t9:=underlying9
 a9:=isAgg9
 z9:=sizeOf9
 v9:=zeroValue9
 t22:=underlying40
 a22:=isAgg40
 z22:=sizeOf40
 v22:=zeroValue40
 t25:=underlying110
 a25:=isAgg110
 z25:=sizeOf110
 v25:=zeroValue110
 t39:=underlying163
 a39:=isAgg163
 z39:=sizeOf163
 v39:=zeroValue163
 t45:=underlying216
 a45:=isAgg216
 z45:=sizeOf216
 v45:=zeroValue216
 t46:=underlying217
 a46:=isAgg217
 z46:=sizeOf217
 v46:=zeroValue217
 t50:=underlying144
 a50:=isAgg144
 z50:=sizeOf144
 v50:=zeroValue144
 t53:=underlying223
 a53:=isAgg223
 z53:=sizeOf223
 v53:=zeroValue223
 t55:=underlying225
 a55:=isAgg225
 z55:=sizeOf225
 v55:=zeroValue225
 t66:=underlying278
 a66:=isAgg278
 z66:=sizeOf278
 v66:=zeroValue278
 t70:=underlying282
 a70:=isAgg282
 z70:=sizeOf282
 v70:=zeroValue282
 t76:=underlying297
 a76:=isAgg297
 z76:=sizeOf297
 v76:=zeroValue297
 t77:=underlying240
 a77:=isAgg240
 z77:=sizeOf240
 v77:=zeroValue240 }
def Tryz.J1:Go.Shelf.Ren:=⟨fun|5=>60|7=>124|n=>n,fun|22=>3|3=>3|4=>4|n=>n,fun|n=>n⟩
def Tryz.P6:Go.Proofs.SlLaysC2.n5 Tryz.prog Tryz.J1:={
 mixed:=gd
 f5:=⟨Tryz.f60.name,pd,(sN func60)⟩
 f7:=⟨Tryz.f124.name,pd,(sN func124)⟩
 t3:=underlying3
 a3:=isAgg3
 z3:=sizeOf3
 v3:=zeroValue3
 t4:=underlying4
 a4:=isAgg4
 z4:=sizeOf4
 v4:=zeroValue4
 t22:=underlying3
 a22:=isAgg3
 z22:=sizeOf3
 v22:=zeroValue3 }
end Go.Proofs
namespace Go.Proofs.YtcbopkblmebjiaaGreatDoor
open Go Go.Shelf Go.RowKit Go.Lib Go.Sort
set_option maxHeartbeats 1000000 in
def J0(v0 v1 u0 u1:Value)(x y:Int)(W:World):Calls Tryz.prog 221 #[.agg #[v0,v1,.int .i64 x],.agg #[u0,u1,.int .i64 y]] W fun e w'=>e = .returned (.int .i64 (Lib.compareInt x y))/\∃q os',w'=grow (W.drewN q) os':=by
 have hcon:=fun W'=>AnyG.cmp_Compare_int Tryz.P6 x y W'
 change ∀W',Calls Tryz.prog 60 _ _ _ at hcon;generalize Lib.compareInt x y=r at hcon ⊢
 go_enter func221,ntmps221
 go_wp2_with (go_at_call 60; refine(hcon _).mono ?_; rintro e w' ⟨rfl,rfl⟩)
 go_ret
 exact⟨rfl,0,_,by rw[alloc_eq_grow,alloc_eq_grow,grow_grow]; rfl⟩
set_option maxHeartbeats 1000000 in
def NC(v1 v2 v3 v4 v5 u1 u2 u3 u4 u5:Value)(x y:Int)(W:World):Calls Tryz.prog 59 #[.agg #[.int .i64 x,v1,v2,v3,v4,v5],.agg #[.int .i64 y,u1,u2,u3,u4,u5]] W fun e w'=>e = .returned (.int .i64 (Lib.compareInt x y))/\∃q os',w'=grow (W.drewN q) os':=by
 have hcon:=fun W'=>AnyG.cmp_Compare_int Tryz.P6 x y W'
 change ∀W',Calls Tryz.prog 60 _ _ _ at hcon;generalize Lib.compareInt x y=r at hcon ⊢
 go_enter func59,ntmps59
 go_wp2_with (go_at_call 60; refine(hcon _).mono ?_; rintro e w' ⟨rfl,rfl⟩)
 go_ret
 exact⟨rfl,0,_,by rw[alloc_eq_grow,alloc_eq_grow,grow_grow]; rfl⟩
structure EL(sz p:Nat) where
 l:List Value
 hl:l.length=sz
 h1:∀v∈l,v.oneCell'=true
 n:Int
 hn:l[p]?=some (.int .i64 n)
def Yl{sz p:Nat}(a b:EL sz p):Int:=Lib.compareInt a.n b.n
def ltE{sz p:Nat}(x y:EL sz p):ltOf Yl x y=decide (x.n<y.n):=by
 unfold ltOf Yl Lib.compareInt
 by_cases h1:x.n<y.n
 ·simp[h1]
 ·by_cases h2:y.n<x.n<;>simp[h1,h2]
def ad5{sz p:Nat}:SWO (ltOf (Yl (sz:=sz) (p:=p))) where
 irrefl x:=by rw[ltE]; simp
 trans x y z h1 h2:=by rw[ltE] at *; simp at *; omega
 ntrans x y z h1 h2:=by rw[ltE] at *; simp at *; omega
def U2(g sz p:Nat):Prop:=∀(a b:EL sz p)(W:World),Calls Tryz.prog g #[.agg a.l.toArray,.agg b.l.toArray] W fun e w'=>e = .returned (.int .i64 (Yl a b))/\∃q os',w'=grow (W.drewN q) os'
def U2.lays{g sz p:Nat}(h:U2 g sz p)(e:Nat->EL sz p)(blk off size:Nat)(w:World):CmpLays Tryz.prog g #[] (fun i=>(e i).l) sz (fun i j=>Yl (e i) (e j)) blk off size w:=fun _ _ _ _ x y=>h (e x) (e y) _
def VB:U2 221 3 2:=fun x y W=>by
 obtain⟨l,hl,h1,n,hn⟩:=x;obtain⟨l',hl',h1',n',hn'⟩:=y
 match l,hl,hn,l',hl',hn' with
 | [a,b,c],_,hn,[a',b',c'],_,hn' =>
  cases hn;cases hn';exact J0 a b a' b' n n' W
def aaW:U2 59 6 0:=fun x y W=>by
 obtain⟨l,hl,h1,n,hn⟩:=x;obtain⟨l',hl',h1',n',hn'⟩:=y
 match l,hl,hn,l',hl',hn' with
 | [a,b,c,d,e,f],_,hn,[a',b',c',d',e',f'],_,hn' =>
  cases hn;cases hn';exact NC b c d e f b' c' d' e' f' n n' W
end Go.Proofs.YtcbopkblmebjiaaGreatDoor
namespace Go.Abs
open Go
def Wm(p:Nat)(x:ag):Option Int:=match x.cells[p]? with
 |some (.int .i64 n)=>some n
 |_=>none
def uX(p:Nat)(x:ag):Int:=(Wm p x).getD 0
def Gz(p:Nat)(x:ag):List ag->List ag
 | []=>[x]
 |y::r=>if uX p x<uX p y then x::y::r else y::Gz p x r
def FM(p:Nat):List ag->List ag
 | []=>[]
 |x::r=>Gz p x (FM p r)
def AR(p:Nat)(x:ag):∀l,(Gz p x l).Perm (x::l)
 | [] => .refl _
 |y::r=>by
  rw[Gz];split
  ·exact .refl _
  ·exact((AR p x r).cons y).trans (.swap x y r)
def ze(p:Nat):∀l,(FM p l).Perm l
 | [] => .refl _
 |x::r=>(AR p x _).trans ((ze p r).cons x)
def Mg(p:Nat)(x:ag):∀l:List ag,l.Pairwise (fun a b=>uX p a<=uX p b)->(Gz p x l).Pairwise fun a b=>uX p a<=uX p b
 | [],_=>by simp[Gz]
 |y::r,h=>by
  obtain⟨h1,h2⟩:=bR.1 h;rw[Gz];split
  ·rename_i cA;refine bR.2 ⟨fun b hb=>?_,h⟩
   rcases ba.1 hb with rfl|hb
   ·omega
   ·have:=h1 b hb; omega
  ·rename_i hge;refine bR.2 ⟨fun b hb=>?_,Mg p x r h2⟩
   rcases ba.1 ((AR p x r).mem_iff.1 hb) with rfl|hb
   ·omega
   ·exact h1 b hb
def Jb(p:Nat):∀l,(FM p l).Pairwise fun a b=>uX p a<=uX p b
 | [] => .nil
 |x::r=>Mg p x _ (Jb p r)
def IV{l:List Int}(h:l.Nodup){i j:Nat}{a:Int}(hi:l[i]?=some a)(hj:l[j]?=some a):i=j:=by
 have hp:=cB.1 h;obtain⟨h1,e1⟩:=au.1 hi;obtain⟨h2,e2⟩:=au.1 hj;rcases iQ i j with hh|hh|hh
 ·exact absurd (e1.trans e2.symm) (hp i j h1 h2 hh)
 ·exact hh
 ·exact absurd (e2.trans e1.symm) (hp j i h2 h1 hh)
def kI(p:Nat)(xs:List ag)(i:Nat):Int:=uX p (xs.getD (if i<xs.length then i else 0) .any)
def U1(p:Nat)(xs:List ag)(i j:Nat):Bool:=decide (kI p xs i<kI p xs j)
def qc(p:Nat)(xs:List ag):Array Nat:=Go.Sort.pdq (U1 p xs) (Array.range xs.length) 0 (Array.range xs.length).size (Lib.bitLen (Array.range xs.length).size) true true
def sK(p:Nat)(xs:List ag):List ag:=(qc p xs).toList.map fun i=>xs.getD i .any
def anl(p:Nat)(xs:List ag):Go.Sort.SWO (U1 p xs) where
 irrefl x:=by simp[U1]
 trans x y z h1 h2:=by simp[U1] at *; omega
 ntrans x y z h1 h2:=by simp[U1] at *; omega
def xg(p:Nat)(xs:List ag):(qc p xs).size=xs.length/\(qc p xs).toList.Perm (List.range xs.length)/\(qc p xs).toList.Pairwise fun i j=>kI p xs i<=kI p xs j:=by
 have h:=Go.Sort.pdq_sorts (U1 p xs) (anl p xs) (Array.range xs.length) 0 (Array.range xs.length).size (Lib.bitLen (Array.range xs.length).size) true true (ct _) (ak _) (Or.inl rfl);obtain⟨⟨h1,_,h3⟩,h4⟩:=h;have hs:(qc p xs).size=xs.length:=by unfold qc; rw[h1]; simp
 refine⟨hs,?_,?_⟩
 ·have e1:((qc p xs).extract 0 (Array.range xs.length).size).toList=(qc p xs).toList:=by rw[lA,<-hs]; simp
  have e2:((Array.range xs.length).extract 0 (Array.range xs.length).size).toList=List.range xs.length:=by simp[Array.toList_range]
  rw[<-e1,<-e2];exact h3
 ·rw[cB];intro i k hi1 hk1 hik;have hk2:k<(qc p xs).size:=by simpa using hk1
  have:=h4 i k (ct _) hik (by rw[lA,<-hs]; exact hk2)
  have this:U1 p xs (qc p xs)[k]! (qc p xs)[i]! = false:=this;rw[U1,mG _ k hk2,mG _ i aM] at this;simp at this ⊢;omega
def Mi{p:Nat}{xs:List ag}{i:Nat}(h:i∈(qc p xs).toList):i<xs.length:=by
 have:=(xg p xs).2.1.mem_iff.1 h;simpa using this
def uA(p:Nat)(xs:List ag):(sK p xs).Perm xs:=by
 have h:=(xg p xs).2.1.map fun i=>xs.getD i .any
 have e:(List.range xs.length).map (fun i=>xs.getD i .any)=xs:=by
  apply List.ext_getElem
  ·simp
  ·intro i h1 h2;simp at h1;simp[h1]
 rw[e] at h;exact h
def ZF{p:Nat}{xs:List ag}{i:Nat}(h:i<xs.length):kI p xs i=uX p (xs.getD i .any):=by unfold kI; rw[av h]
def I9(p:Nat)(xs:List ag):(sK p xs).Pairwise fun a b=>uX p a<=uX p b:=by
 unfold sK;rw[iL];refine(xg p xs).2.2.imp_of_mem fun {i j} hi hj h=>?_
 rw[ZF (Mi hi),ZF (Mi hj)] at h;exact h
def O3(p:Nat)(xs:List ag):(sK p xs).length=xs.length:=(uA p xs).length_eq
def key_inj{p:Nat}{l:List ag}(h:(l.map (uX p)).Nodup){a b:ag}(ha:a∈l)(hb:b∈l)(he:uX p a=uX p b):a=b:=by
 obtain⟨i,hi⟩:=bX ha;obtain⟨j,hj⟩:=bX hb;have:=IV h (i:=i) (j:=j) (a:=uX p a) (by rw[bb,hi]; rfl) (by rw[bb,hj,he]; rfl)
 subst this;rw[hi] at hj;exact ky hj
def Ja{p:Nat}{xs:List ag}(h:(xs.map (uX p)).Nodup):sK p xs=FM p xs :=
 ((uA p xs).trans (ze p xs).symm).eq_of_pairwise (fun a b ha hb h1 h2=>key_inj h ((uA p xs).mem_iff.1 ha) ((ze p xs).mem_iff.1 hb) aM) (I9 p xs) (Jb p xs)
noncomputable def wI(sz p g:Nat):List ag->aO->Option (ag×aO)
 | [.slice _ xs,.func g' cs],M=>match xs,cs with
  | [],[]=>if g'=g then some (.tuple [],M) else none
  |_,_=>none
 | [.cY id ver sz' lo hi,.func g' cs],M=>match nth M id,cs with
  |some (.arr sz0 v xs),[]=>cH (v=ver/\sz'=sz/\lo=0/\hi<=xs.length/\g'=g/\hi<=1099511627776/\(∀x,x∈xs.take hi->(Wm p x).isSome=true))
    (some (.tuple [],jY M id (.arr sz0 v (sK p (xs.take hi)++xs.drop hi))))
  |_,_=>none
 |_,_=>none
end Go.Abs
namespace Go.Proofs.YtcbopkblmebjiaaGreatDoor
open Go Go.Abs Go.Shelf Go.RowKit Go.Sort
def aiX{sz p:Nat}(e:Nat->EL sz p):SWO (ltOf fun i j=>Yl (e i) (e j)) where
 irrefl x:=ad5.irrefl (e x)
 trans x y z h1 h2:=ad5.trans (e x) (e y) (e z) h1 h2
 ntrans x y z h1 h2:=ad5.ntrans (e x) (e y) (e z) h1 h2
def DM{sz p g f:Nat}(hp:p<sz)
  (h0:∀(A:Option Addr)(cap:Nat)(fv:Value)(w:World),Calls Tryz.prog f #[.slice A 0 cap,fv] w fun e w'=>e = .returned (.tuple #[])/\w'=w)
  (hS:∀(e:Nat->EL sz p)(blk cap:Nat)(d:Array Nat)(w:World),HoldsK (fun i=>(e i).l) sz w blk 0 d->blk<w.heap.size->d.size<4611686018427387904 ->
   Calls Tryz.prog f #[.slice (some ⟨blk,0,none⟩) d.size cap,.func (.func g) #[] #[]] w fun r w'=>r = .returned (.tuple #[])/\∃n os,w'=sortWorldK (fun i=>(e i).l) sz w blk 0 n (pdq (ltOf fun i j=>Yl (e i) (e j)) d 0 d.size (Lib.bitLen d.size) true true) os)
  {args:List ag} {M:aO} {x:ag×aO} (h:wI sz p g args M=some x):eZ Tryz.prog f args M x:=by
 unfold wI at h;split at h
 ·rename_i tk xs g' cs;split at h
  ·split at h
   ·rename_i hg;subst hg;cases h;refine nK.call ?_;intro j w vs hr hG hl hv;obtain⟨l⟩:=vs
    match l,hl with
    | [u1,u2],_ =>
     obtain⟨A,cap,b,off,sz0,vs,e1,_⟩:=(hv 0 _ u1 rfl rfl).eb.eb;subst e1;refine(h0 A cap u2 w).mono ?_;rintro e w' ⟨rfl,rfl⟩;exact⟨_,j,rfl,hr,Ext.refl _ _ _,.tuple rfl fun i c v hi=>by cases hi⟩
   ·cases h
  ·cases h
 ·rename_i ix ver sz' lo hi g' cs;rw[eY] at h;split at h
  ·rename_i sz0 v0 xs hM;obtain⟨⟨rfl,rfl,rfl,hhi,rfl,hbig,hk⟩,h1⟩:=dw h;cases h1;refine nK.call ?_;intro j w vs hr hG hl hv;obtain⟨l⟩:=vs
   match l,hl with
   | [u1,u2],_ =>
    have ha:=hv 0 _ u1 rfl rfl;obtain⟨us,hu2,hul,_⟩:=(hv 1 _ u2 rfl rfl).rB;have hu0:us = #[]:=Array.eq_empty_of_size_eq_zero (by simpa using hul.symm)
    subst hu0;rw[hu2];rcases eL hi with h00|hpos
    ·subst h00;obtain⟨A,cap,e1⟩:=ha.zo;rw[e1];refine(h0 A cap _ w).mono ?_;rintro e w' ⟨rfl,rfl⟩
     have he:jY M ix (.arr sz0 v0 (sK p (xs.take 0)++xs.drop 0))=M:=by
      rw[fJ];apply dA;intro q
      by_cases e:ix=q
      ·subst e; rw[dZ (aJ hM),hM,show sK p (xs.take 0)=[] from cf.1 (by rw[O3]; simp)]; rfl
      ·rw[cT e]
     rw[he];exact⟨_,j,rfl,hr,Ext.refl _ _ _,.tuple rfl fun i c v hi=>by cases hi⟩
    ·obtain⟨_,hid,_,gg⟩:=ha.mQ;obtain⟨e1,_,_,⟨hx,_⟩|⟨b,cap,row,t0,l3,l4,l5,l6,l7⟩⟩:=(gg sz0 v0 xs hM).2 rfl
     ·subst hx; simp at hhi; omega
     subst e1;obtain⟨b',row0,t',k1,k2,k3,k4,k5⟩:=hr.yF hM l3;rw[l3] at k1; cases k1;rw[l6] at k2; injection k2 with k2; injection k2 with k2 k2'
     subst k2; subst k2';have hrow:hi*sz0<=row.size:=bg (bd _ hhi) k3
     -- the elements
     have hidx:∀q k,q<hi->k<sz0->q*sz0+k<hi*sz0:=fun q k hq hk'=>by
      have:(q+1)*sz0<=hi*sz0:=bd _ hq;rw[mF] at this; omega
     have hel:∀q,q<hi->∃a:EL sz0 p,(∀k,k<sz0->a.l[k]?=row[q*sz0+k]?)/\∀x,xs[q]?=some x->a.n=uX p x:=by
      intro q hq;have hxq:xs[q]?=some (xs[q]'(by omega)):=ai aM
      have hwq:=k4 _ (aU hxq)
      have hcell:∀k,k<sz0->∃u,row[q*sz0+k]?=some u/\∃c,(xs[q]'(by omega)).cells[k]?=some c/\fK w (ow j M w) c u:=fun k hk'=>by
       have hc:=ai (l:=(xs[q]'(by omega)).cells) (i:=k) aM
       obtain⟨u,h1,h2⟩:=k5 q _ k _ hxq hc;exact⟨u,h1,_,hc,h2⟩
      have hkx:=hk _ (aU (show(xs.take hi)[q]?=_ by rw[bM hq]; exact hxq))
      have fx:((row.toList.drop (q*sz0)).take sz0).length=sz0:=by
       have:=hidx q (sz0-1) hq aM;simp; omega
      have hget:∀k,k<sz0->((row.toList.drop (q*sz0)).take sz0)[k]?=row[q*sz0+k]?:=fun k hk'=>by
       rw[bM hk',cZ]; simp
      obtain⟨u,hu1,c,hc1,hc2⟩:=hcell p hp
      obtain⟨n,hn⟩:∃n,c = .int .i64 n:=by
       unfold Wm at hkx;rw[hc1] at hkx;split at hkx
       ·rename_i hh; injection hh with hh; exact⟨_,hh⟩
       ·cases hkx
      subst hn;have hu:=(gn.plain (j:=j) (M:=M) hc2).fS;subst hu;refine⟨⟨(row.toList.drop (q*sz0)).take sz0,fx,fun v hv=>?_,n,by rw[hget p hp]; exact hu1⟩,hget,fun x hx=>?_⟩
      ·obtain⟨k,hk'⟩:=bX hv;have hkl:k<sz0:=by rw[<-fx]; exact aJ hk'
       obtain⟨u,h1,c,_,h3⟩:=hcell k hkl;rw[hget k hkl,h1] at hk'; cases hk';exact h3.one
      ·rw[hxq] at hx; cases hx;simp[uX,Wm,hc1]
     obtain⟨e,he,hen⟩:∃e:Nat->EL sz0 p,(∀q,q<hi->∀k,k<sz0->(e q).l[k]?=row[q*sz0+k]?)/\∀q,(e q).n=kI p (xs.take hi) q:=by
      have hl:(xs.take hi).length=hi:=ic;refine⟨fun q=>if h:q<hi then (hel q h).choose else (hel 0 hpos).choose,fun q hq=>?_,fun q=>?_⟩
      ·dsimp only;rw[dif_pos hq];exact(hel q hq).choose_spec.1
      ·have hat:∀i,i<hi->(xs.take hi).getD i .any=xs.getD i .any:=fun i hi'=>by rw[db,db,bM hi']
       have hgt:∀i,i<hi->xs[i]?=some (xs.getD i .any):=fun i hi'=>by rw[db,ai aM]; rfl
       unfold kI;dsimp only;rw[hl]
       by_cases hq:q<hi
       ·rw[dif_pos hq,av hq,hat q hq];exact(hel q hq).choose_spec.2 _ (hgt q hq)
       ·rw[dif_neg hq,aj hq,hat 0 hpos];exact(hel 0 hpos).choose_spec.2 _ (hgt 0 hpos)
     have cA:(ltOf fun i j=>Yl (e i) (e j))=U1 p (xs.take hi):=by
      funext i j;have:=ltE (e i) (e j);unfold ltOf at this ⊢;rw[this,hen,hen];rfl
     have hl:(xs.take hi).length=hi:=ic;have hr! : ∀q,q<hi->(Array.range hi)[q]! = q:=fun q hq=>by rw[mG _ q (by simpa using hq)]; simp
     have hfl:∀t,t<hi*sz0->row[t]?=some ((e (Array.range hi)[t / sz0]!).l[t % sz0]!):=fun t ht=>by
      have hq:t / sz0<hi:=(kJ aM).2 ht;have hm:t % sz0<sz0:=lM _ aM;have h1:=he _ hq _ hm;rw[Nat.div_add_mod'] at h1;rw[hr! _ hq,<-h1];have h2:t % sz0<(e (t / sz0)).l.length:=by rw[(e (t / sz0)).hl]; exact hm
      rw[ai h2,mG (e (t / sz0)).l (t % sz0) h2]
     have hH:HoldsK (fun i=>(e i).l) sz0 w b 0 (Array.range hi):=fun t ht=>by
      simp only[size_flatK,lA] at ht;rw[get_flatK _ _ _ _ (by simpa using ht)]
      refine⟨?_,?_⟩
      ·simp only[aN,World.cell?,l6,id];exact hfl t ht
      ·simp[World.frozen?,l6]
     rw[l4,cd,jv];have hcall:=hS e b cap (Array.range hi) w hH (lt_of_block l6) ic;rw[cA] at hcall;have hix:pdq (U1 p (xs.take hi)) (Array.range hi) 0 (Array.range hi).size (Lib.bitLen (Array.range hi).size) true true=qc p (xs.take hi):=by unfold qc; rw[hl]
     rw[hix] at hcall;obtain⟨hs1,_,_⟩:=xg p (xs.take hi);rw[hl] at hs1;generalize hd':qc p (xs.take hi)=d' at hcall hs1;simp only[lA] at hcall;refine hcall.mono ?_;rintro e1 w' ⟨rfl,n,os,rfl⟩
     have hmatch:∀(q:Nat)(y:ag),(sK p (xs.take hi))[q]?=some y->∃i,d'.toList[q]?=some i/\i<hi/\xs[i]?=some y:=fun q y hy=>by
      unfold sK at hy;rw[bb,aW] at hy;obtain⟨i,h1,h2⟩:=hy;have hi':i<hi:=by have:=Mi (aU h1); omega
      rw[hd'] at h1;refine⟨i,h1,hi',?_⟩;rw[<-h2,db,bM hi',ai aM];rfl
     -- the world behind
     have hbk:(sortWorldK (fun i=>(e i).l) sz0 w b 0 n d' os).heap[b]?=some (.cells (Go.Sort.putCells id 0 (flatK (fun i=>(e i).l) sz0 d') row) t0 (0,0)):=by
      have cA:=lt_of_block l6
      show((w.heap.modify b (onCells (Go.Sort.putCells id 0 (flatK (fun i=>(e i).l) sz0 d'))))++os)[b]?=_
      rw[cy (by simpa using cA),ft,av rfl,l6]
      rfl
     have hq:Quiet w (sortWorldK (fun i=>(e i).l) sz0 w b 0 n d' os):=⟨by show w.heap.size<=((w.heap.modify b _)++os).size; simp,rfl,rfl,rfl⟩
     have hoth:∀b',b'≠b->b'<w.heap.size->(sortWorldK (fun i=>(e i).l) sz0 w b 0 n d' os).heap[b']?=w.heap[b']?:=fun b' hne cA=>by
      show((w.heap.modify b _)++os)[b']?=_
      rw[cy (by simpa using cA),ft,aj (dM hne)]
     have hsl:(sK p (xs.take hi)).length=hi:=by rw[(uA p _).length_eq]; simp; omega
     have hwd:wid (sK p (xs.take hi)++xs.drop hi) sz0:=nr (fun x hx=>k4 x (cR ((uA p _).mem_iff.1 hx))) (vH k4)
     have hcells:∀t,t<hi*sz0->(Go.Sort.putCells id 0 (flatK (fun i=>(e i).l) sz0 d') row)[t]?=some ((e d'[t / sz0]!).l[t % sz0]!):=fun t ht=>by
      unfold Go.Sort.putCells;rw[Array.getElem?_mapIdx,bf (show t<row.size by omega)]
      simp only[cW,size_flatK,hs1,aN,cd,ct,true_and,ht,aE,id];rw[get_flatK _ _ _ _ (by rw[hs1]; exact ht)]
     have hrl:RL w (ow j M w) (jM (sK p (xs.take hi)++xs.drop hi)) ((Go.Sort.putCells id 0 (flatK (fun i=>(e i).l) sz0 d') row).toList.take (xs.length*sz0)):=by
      have hpsz:(Go.Sort.putCells id 0 (flatK (fun i=>(e i).l) sz0 d') row).size=row.size:=by simp[Go.Sort.putCells]
      refine xG (b:=b) (by rw[hpsz]; simpa[hsl,dn hhi] using k3) hwd (fun q x k c hx hkc=>?_) |> fun h=>by
       have e:(sK p (xs.take hi)++xs.drop hi).length=xs.length:=by simp[hsl]; omega
       rwa[e] at h
      have hkl:k<sz0:=by rw[<-hwd x (aU hx)]; exact aJ hkc
      rcases bK q hi with hq'|hq'
      ·rw[bh (by rw[hsl]; exact hq')] at hx
       obtain⟨i,h1,hi',h3⟩:=hmatch q x hx;obtain⟨u,g1,g2⟩:=k5 i x k c h3 hkc;refine⟨u,?_,g2⟩;rw[hcells _ (hidx q k hq' hkl)];have hdv:(q*sz0+k) / sz0=q:=by rw[Nat.mul_comm,Nat.mul_add_div aM,Nat.div_eq_of_lt hkl]; rfl
       have hmd:(q*sz0+k) % sz0=k:=by rw[Nat.mul_comm,Nat.mul_add_mod,Nat.mod_eq_of_lt hkl]
       rw[hdv,hmd]
       have ha':d'[q]! = i:=by
        have hq2:q<d'.size:=aM;rw[mG d' q hq2];simpa[bf hq2] using h1
       rw[ha',<-g1,<-he i hi' k hkl];have:k<(e i).l.length:=by rw[(e i).hl]; exact hkl
       rw[ai this,mG (e i).l k this]
      ·rw[bA (by rw[hsl]; exact hq'),hsl,cZ,dn hq'] at hx
       obtain⟨u,g1,g2⟩:=k5 q x k c hx hkc;refine⟨u,?_,g2⟩;unfold Go.Sort.putCells;have hge:hi*sz0<=q*sz0+k:=bg (bd _ hq') (nF _ _);rw[Array.getElem?_mapIdx,g1];simp only[cW,size_flatK,hs1,aN];rw[aj aM]
     rw[fJ]
     have hput:=xF (ver':=v0) (xs':=sK p (xs.take hi)++xs.drop hi) hr hM l3 hq hoth l6 hbk (by simp[Go.Sort.putCells]) (ak _) (fun _=>by simp[hsl]; omega) hwd hrl (fun t ht=>by
      rw[bM (by simp at ht; omega)]; simp)
     exact⟨_,j,rfl,hput.1,hput.2,.tuple rfl fun i c v hi=>by cases hi⟩
  ·cases h
 ·cases h
def UG{args:List ag}{M:aO}{x:ag×aO}(h:wI 3 2 221 args M=some x):eZ Tryz.prog 220 args M x :=
 DM aM (fun A cap fv w=>AnyF.slices_SortFunc_none Tryz.MV A cap fv w)
  (fun e blk cap d w hH hb hs=>AnyQ.slices_SortFunc_eq Tryz.MV 3 isAgg129 sizeOf129 (fun i=>(e i).l) (fun i=>(e i).hl) (fun i=>(e i).h1) _ (aiX e) 221 #[] blk 0 cap d w (enters_of func221 gd rfl) (VB.lays e blk 0 d.size w) hH hb hs) h
def XP{args:List ag}{M:aO}{x:ag×aO}(h:wI 6 0 59 args M=some x):eZ Tryz.prog 58 args M x :=
 DM aM (fun A cap fv w=>AnyF.slices_SortFunc_none Tryz.Jc A cap fv w)
  (fun e blk cap d w hH hb hs=>AnyQ.slices_SortFunc_eq Tryz.Jc 6 isAgg60 sizeOf60 (fun i=>(e i).l) (fun i=>(e i).hl) (fun i=>(e i).h1) _ (aiX e) 59 #[] blk 0 cap d w (enters_of func59 gd rfl) (aaW.lays e blk 0 d.size w) hH hb hs) h
end Go.Proofs.YtcbopkblmebjiaaGreatDoor
namespace Go.Proofs.YtcbopkblmebjiaaGreatDoor
open Go Go.Abs
open Go.RowKit
set_option maxHeartbeats 1000000 in
set_option maxRecDepth 100000 in
def J5(a b:ByteArray)(w:World) :
  Calls Tryz.prog 199 #[.string a,.string b] w fun e w'=>e = .returned (.int .i64 (Lib.compareBytes a.data.toList b.data.toList))/\w'=w:=by
 go_enter func199,ntmps199
 go_wp2
 rw[run_callFunc_extern func244 gd gd gd (e:=Extern.BytealgCompare.compare) gd,Lib.run_compareString];simp only[Result.andThen];rw[Oper.upon_value]
 go_wp2
 go_ret
 exact⟨rfl,rfl⟩
noncomputable def zW:List ag->aO->Option (ag×aO)
 | [.str a,.str b],M=>some (.int .i64 (Lib.compareBytes a b),M)
 |_,_=>none
def HI{args:List ag}{M:aO}{x:ag×aO}(h:zW args M=some x):eZ Tryz.prog 199 args M x:=by
 unfold zW at h;split at h
 ·rename_i a b;cases h;refine nK.call ?_;intro j w vs hr hG hl hv;obtain⟨l⟩:=vs
  match l,hl with
  | [u1,u2],_ =>
   have h1:=(hv 0 _ u1 rfl rfl).kg;have h2:=(hv 1 _ u2 rfl rfl).kg;subst h1; subst h2;refine(J5 (bs a) (bs b) w).mono ?_;rintro e w' ⟨rfl,rfl⟩;exact⟨_,j,rfl,hr,.refl _ _ _,.plain (.int _ _)⟩
 ·cases h
end Go.Proofs.YtcbopkblmebjiaaGreatDoor
namespace Go.Proofs
open Go.Shelf
def Tryz.BL:Go.Shelf.Ren:=⟨fun|156=>131|165=>196|166=>197|169=>198|240=>242|241=>243|276=>263|277=>264|n=>n,fun|31=>35|9=>9|3=>3|4=>4|0=>0|20=>20|72=>233|76=>234|70=>231|37=>23|75=>137|127=>284|164=>197|5=>5|80=>236|n=>n,fun|n=>n⟩
def Tryz.Mn:Go.Proofs.Lays.n156 Tryz.prog Tryz.BL:={
 mixed:=gd
 f156:=(sN func131)
 f165:=(sN func196)
 f166:=(sN func197)
 f169:=(sN func198)
 f240:=(sN func242)
 f241:=(sN func243)
 f276:=(sN func263)
 f277:=(sN func264)
 t0:=underlying0
 a0:=isAgg0
 z0:=sizeOf0
 v0:=zeroValue0
 t3:=underlying3
 a3:=isAgg3
 z3:=sizeOf3
 v3:=zeroValue3
 t4:=underlying4
 a4:=isAgg4
 z4:=sizeOf4
 v4:=zeroValue4
 t9:=underlying9
 a9:=isAgg9
 z9:=sizeOf9
 v9:=zeroValue9
 t20:=underlying20
 a20:=isAgg20
 z20:=sizeOf20
 v20:=zeroValue20
 t31:=underlying35
 a31:=isAgg35
 z31:=sizeOf35
 v31:=zeroValue35
 t37:=underlying23
 a37:=isAgg23
 z37:=sizeOf23
 v37:=zeroValue23
 t70:=underlying231
 a70:=isAgg231
 z70:=sizeOf231
 v70:=zeroValue231
 t72:=underlying233
 a72:=isAgg233
 z72:=sizeOf233
 v72:=zeroValue233
 t75:=underlying137
 a75:=isAgg137
 z75:=sizeOf137
 v75:=zeroValue137
 t76:=underlying234
 a76:=isAgg234
 z76:=sizeOf234
 v76:=zeroValue234
 t127:=underlying284
 a127:=isAgg284
 z127:=sizeOf284
 v127:=zeroValue284
 t164:=underlying197
 a164:=isAgg197
 z164:=sizeOf197
 v164:=zeroValue197 }
def Tryz.uD:Builder.Extra Tryz.prog Tryz.BL:={
 sizeBuilder:=gd
 liesBuilder:=gd
 t5:=underlying5
 a5:=isAgg5
 z5:=sizeOf5
 v5:=zeroValue5
 infoByte:=gd
 cellsByte:=gd
 sizeByte:=gd
 neB5:=by decide }
open Go.RowKit in
def Tryz.strings_Join_none(a:Option Addr)(c:Nat)(sep:ByteArray)(w:World) :
  Calls Tryz.prog 131 #[.slice a 0 c,.string sep] w fun e w'=>e = .returned (.string ⟨#[]⟩)/\w'=w:=Any.strings_Join_none Tryz.Mn Tryz.uD a c sep w
open Go.RowKit in
def Tryz.strings_Join(bk o c:Nat)(xs:List ByteArray)(sep:ByteArray)(w:World)(hcells:∀(j:Nat) x,xs[j]?=some x->w.cell? ⟨bk,o+j,none⟩=some (.string x))(hbk:bk<w.heap.size)(hN:xs.length<=140737488355328)(hcap:xs.length<=c)(fx:(Lib.join (xs.map (·.data.toList)) sep.data.toList).length<=140737488355328) :
  Calls Tryz.prog 131 #[.slice (some ⟨bk,o,none⟩) xs.length c,.string sep] w fun e w'=>e = .returned (.string ⟨(Lib.join (xs.map (·.data.toList)) sep.data.toList).toArray⟩)/\Below w.heap.size w w':=Any.strings_Join Tryz.Mn Tryz.uD bk o c xs sep w hcells hbk hN hcap fx
def Tryz.Il:Go.Shelf.Ren:=⟨fun|137=>194|217=>241|266=>262|n=>n,fun|9=>9|5=>5|3=>3|n=>n,fun|n=>n⟩
def Tryz.Wq:Go.Proofs.Lays.n137 Tryz.prog Tryz.Il:={
 mixed:=gd
 f137:=(sN func194)
 f217:=(sN func241)
 f266:=(sN func262)
 t3:=underlying3
 a3:=isAgg3
 z3:=sizeOf3
 v3:=zeroValue3
 t5:=underlying5
 a5:=isAgg5
 z5:=sizeOf5
 v5:=zeroValue5
 t9:=underlying9
 a9:=isAgg9
 z9:=sizeOf9
 v9:=zeroValue9 }
open Go.RowKit in
def Tryz.strings_IndexByte(s:ByteArray)(c:Int)(w:World) :
  Calls Tryz.prog 194 #[.string s,.int .u8 c] w fun e w'=>e = .returned (.int .i64 (Lib.indexByte s.data.toList c.toNat.toUInt8))/\w'=w:=Any.strings_IndexByte Tryz.Wq s c w
end Go.Proofs
namespace Go.Proofs.YtcbopkblmebjiaaGreatDoor
open Go Go.Abs
open Go.RowKit
def BR{P:Program}{f:Nat}{args:List ag}{M:aO}{r:ag}
  (h:∀(j:J)(w:World)(vs:Array Value),Rel j M w->sS j M w->args.length=vs.size->(∀(i:Nat)(c:ag)(v:Value),args[i]?=some c->vs[i]?=some v->gn j M w c v) ->
   Calls P f vs w fun e w'=>∃v,e = .returned v/\Below w.heap.size w w'/\gn j M w' r v):eZ P f args M (r,M):=by
 refine nK.call ?_;intro j w vs hr hG hl hv;refine(h j w vs hr hG hl hv).mono ?_;rintro e w' ⟨v,rfl,hb,hrep⟩;exact⟨v,j,rfl,hr.grow hb.size hb.os hb.tape hb.output hb.block,Ext.grow hb.size hb.os hb.tape hb.output hb.block,hrep⟩
def y8:List ag->aO->Option (ag×aO)
 | [.str s,.int k c],M=>if k = .u8 then some (.int .i64 (Lib.indexByte s c.toNat.toUInt8),M) else none
 |_,_=>none
def Kz{args:List ag}{M:aO}{x:ag×aO}(h:y8 args M=some x):eZ Tryz.prog 194 args M x:=by
 unfold y8 at h;split at h
 ·rename_i s k c;split at h
  ·rename_i hk;subst hk;cases h;refine BR fun j w vs hr hG hl hv=>?_
   obtain⟨l⟩:=vs
   match l,hl with
   | [u1,u2],_ =>
    obtain rfl:=(hv 0 _ u1 rfl rfl).kg;obtain rfl:=(hv 1 _ u2 rfl rfl).fS;refine(Tryz.strings_IndexByte (bs s) c w).mono ?_;rintro e w' ⟨rfl,rfl⟩;exact⟨_,rfl,Below.refl _ _,by simp[bs]; exact .plain (.int _ _)⟩
  ·cases h
 ·cases h
def Bm:List ag->Option (List (List UInt8))
 | []=>some []
 | .str s::r=>bP (Bm r) fun l=>some (s::l)
 |_=>none
def FR:∀ {xs:List ag} {l:List (List UInt8)},Bm xs=some l->xs=l.map .str
 | [],l,h=>by cases h; rfl
 |x::r,l,h=>by
  unfold Bm at h;split at h
  ·rename_i e; cases e
  ·rename_i s r' e;injection e with e1 e2; subst e1; subst e2
   obtain⟨l',h1,h2⟩:=bu h;cases h2;rw[FR h1]; rfl
  ·cases h
def IX:List ag->aO->Option (ag×aO)
 | [.slice _ xs,.str sep],M=>bP (Bm xs) fun l=>if l.length<=140737488355328/\(Lib.join l sep).length<=140737488355328 then some (.str (Lib.join l sep),M) else none
 |_,_=>none
def ahE{args:List ag}{M:aO}{x:ag×aO}(h:IX args M=some x):eZ Tryz.prog 131 args M x:=by
 unfold IX at h;split at h
 ·rename_i tk xs sep;obtain⟨l,hl0,h⟩:=bu h;have hxs:=FR hl0;split at h
  ·rename_i hs;cases h;refine BR fun j w vs hr hG hl hv=>?_
   obtain⟨us⟩:=vs
   match us,hl with
   | [u1,u2],_ =>
    obtain⟨A,cap,b,off,sz,vs,e1,e2,e3,e4,e5,e6⟩:=(hv 0 _ u1 rfl rfl).eb.eb;obtain rfl:=(hv 1 _ u2 rfl rfl).kg;subst e1;subst hxs;cases l with
    |nil =>
     refine(Tryz.strings_Join_none A cap (bs sep) w).mono ?_;rintro e w' ⟨rfl,rfl⟩;exact⟨_,rfl,Below.refl _ _,.plain (.str _)⟩
    |cons s0 l =>
     obtain rfl:=e3 dk;have hsz:sz=1:=(e4 (.str s0) dk).symm;subst hsz
     have cell:∀(q:Nat)(s:List UInt8),(s0::l)[q]?=some s->w.cell? ⟨b,off+q,none⟩=some (.string (bs s)):=fun q s hq=>by
      have hq':((s0::l).map ag.str)[q]?=some (.str s):=by rw[bb,hq]; rfl
      have k1:=e5 q _ 0 (.str s) hq' rfl;have k2:=(gn.plain (j:=j) (M:=M) (e6 q _ 0 (.str s) hq' rfl)).kg;simp only[Nat.mul_one,dq] at k1 k2;rw[k1.1,k2]
     have hmap:((s0::l).map bs).map (·.data.toList)=s0::l:=by
      rw[fY]; conv=>rhs; rw[<-List.map_id (s0::l)]
      exact cj fun s _=>by simp[bs]
     have hd:(bs sep).data.toList=sep:=by simp[bs]
     have hb:b<w.heap.size:=by
      have:=cell 0 s0 rfl;rcases bK b w.heap.size with h|h
      ·exact h
      ·simp[World.cell?,ik h] at this
     have hJ:=Tryz.strings_Join b off cap ((s0::l).map bs) (bs sep) w (fun q x hq=>by
      rw[bb,aW] at hq;obtain⟨s,hs,rfl⟩:=hq;exact cell q s hs) hb (by simpa using hs.1) (by simpa using e2) (by rw[hmap,hd]; exact hs.2)
     rw[hmap,hd] at hJ;have:((s0::l).map bs).length=((s0::l).map ag.str).length:=dk;rw[this] at hJ;refine hJ.mono ?_;rintro e w' ⟨rfl,hb⟩;exact⟨_,rfl,hb,.plain (.str _)⟩
  ·cases h
 ·cases h
end Go.Proofs.YtcbopkblmebjiaaGreatDoor
namespace Go.Abs
open Go
def TG0:(∀B M b,ag.jD B M (.bool b)=(.bool b)/\ag.kG B M (.bool b)=(.bool b)/\ag.jL B M (.bool b)=(.bool b)/\ag.lN B M (.bool b)=(.bool b)/\ag.j8 B M (.bool b)=(.bool b)/\ag.kC B M (.bool b)=(.bool b)/\ag.mR B M (.bool b)=(.bool b)) /\
  (∀b,ag.shut (.bool b)=(.bool b)/\ag.gj (.bool b)=(.bool b)/\ag.jG (.bool b)=false/\ag.cells? (.bool b)=some [(.bool b)]/\ag.j9 (.bool b)=true/\ag.plainCell (.bool b)=true/\ag.plain (.bool b)=true/\ag.cells (.bool b)=[(.bool b)]/\ag.iz (.bool b)=[]/\ag.oZ (.bool b)=[]/\ag.ids (.bool b)=[]) /\
  (∀M b,ag.pG M (.bool b)=(.bool b)/\ag.sZ M (.bool b)=(.bool b)) /\
  (∀B M k n,ag.jD B M (.int k n)=(.int k n)/\ag.kG B M (.int k n)=(.int k n)/\ag.jL B M (.int k n)=(.int k n)/\ag.lN B M (.int k n)=(.int k n)/\ag.j8 B M (.int k n)=(.int k n)/\ag.kC B M (.int k n)=(.int k n)/\ag.mR B M (.int k n)=(.int k n)) /\
  (∀k n,ag.shut (.int k n)=(.int k n)/\ag.gj (.int k n)=(.int k n)/\ag.jG (.int k n)=false/\ag.cells? (.int k n)=some [(.int k n)]/\ag.j9 (.int k n)=true/\ag.plainCell (.int k n)=true/\ag.plain (.int k n)=true/\ag.cells (.int k n)=[(.int k n)]/\ag.iz (.int k n)=[]/\ag.oZ (.int k n)=[]/\ag.ids (.int k n)=[]) /\
  (∀M k n,ag.pG M (.int k n)=(.int k n)/\ag.sZ M (.int k n)=(.int k n)) /\
  (∀B M s,ag.jD B M (.str s)=(.str s)/\ag.kG B M (.str s)=(.str s)/\ag.jL B M (.str s)=(.str s)/\ag.lN B M (.str s)=(.str s)/\ag.j8 B M (.str s)=(.str s)/\ag.kC B M (.str s)=(.str s)/\ag.mR B M (.str s)=(.str s)) /\
  (∀s,ag.shut (.str s)=(.str s)/\ag.gj (.str s)=(.str s)/\ag.jG (.str s)=false/\ag.cells? (.str s)=some [(.str s)]/\ag.j9 (.str s)=true/\ag.plainCell (.str s)=true/\ag.plain (.str s)=true/\ag.cells (.str s)=[(.str s)]/\ag.iz (.str s)=[]/\ag.oZ (.str s)=[]/\ag.ids (.str s)=[]):=by
 repeat' (first|rfl|intro _|apply And.intro)
def TG1:(∀M s,ag.pG M (.str s)=(.str s)/\ag.sZ M (.str s)=(.str s)) /\
  (∀B M id off,ag.jD B M (.ptr id off)=(if id<B then (.ptr id off) else .any)/\ag.kG B M (.ptr id off)=(if id<B then (.ptr id off) else .any)/\ag.jL B M (.ptr id off)=(if id<B then (.ptr id off) else .any)/\ag.lN B M (.ptr id off)=(if id<B then (.ptr id off) else .any)/\ag.j8 B M (.ptr id off)=(if id<B then (.ptr id off) else .any)/\ag.kC B M (.ptr id off)=(if id<B then (.ptr id off) else .any)/\ag.mR B M (.ptr id off)=(if id<B then (.ptr id off) else .any)) /\
  (∀id off,ag.shut (.ptr id off)=(.ptr id off)/\ag.gj (.ptr id off)=(.ptr id off)/\ag.jG (.ptr id off)=false/\ag.cells? (.ptr id off)=some [(.ptr id off)]/\ag.j9 (.ptr id off)=true/\ag.plainCell (.ptr id off)=false/\ag.plain (.ptr id off)=false/\ag.cells (.ptr id off)=[(.ptr id off)]/\ag.iz (.ptr id off)=[id]/\ag.oZ (.ptr id off)=[id]/\ag.ids (.ptr id off)=[id]) /\
  (∀M id off,ag.pG M (.ptr id off)=(.ptr id off)/\ag.sZ M (.ptr id off)=(.ptr id off)) /\
  (∀B M cs,ag.jD B M (.ju cs)=(.ju cs)/\ag.kG B M (.ju cs)=(.ju cs)/\ag.jL B M (.ju cs)=(.ju cs)/\ag.lN B M (.ju cs)=(.ju cs)/\ag.j8 B M (.ju cs)=(.ju cs)/\ag.kC B M (.ju cs)=(.ju cs)/\ag.mR B M (.ju cs)=(.ju cs)) /\
  (∀cs,ag.shut (.ju cs)=(.ju cs)/\ag.gj (.ju cs)=(.ju cs)/\ag.jG (.ju cs)=false/\ag.cells? (.ju cs)=some [(.ju cs)]/\ag.j9 (.ju cs)=true/\ag.plainCell (.ju cs)=false/\ag.plain (.ju cs)=false/\ag.cells (.ju cs)=[(.ju cs)]/\ag.iz (.ju cs)=[]/\ag.oZ (.ju cs)=[]/\ag.ids (.ju cs)=[]) /\
  (∀M cs,ag.pG M (.ju cs)=(.ju cs)/\ag.sZ M (.ju cs)=(.ju cs)) /\
  (∀B M f cs,ag.jD B M (.func f cs) = .any/\ag.kG B M (.func f cs) = .func f (cs.map (ag.jD B M))/\ag.jL B M (.func f cs) = .func f (cs.map (ag.jD B M))/\ag.lN B M (.func f cs) = .func f (cs.map (ag.jD B M))/\ag.j8 B M (.func f cs) = .func f (cs.map (ag.jD B M))/\ag.kC B M (.func f cs) = .func f (cs.map (ag.jD B M))/\ag.mR B M (.func f cs) = .func f (cs.map (ag.jD B M))):=by
 repeat' (first|rfl|intro _|apply And.intro)
def TG2:(∀f cs,ag.shut (.func f cs)=(.func f cs)/\ag.gj (.func f cs)=(.func f cs)/\ag.jG (.func f cs)=false/\ag.cells? (.func f cs)=some [(.func f cs)]/\ag.j9 (.func f cs)=true/\ag.plainCell (.func f cs)=false/\ag.plain (.func f cs)=false/\ag.cells (.func f cs)=[(.func f cs)]/\ag.iz (.func f cs)=[]/\ag.oZ (.func f cs)=cs.flatMap ag.iz/\ag.ids (.func f cs)=cs.flatMap ag.iz) /\
  (∀M f cs,ag.pG M (.func f cs)=(.func f cs)/\ag.sZ M (.func f cs)=(.func f cs)) /\
  (∀B M id,ag.jD B M (.gJ id)=(if id<B then (.gJ id) else .any)/\ag.kG B M (.gJ id)=(if id<B then (.gJ id) else .any)/\ag.jL B M (.gJ id)=(if id<B then (.gJ id) else .any)/\ag.lN B M (.gJ id)=(if id<B then (.gJ id) else .any)/\ag.j8 B M (.gJ id)=(if id<B then .gJ id else match M[id]? with|some (.map ks vs)=>if vs.all ag.plain&&ks.all ag.plainCell then .iB ks vs else .any|_ => .any)/\ag.kC B M (.gJ id)=(if id<B then .gJ id else match M[id]? with|some (.map ks vs)=>if vs.all ag.plain&&ks.all ag.plainCell then .iB ks vs else .any|_ => .any)/\ag.mR B M (.gJ id)=(if id<B then .gJ id else match M[id]? with|some (.map ks vs)=>if vs.all ag.plain&&ks.all ag.plainCell then .iB ks vs else .any|_ => .any)) /\
  (∀id,ag.shut (.gJ id)=(.gJ id)/\ag.gj (.gJ id)=(.gJ id)/\ag.jG (.gJ id)=false/\ag.cells? (.gJ id)=some [(.gJ id)]/\ag.j9 (.gJ id)=true/\ag.plainCell (.gJ id)=false/\ag.plain (.gJ id)=false/\ag.cells (.gJ id)=[(.gJ id)]/\ag.iz (.gJ id)=[id]/\ag.oZ (.gJ id)=[id]/\ag.ids (.gJ id)=[id]) /\
  (∀M id,ag.pG M (.gJ id)=(.gJ id)/\ag.sZ M (.gJ id)=(.gJ id)) /\
  (∀B M id,ag.jD B M (.jI id)=(if id<B then (.jI id) else .any)/\ag.kG B M (.jI id)=(if id<B then (.jI id) else .any)/\ag.jL B M (.jI id)=(if id<B then (.jI id) else .any)/\ag.lN B M (.jI id)=(if id<B then (.jI id) else .any)/\ag.j8 B M (.jI id)=(if id<B then (.jI id) else .any)/\ag.kC B M (.jI id)=(if id<B then (.jI id) else .any)/\ag.mR B M (.jI id)=(if id<B then (.jI id) else .any)) /\
  (∀id,ag.shut (.jI id)=(.jI id)/\ag.gj (.jI id)=(.jI id)/\ag.jG (.jI id)=false/\ag.cells? (.jI id)=some [(.jI id)]/\ag.j9 (.jI id)=true/\ag.plainCell (.jI id)=false/\ag.plain (.jI id)=false/\ag.cells (.jI id)=[(.jI id)]/\ag.iz (.jI id)=[id]/\ag.oZ (.jI id)=[id]/\ag.ids (.jI id)=[id]) /\
  (∀M id,ag.pG M (.jI id)=(.jI id)/\ag.sZ M (.jI id)=(.jI id)):=by
 repeat' (first|rfl|intro _|apply And.intro)
def TG3:(∀B M ks vs,ag.jD B M (.iB ks vs)=(.iB ks vs)/\ag.kG B M (.iB ks vs)=(.iB ks vs)/\ag.jL B M (.iB ks vs)=(.iB ks vs)/\ag.lN B M (.iB ks vs)=(.iB ks vs)/\ag.j8 B M (.iB ks vs)=(.iB ks vs)/\ag.kC B M (.iB ks vs)=(.iB ks vs)/\ag.mR B M (.iB ks vs)=(.iB ks vs)) /\
  (∀ks vs,ag.shut (.iB ks vs)=(.iB ks vs)/\ag.gj (.iB ks vs)=(.iB ks vs)/\ag.jG (.iB ks vs)=false/\ag.cells? (.iB ks vs)=some [(.iB ks vs)]/\ag.j9 (.iB ks vs)=true/\ag.plainCell (.iB ks vs)=false/\ag.plain (.iB ks vs)=false/\ag.cells (.iB ks vs)=[(.iB ks vs)]/\ag.iz (.iB ks vs)=[]/\ag.oZ (.iB ks vs)=[]/\ag.ids (.iB ks vs)=[]) /\
  (∀M ks vs,ag.pG M (.iB ks vs)=(.iB ks vs)/\ag.sZ M (.iB ks vs)=(.iB ks vs)) /\
  (∀B M id ver sz lo hi,ag.jD B M (.cY id ver sz lo hi)=(if id<B then (.cY id ver sz lo hi) else match M[id]? with|some (.arr _ v xs)=>if v=ver then ka ((xs.take hi).drop lo) else .any|_ => .any)/\ag.kG B M (.cY id ver sz lo hi)=(if id<B then (.cY id ver sz lo hi) else match M[id]? with|some (.arr _ v xs)=>if v=ver then ka ((xs.take hi).drop lo) else .any|_ => .any)/\ag.jL B M (.cY id ver sz lo hi)=(if id<B then (.cY id ver sz lo hi) else match M[id]? with|some (.arr _ v xs)=>if v=ver then ka ((xs.take hi).drop lo) else .any|_ => .any)/\ag.lN B M (.cY id ver sz lo hi)=(if id<B then (.cY id ver sz lo hi) else match M[id]? with|some (.arr _ v xs)=>if v=ver then ka ((xs.take hi).drop lo) else .any|_ => .any)/\ag.j8 B M (.cY id ver sz lo hi)=(if id<B then (.cY id ver sz lo hi) else match M[id]? with|some (.arr _ v xs)=>if v=ver then ka ((xs.take hi).drop lo) else .any|_ => .any)/\ag.kC B M (.cY id ver sz lo hi)=(if id<B then (.cY id ver sz lo hi) else match M[id]? with|some (.arr _ v xs)=>if v=ver then ka ((xs.take hi).drop lo) else .any|_ => .any)/\ag.mR B M (.cY id ver sz lo hi)=(if id<B then (.cY id ver sz lo hi) else match M[id]? with|some (.arr _ v xs)=>if v=ver then ka ((xs.take hi).drop lo) else .any|_ => .any)) /\
  (∀id ver sz lo hi,ag.shut (.cY id ver sz lo hi)=(.cY id ver sz lo hi)/\ag.gj (.cY id ver sz lo hi)=(.cY id ver sz lo hi)/\ag.jG (.cY id ver sz lo hi)=false/\ag.cells? (.cY id ver sz lo hi)=some [(.cY id ver sz lo hi)]/\ag.j9 (.cY id ver sz lo hi)=true/\ag.plainCell (.cY id ver sz lo hi)=false/\ag.plain (.cY id ver sz lo hi)=false/\ag.cells (.cY id ver sz lo hi)=[(.cY id ver sz lo hi)]/\ag.iz (.cY id ver sz lo hi)=[id]/\ag.oZ (.cY id ver sz lo hi)=[id]/\ag.ids (.cY id ver sz lo hi)=[id]) /\
  (∀B M id ver i off,ag.jD B M (.iI id ver i off)=(if id<B then (.iI id ver i off) else .any)/\ag.kG B M (.iI id ver i off)=(if id<B then (.iI id ver i off) else .any)/\ag.jL B M (.iI id ver i off)=(if id<B then (.iI id ver i off) else .any)/\ag.lN B M (.iI id ver i off)=(if id<B then (.iI id ver i off) else .any)/\ag.j8 B M (.iI id ver i off)=(if id<B then (.iI id ver i off) else .any)/\ag.kC B M (.iI id ver i off)=(if id<B then (.iI id ver i off) else .any)/\ag.mR B M (.iI id ver i off)=(if id<B then (.iI id ver i off) else .any)) /\
  (∀id ver i off,ag.shut (.iI id ver i off)=(.iI id ver i off)/\ag.gj (.iI id ver i off)=(.iI id ver i off)/\ag.jG (.iI id ver i off)=false/\ag.cells? (.iI id ver i off)=some [(.iI id ver i off)]/\ag.j9 (.iI id ver i off)=true/\ag.plainCell (.iI id ver i off)=false/\ag.plain (.iI id ver i off)=false/\ag.cells (.iI id ver i off)=[(.iI id ver i off)]/\ag.iz (.iI id ver i off)=[id]/\ag.oZ (.iI id ver i off)=[id]/\ag.ids (.iI id ver i off)=[id]) /\
  (∀M id ver i off,ag.pG M (.iI id ver i off)=(.iI id ver i off)/\ag.sZ M (.iI id ver i off)=(.iI id ver i off)):=by
 repeat' (first|rfl|intro _|apply And.intro)
def TG4:(∀B M f fs,ag.jD B M (.rP f fs)=(.rP f fs)/\ag.kG B M (.rP f fs)=(.rP f fs)/\ag.jL B M (.rP f fs)=(.rP f fs)/\ag.lN B M (.rP f fs)=(.rP f fs)/\ag.j8 B M (.rP f fs)=(.rP f fs)/\ag.kC B M (.rP f fs)=(.rP f fs)/\ag.mR B M (.rP f fs)=(.rP f fs)) /\
  (∀f fs,ag.shut (.rP f fs)=(.rP f fs)/\ag.gj (.rP f fs)=(.rP f fs)/\ag.jG (.rP f fs)=false/\ag.cells? (.rP f fs)=some [(.rP f fs)]/\ag.j9 (.rP f fs)=true/\ag.plainCell (.rP f fs)=false/\ag.plain (.rP f fs)=false/\ag.cells (.rP f fs)=[(.rP f fs)]/\ag.iz (.rP f fs)=[]/\ag.oZ (.rP f fs)=[]/\ag.ids (.rP f fs)=[]) /\
  (∀M f fs,ag.pG M (.rP f fs)=(.rP f fs)/\ag.sZ M (.rP f fs)=(.rP f fs)) /\
  (∀B M t id off,ag.jD B M (.jX t id off)=(if id<B then (.jX t id off) else .any)/\ag.kG B M (.jX t id off)=(if id<B then (.jX t id off) else .any)/\ag.jL B M (.jX t id off)=(if id<B then (.jX t id off) else .any)/\ag.lN B M (.jX t id off)=(if id<B then (.jX t id off) else .any)/\ag.j8 B M (.jX t id off)=(if id<B then (.jX t id off) else .any)/\ag.kC B M (.jX t id off)=(if id<B then (.jX t id off) else .any)/\ag.mR B M (.jX t id off)=(if id<B then (.jX t id off) else .any)) /\
  (∀t id off,ag.shut (.jX t id off)=(.jX t id off)/\ag.gj (.jX t id off)=(.jX t id off)/\ag.jG (.jX t id off)=false/\ag.cells? (.jX t id off)=some [(.jX t id off)]/\ag.j9 (.jX t id off)=true/\ag.plainCell (.jX t id off)=false/\ag.plain (.jX t id off)=false/\ag.cells (.jX t id off)=[(.jX t id off)]/\ag.iz (.jX t id off)=[id]/\ag.oZ (.jX t id off)=[id]/\ag.ids (.jX t id off)=[id]) /\
  (∀M t id off,ag.pG M (.jX t id off)=(.jX t id off)/\ag.sZ M (.jX t id off)=(.jX t id off)) /\
  (∀B M v,ag.jD B M (.oU v)=(.oU v)/\ag.kG B M (.oU v)=(.oU v)/\ag.jL B M (.oU v)=(.oU v)/\ag.lN B M (.oU v)=(.oU v)/\ag.j8 B M (.oU v)=(.oU v)/\ag.kC B M (.oU v)=(.oU v)/\ag.mR B M (.oU v)=(.oU v)) /\
  (∀v,ag.shut (.oU v)=(.oU v)/\ag.gj (.oU v)=(.oU v)/\ag.jG (.oU v)=true/\ag.plainCell (.oU v)=false/\ag.plain (.oU v)=false/\ag.cells (.oU v)=[(.oU v)]/\ag.iz (.oU v)=[]/\ag.oZ (.oU v)=[]/\ag.ids (.oU v)=[]):=by
 repeat' (first|rfl|intro _|apply And.intro)
def TG5:(∀M v,ag.pG M (.oU v)=(.oU v)/\ag.sZ M (.oU v)=(.oU v)) /\
  (∀B M v,ag.jD B M (.raw v)=(.raw v)/\ag.kG B M (.raw v)=(.raw v)/\ag.jL B M (.raw v)=(.raw v)/\ag.lN B M (.raw v)=(.raw v)/\ag.j8 B M (.raw v)=(.raw v)/\ag.kC B M (.raw v)=(.raw v)/\ag.mR B M (.raw v)=(.raw v)) /\
  (∀v,ag.shut (.raw v)=(.raw v)/\ag.gj (.raw v)=(.raw v)/\ag.jG (.raw v)=false/\ag.cells (.raw v)=[(.raw v)]/\ag.iz (.raw v)=[]/\ag.oZ (.raw v)=[]/\ag.ids (.raw v)=[]) /\
  (∀M v,ag.pG M (.raw v)=(.raw v)/\ag.sZ M (.raw v)=(.raw v)) /\
  (∀B M,ag.jD B M .any = .any/\ag.kG B M .any = .any/\ag.jL B M .any = .any/\ag.lN B M .any = .any/\ag.j8 B M .any = .any/\ag.kC B M .any = .any/\ag.mR B M .any = .any) /\
  (ag.shut .any = .any/\ag.gj .any = .any/\ag.jG .any=false/\ag.plainCell .any=false/\ag.plain .any=false/\ag.cells .any=[.any]/\ag.iz .any=[]/\ag.oZ .any=[]/\ag.ids .any=[]) /\
  (∀M,ag.pG M .any = .any/\ag.sZ M .any = .any) /\
  (∀B M xs,ag.jD B M (ka xs)=(ka xs)/\ag.kG B M (ka xs)=(ka xs)/\ag.jL B M (ka xs)=(ka xs)/\ag.lN B M (ka xs)=(ka xs)/\ag.j8 B M (ka xs) = ka xs/\ag.kC B M (ka xs) = ka xs/\ag.mR B M (ka xs) = ka xs):=by
 repeat' (first|rfl|intro _|apply And.intro)
def TG6:(∀xs,ag.shut (ka xs) = ka xs/\ag.gj (ka xs) = ka xs/\ag.jG (ka xs)=false/\ag.cells? (ka xs)=some [(ka xs)]/\ag.j9 (ka xs)=true/\ag.plainCell (ka xs)=true/\ag.plain (ka xs)=true/\ag.cells (ka xs)=[(ka xs)]/\ag.iz (ka xs)=[]/\ag.oZ (ka xs)=[]/\ag.ids (ka xs)=[]) /\
  (∀M xs,ag.pG M (ka xs)=(ka xs)/\ag.sZ M (ka xs)=(ka xs)) /\
  (∀B M xs,ag.jD B M (.slice .c0 xs)=(.slice .c0 xs)/\ag.kG B M (.slice .c0 xs)=(.slice .c0 xs)/\ag.jL B M (.slice .c0 xs)=(.slice .c0 xs)/\ag.lN B M (.slice .c0 xs)=(.slice .c0 xs)/\ag.j8 B M (.slice .c0 xs) = ka xs/\ag.kC B M (.slice .c0 xs) = ka xs/\ag.mR B M (.slice .c0 xs) = ka xs) /\
  (∀xs,ag.shut (.slice .c0 xs) = ka xs/\ag.gj (.slice .c0 xs) = ka xs/\ag.jG (.slice .c0 xs)=false/\ag.cells? (.slice .c0 xs)=some [(.slice .c0 xs)]/\ag.j9 (.slice .c0 xs)=true/\ag.plainCell (.slice .c0 xs)=false/\ag.plain (.slice .c0 xs)=false/\ag.cells (.slice .c0 xs)=[(.slice .c0 xs)]/\ag.iz (.slice .c0 xs)=[]/\ag.oZ (.slice .c0 xs)=[]/\ag.ids (.slice .c0 xs)=[]) /\
  (∀M xs,ag.pG M (.slice .c0 xs)=(.slice .c0 xs)/\ag.sZ M (.slice .c0 xs)=(.slice .c0 xs)) /\
  (∀B M k xs,ag.jD B M (.slice (.own k) xs)=(if k<B then (.slice (.own k) xs) else ka xs)/\ag.kG B M (.slice (.own k) xs)=(if k<B then (.slice (.own k) xs) else ka xs)/\ag.jL B M (.slice (.own k) xs)=(if k<B then (.slice (.own k) xs) else ka xs)/\ag.lN B M (.slice (.own k) xs)=(if k<B then (.slice (.own k) xs) else ka xs)/\ag.j8 B M (.slice (.own k) xs) = ka xs/\ag.kC B M (.slice (.own k) xs) = ka xs/\ag.mR B M (.slice (.own k) xs) = ka xs) /\
  (∀k xs,ag.shut (.slice (.own k) xs) = ka xs/\ag.gj (.slice (.own k) xs) = ka xs/\ag.jG (.slice (.own k) xs)=false/\ag.cells? (.slice (.own k) xs)=some [(.slice (.own k) xs)]/\ag.j9 (.slice (.own k) xs)=true/\ag.plainCell (.slice (.own k) xs)=false/\ag.plain (.slice (.own k) xs)=false/\ag.cells (.slice (.own k) xs)=[(.slice (.own k) xs)]/\ag.iz (.slice (.own k) xs)=[k]/\ag.oZ (.slice (.own k) xs)=[k]/\ag.ids (.slice (.own k) xs)=[k]) /\
  (∀M k xs,ag.pG M (.slice (.own k) xs)=(.slice (.own k) xs)/\ag.sZ M (.slice (.own k) xs)=(.slice (.own k) xs)):=by
 repeat' (first|rfl|intro _|apply And.intro)
def TG7:(∀B M cs,ag.jD B M (.agg cs) = .any/\ag.kG B M (.agg cs) = .any/\ag.jL B M (.agg cs) = .agg (cs.map (ag.kG B M))/\ag.lN B M (.agg cs) = .agg (cs.map (ag.kG B M))/\ag.j8 B M (.agg cs) = .any/\ag.kC B M (.agg cs) = .agg (cs.map (ag.j8 B M))/\ag.mR B M (.agg cs) = .agg (cs.map (ag.j8 B M))) /\
  (∀cs,ag.shut (.agg cs)=(.agg cs)/\ag.gj (.agg cs) = .agg (cs.map ag.shut)/\ag.jG (.agg cs)=false/\ag.cells? (.agg cs)=some cs/\ag.j9 (.agg cs)=false/\ag.plainCell (.agg cs)=false/\ag.plain (.agg cs)=cs.all ag.plainCell/\ag.cells (.agg cs)=cs/\ag.iz (.agg cs)=[]/\ag.oZ (.agg cs)=[]/\ag.ids (.agg cs)=cs.flatMap ag.oZ) /\
  (∀M cs,ag.pG M (.agg cs)=(.agg cs)/\ag.sZ M (.agg cs) = .agg (cs.map (ag.pG M))) /\
  (∀B M cs,ag.jD B M (.tuple cs) = .any/\ag.kG B M (.tuple cs) = .any/\ag.jL B M (.tuple cs) = .any/\ag.lN B M (.tuple cs) = .tuple (cs.map (ag.jL B M))/\ag.j8 B M (.tuple cs) = .any/\ag.kC B M (.tuple cs) = .any/\ag.mR B M (.tuple cs) = .tuple (cs.map (ag.kC B M))) /\
  (∀cs,ag.shut (.tuple cs)=(.tuple cs)/\ag.gj (.tuple cs)=(.tuple cs)/\ag.jG (.tuple cs)=false/\ag.plainCell (.tuple cs)=false/\ag.plain (.tuple cs)=false/\ag.cells (.tuple cs)=[(.tuple cs)]/\ag.iz (.tuple cs)=[]/\ag.oZ (.tuple cs)=[]/\ag.ids (.tuple cs)=[]) /\
  (∀M cs,ag.pG M (.tuple cs)=(.tuple cs)/\ag.sZ M (.tuple cs)=(.tuple cs)):=by
 repeat' (first|rfl|intro _|apply And.intro)
def bW{C:eO}{fn:List sm}{bZ:Nat}{k:List K}{t:Bool}{x y:cD}{bq:Env}{M:aO}{r:Option (ag×aO)}
  (h1:t=true->fP C fn bZ k x bq M=r) (h2:t=false->fP C fn bZ k y bq M=r):dH C fn bZ k (.bool t) x y bq M=r:=by
 cases t
 ·exact h2 rfl
 ·exact h1 rfl
def c8{C:eO}{fn:List sm}{bZ:Nat}{k:List K}{live:List Nat}{t w:Bool}{o:cX}{l:List cX}{bq:Env}{M:aO}{r:Option (ag×aO)}
  (h1:t=w->kM C fn bZ k live o.lets o.dst l bq (pW C o bq M)=r) (h2:t = !w->fm C fn bZ k live l (rK bq o.dst (.tuple [])) M=r):gK C fn bZ k live (.bool t) w o l bq M=r:=by
 cases t<;>cases w
 ·exact h1 rfl
 ·exact h2 rfl
 ·exact h2 rfl
 ·exact h1 rfl
def fq{C:eO}{fn:List sm}{bZ:Nat}{k:List K}{live:List Nat}{c:Bool}{d:Option Nat}{l:List cX}{bq:Env}{t:Bool}{x y r:Option (ag×aO)}
  (h1:t=true->kM C fn bZ k live c d l bq x=r) (h2:t=false->kM C fn bZ k live c d l bq y=r):kM C fn bZ k live c d l bq (zk t x y)=r:=by
 cases t
 ·exact h2 rfl
 ·exact h1 rfl
def si{a b:Nat}(h:a<=1000000)(hb:b<=1000):dY a b=True:=by
 have:a*b<=1000000*1000:=Nat.mul_le_mul h hb;simp only[fH,j5];unfold dY;omega
def xt{a b:Nat}(h:a<=1000000:=by omega)(hb:b<=1000:=by omega):dY a b=True:=si h hb
def x7{p:Prop}(h:p:=by omega):p=True:=eq_true h
def GV{p:Prop}(h:¬p:=by omega):p=False:=eq_false h
def X7(x:ag)(n:Nat):wid [x] n=(x.cells.length=n):=by simp[wid]
def X5(a b:List ag)(n:Nat):wid (a++b) n=(wid a n/\wid b n):=by
 simp only[fH];exact⟨fun h=>⟨fun x hx=>h x (fG _ hx),fun x hx=>h x (iu _ hx)⟩,fun h x hx=>(bC.1 hx).elim (h.1 x) (h.2 x)⟩
def X6(n:Nat):wid [] n=True:=by simp[wid]
def Xl(m:Nat):((m:Int)<0)=False:=dk
def gb{n:Int}(h0 : -9223372036854775808<=n)(h1:n<=9223372036854775807):IntKind.i64.wrap n=n:=by rw[IntKind.wrap_i64]; omega
def vT{C:eO}{f:Nat}{vs:List ag}{r:ag}(h:C f vs []=some (r,[]))(h1:vs.all ag.flat=true)(h2:vs.flatMap ag.ids=[])(h3:r.yn=true)
  (h4:vs.map (ag.rn (jb []))=vs) (h5:r.B6 (yf [])=r) (M:aO):aL C f vs M=some (r,M):=by
 have e0:reach M []=[]:=rfl;have e1:mC M []=[]:=rfl;have e2:(vs.map (ag.rn (jb [])))=vs:=h4;unfold aL;rw[av h1,h2,e0];simp only[kV,cq];rw[av e1,e2,h];simp[h3,h5,ny]
def cO{C:eO}{f:Nat}{vs:List ag}{r:ag}(h:C f vs []=some (r,[]))(M:aO)(h1:vs.all ag.flat=true:=by exact rfl)(h2:vs.flatMap ag.ids=[]:=by exact rfl)(h3:r.yn=true:=by exact rfl)(h4:vs.map (ag.rn (jb []))=vs:=by exact rfl)(h5:r.B6 (yf [])=r:=by exact rfl):aL C f vs M=some (r,M):=vT h h1 h2 h3 h4 h5 M
def cP{C:eO}{f:Nat}{vs:List ag}{r:ag}(h:C f vs []=some (r,[]))(h1:vs.all ag.flat=true:=by exact rfl)(h2:vs.flatMap ag.ids=[]:=by exact rfl)(h3:r.yn=true:=by exact rfl)(h4:vs.map (ag.rn (jb []))=vs:=by exact rfl)(h5:r.B6 (yf [])=r:=by exact rfl)(M:aO):aL C f vs M=some (r,M):=vT h h1 h2 h3 h4 h5 M
def oN{C:eO}{f p:Nat}{vs:List ag}{r:ag}{M:aO}{cs cs':List ag}(hM:nth M p=some (.cells cs))(h:C f (.ptr 0 0::vs) [.cells cs]=some (r,[.cells cs']))(h1:vs.all ag.flat=true)(h2:vs.flatMap ag.ids=[])(h3:r.yn=true)
  (h4:vs.map (ag.rn (jb [p]))=vs) (h5:r.B6 (yf [p])=r) (h6:cs.all ag.xc=true) (h7:cs.flatMap ag.oZ=[]) (h8:cs.map (ag.uC (jb [p]))=cs) (h9:cs'.all ag.xc=true) (h10:cs'.map (ag.uC (yf [p]))=cs') :
  aL C f (.ptr p 0::vs) M=some (r,jY M p (.cells cs')):=by
 have hids:(ag.ptr p 0::vs).flatMap ag.ids=[p]:=by simp[ag.ids,ag.oZ,ag.iz,h2]
 have hi:tj M [p]=[]:=by simp[tj,hM,dg.ids,h7]
 have e0:mC M [p]=[p]:=by simp[mC,hi,mB]
 have e1:reach M [p]=[p]:=by
  have ea:mB [] [p]=[p]:=rfl;simp only[reach,ea,e0]
 have hfl:(ag.ptr p 0::vs).all ag.flat=true:=by simp only[ku,h1,fW]; rfl
 unfold aL;rw[av hfl,hids,e1];have hpk:kV M (jb [p]) [p]=some [.cells cs]:=by simp[kV,hM,dg.flat,h6,dg.rn,h8]
 rw[hpk];simp only[cq];rw[av e0]
 have hrn:(ag.ptr p 0::vs).map (ag.rn (jb [p])) = .ptr 0 0::vs:=by
  simp only[a8,h4];simp[ag.rn,ag.uC,ag.uZ,jb]
 rw[hrn,h];simp only[cq];rw[av ⟨rfl,h3,by simp[dg.flat,h9]⟩,h5]
 simp only[ny,dg.rn,h10]
def max_lt(n:Nat)(h:n<=9223372036854775807):(IntKind.i64.max<(n:Int))=False:=by
 have:IntKind.i64.max=9223372036854775807:=rfl;simp only[fH,oM,this]; omega
def EVT:=u8w @Qq @Qp @VW @VX @NR @Qo @Kl @Uh (u8w @OM @ON @TW @Xo @Ot @KO @KM @KQ (u8w @VV @Kt.eq_1 @KN @KR @ahu @ahr @aht @ahs (u8w @ahv @V4 @V3 @ade @Ij @KG @KF @GF (u8w @Ih @Th @Ed @GG @Wn @GI @Ii @Ti (u8w @Ee @GH @vz.eq_1 @wi.eq_1 @adb @a8.{0,0} @bE.{0,0} @cq (u8w @uu @mL @dq @aN @aD.{0} @aF.{0} @ku.{0} @List.all_nil.{0} (u8w @Bool.and_self @List.take_zero.{0} @bw.{0} @oJ.{0} @oG.{0} @List.drop_zero.{0} @List.drop_nil.{0} @List.take_nil.{0} (u8w @cu.{0} @bp.{0} @ak @j4 @not_true_eq_false @mP @Nat.one_ne_zero @Nat.zero_ne_one (u8w @kx @ja @jC.{0,0} @az.{0,0} @bj @bb.{0,0} @cW.{0,0} @K5 (u8w @ec @decide_true @decide_false @BEq.rfl.{0} @iw.{0} @cG @dG @Xl (u8w @X7 @X6 @and_true @true_and @fW @aR.{0} @ge_iff_le.{0} @gt_iff_lt.{0} (u8w @X5 @iv.{0} @true_or @or_true @List.cons_prefix_cons.{0} @List.nil_prefix.{0} @List.cons_ne_nil.{0} @List.flatMap_cons.{0,0} (u8w @List.flatMap_nil.{0,0} @max_lt @TG0 @TG1 @TG2 @TG3 @TG4 @TG5 (cn @TG6 @TG7))))))))))))))
def EVD:=u8w @finish.eq_1 @qb.eq_1 @qb.eq_2 @zY.eq_1 @zY.eq_2 @zY.eq_3 @one.eq_1 @one.eq_2 (u8w @pW.eq_1 @ei.eq_1 @ei.eq_2 @ei.eq_3 @ei.eq_4 @ei.eq_5 @ei.eq_6 @ei.eq_7 (u8w @ei.eq_8 @ei.eq_9 @ei.eq_10 @ei.eq_11 @ei.eq_12 @ei.eq_13 @ei.eq_14 @ei.eq_15 (u8w @ei.eq_16 @ei.eq_17 @ei.eq_18 @ei.eq_19 @ei.eq_20 @ei.eq_21 @ei.eq_22 @ei.eq_23 (u8w @ei.eq_24 @ei.eq_25 @ei.eq_26 @ei.eq_27 @ei.eq_28 @ei.eq_29 @ei.eq_30 @ei.eq_31 (u8w @ei.eq_32 @ei.eq_33 @ei.eq_34 @ei.eq_35 @ei.eq_36 @ei.eq_37 @ei.eq_38 @ei.eq_39 (u8w @ei.eq_40 @ei.eq_41 @ei.eq_42 @ei.eq_43 @ei.eq_44 @ei.eq_45 @ei.eq_46 @ei.eq_47 (u8w @ei.eq_48 @ei.eq_49 @ei.eq_50 @ei.eq_51 @ei.eq_52 @ei.eq_53 @ei.eq_54 @ei.eq_55 (u8w @ei.eq_56 @ei.eq_57 @ei.eq_58 @km.eq_1 @km.eq_2 @gw.ev.eq_1 @gw.ev.eq_2 @gW.eq_1 (u8w @gW.eq_2 @rK.eq_1 @rK.eq_2 @jt.eq_1 @nth.eq_1 @nth.eq_2 @nth.eq_3 @jY.eq_1 (u8w @jY.eq_2 @jY.eq_3 @qR.eq_1 @qR.eq_2 @qR.eq_3 @qR.eq_4 @qR.eq_5 @qR.eq_6 (u8w @qR.eq_7 @qR.eq_8 @qR.eq_9 @qR.eq_10 @qR.eq_11 @qR.eq_12 @qR.eq_13 @qR.eq_14 (u8w @qR.eq_15 @qR.eq_16 @qR.eq_17 @qR.eq_18 @qR.eq_19 @qR.eq_20 @qR.eq_21 @qR.eq_22 (u8w @qR.eq_23 @qR.eq_24 @qR.eq_25 @mq.eq_1 @wD.eq_1 @j6.eq_1 @dg.back.eq_1 @dg.back.eq_2 (u8w @dg.back.eq_3 @dg.back.eq_4 @dg.back.eq_5 @tc.eq_1 @tc.eq_2 @za.eq_1 @za.eq_2 @lO.eq_1 (u8w @lO.eq_2 @kb.eo.eq_1 @kb.eo.eq_2 @kb.eo.eq_3 @ir.eq_1 @ir.eq_2 @ob.eq_1 @og.eq_1 (cn @ox.eq_1 (cn @bytesOf.eq_1 (cn @valOf.eq_1 @valOf.eq_2))))))))))))))))))
def vK:=u8w @fW @b9 @di @cp @dz @dL @fE @dE (cn @cG (cn @dG (cn @Bool.and_self (cn @dK (cn @af @iw.{0})))))
def EV:=And.intro @ne_eq.{1} (And.intro EVT EVD)
end Go.Abs
