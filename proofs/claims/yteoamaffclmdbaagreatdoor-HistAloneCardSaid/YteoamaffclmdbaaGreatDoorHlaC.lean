import Derived.Lib.AppendZerosOnto
import Derived.RangeFuncCalls
import Derived.OrdersIn
import Derived.LoopNIn
import Derived.Shelf.SlSortCmp.NoneTotal
import Derived.Shelf.SlicesG.Cmp
import Derived.Shelf.Strings.OnBuilder
import Derived.Shelf.Small.Strs
import Derived.Test.YteoamaffclmdbaaGreatDoorHlaB
set_option linter.all false
open Go.Proofs.Tryz
namespace Go.Abs
open Go Go.RowKit
variable [kx]
section
variable {P:Program} {C:eL} {o:Oper} {bp:Env} {M:aC} {j:J} {w:World} {a:Act} {x:ag×aC}
theorem Qf{l:List ag}(hp:0<l.length)(h1:l.all ag.plainCell=true)(n:Nat):kc (List.replicate n (ag.agg l).norm)=(List.replicate n l).flatten/\wid (List.replicate n (ag.agg l).norm) l.length:=by
 refine⟨?_,fun x hx=>by rw[mf hx,ur hp h1]⟩
 induction n with
 |zero=>rfl
 |succ n ih=>rw[jl,oY,ih,jl,List.flatten_cons,ur hp h1]
theorem MQ(hr:Rel j M w){id sz ver:Nat}{xs0 xs ys:List ag}(hM:M[id]?=some (.arr sz ver xs0))(hx0:∀(q:Nat) x,xs[q]?=some x->xs0[q]?=some x)(hle0:xs.length<=xs0.length){b cap:Nat}{row:Array Value}{t:TypeId}(hj:j id=some b)(hw:w.heap[b]?=some (.cells row t (0,0)))(hcap:xs.length<=cap)(hrow:cap*sz<=row.size)
  (hwd:wid xs sz) (hwy:wid ys sz) (hne:ys≠[]) {us:List Value} (hrl:RL w (nM j M w) (kc ys) us) {v:Value} {w':World}
  (hq:(xs.length+ys.length<=cap/\v = .slice (some ⟨b,0,none⟩) (xs.length+ys.length) cap/\w'=pz w b (xs.length*sz) us) \/
   ∃c' row' e,xs.length+ys.length<=c'/\v = .slice (some ⟨w.heap.size,0,none⟩) (xs.length+ys.length) c'/\Quiet w w'/\(∀b,b<w.heap.size->w'.heap[b]?=w.heap[b]?)/\w'.heap[w.heap.size]?=some (.cells row' e (0,0))/\c'*sz<=row'.size /\
    ∀p,p<(xs.length+ys.length)*sz->row'[p]?=(row.toList.take (xs.length*sz)++us)[p]?) :
  iV j M w (.cE id (ver+1) sz 0 (xs.length+ys.length),M.set id (.arr sz (ver+1) (xs++ys))) v w':=by
 obtain⟨b',row0,t',k1,k2,k3,k4,k5⟩:=hr.w9 hM hj;rw[hj] at k1; cases k1;rw[hw] at k2; injection k2 with k2; injection k2 with k2 k2'
 subst k2; subst k2';have hrow0:=xZ (b:=b) (aY (bd _ hle0) k3) hwd fun q x k c h=>k5 q x k c (hx0 q x h)
 have hid:=aN hM;have hwd2:=nD hwd hwy
 have jq:RL w (nM j M w) (kc (xs++ys)) (row.toList.take (xs.length*sz)++us):=by
  rw[oX]; exact hrow0.append hrl
 have dN:(xs++ys).length=xs.length+ys.length:=dw;have hpl:(row.toList.take (xs.length*sz)++us).length=(xs.length+ys.length)*sz:=by rw[<-jq.1,iT hwd2,dN]
 have hul:us.length=ys.length*sz:=by rw[<-hrl.1,iT hwy]
 have hpos:0<ys.length:=gP.2 hne;rcases hq with ⟨h1,rfl,rfl⟩|⟨c',row',e,h1,rfl,q,hb,hn,hs,hp⟩
 ·have hfit:xs.length*sz+us.length<=row.size:=by
   rw[hul,<-bP]; exact aY (bd _ h1) hrow
  obtain⟨s1,s2,s3,s4,s5,row2,s6,s7,s8,s9⟩:=mu (t:=t) us w (xs.length*sz) row hw hfit
  have hput:=xY (ver':=ver+1) (xs':=xs++ys) hr hM hj ⟨aH,s2,s3,s4⟩ (fun b' hb' _=>s5 b' hb') hw s6 s7 aH (fun h=>aH) hwd2 jq (fun p hp=>by
   rw[hpl] at hp
   grind)
  refine⟨j,hput.1,hput.2,.cE (.inl ⟨b,0,cap,by rw[bO],aH⟩) (by simpa using hid) (fun bx hbx=>by rw[ei hid] at hbx; cases hbx; rfl) fun sz' v' zs hx=>?_⟩
  rw[ei hid] at hx; injection hx with hx; injection hx with e1 e2 e3
  subst e1; simp_all
 ·have hat  := fun p h=>hp p (by rw[<-hpl]; exact h)
  have hrel:=Rel.vg (ver':=ver+1) (xs':=xs++ys) hM hr q hb (av _) (lt_of_block hn) dw (fun j' M' hx=>mF hn hwd2 (jq.mono hx.iv) hat)
  have hext:=Ext.vg (j:=j) (ver':=ver+1) (xs':=xs++ys) hM q hb (av _) dw;refine⟨_,hrel,hext,.cE (.inl ⟨w.heap.size,0,c',by rw[bO],aH⟩) (by simpa using hid) (fun bx hbx=>by rw[ei hid] at hbx; cases hbx; rfl) fun sz' v' zs hx=>?_⟩
  rw[ei hid] at hx; injection hx with hx; injection hx with e1 e2 e3
  subst e1; subst e2; subst e3;exact⟨av _,fun _=>⟨rfl,cI _,aH,.inr ⟨w.heap.size,c',row',e,by simp[gH],dw,aH,hn,by rw[aI]; exact hs⟩⟩⟩
theorem Mm(hr:Rel j M w)(he:cq j M w bp a){c:Call}{y y':Operand}{z z':fY}{t t' e:TypeId}{kn:IntKind}{i:TypeInfo}{zv:Value}{l:List ag}(hop:o.op = .call c)(hb:c.callee = .builtin .append)(ha:c.args.toList=[y,y'])
  (hat:c.argTypes.toList=[t,t']) (hs:P.underlying t=some (.slice e)) (hs':P.underlying t'=some (.int kn)) (hi:P.info? e=some i) (hzv:i.zero=some zv) (hl:tu zv.cells.toList=some l) (c1:l.length=i.size) (c2:0<i.size) (c3:0<i.bytes) (c4:i.bytes<=2 ^ 20)
  (hz:eV y=some z) (hz':eV y'=some z') (h:eo C bp M (.xX i.size i.bytes (l.map ag.shut) z z')=some x):∃v w',rj P o a w v w'/\iV j M w x v w':=by
 simp only[eo] at h;have r1:=cZ he hz;have r2:=cZ he hz';have ha':c.args = #[y,y']:=by rw[<-ha]
 have hat':c.argTypes = #[t,t']:=by rw[<-hat]
 have hexec:∀r,(Builtin.append_ #[t,t'] o.type #[a.eval y,a.eval y']).run P w=r->(execOp a.eval o).run P w=r.andThen fun v w' => .ok (.value v) w':=by
  intro r hr';simp[execOp,hop,resolve,hb,invoke,builtin,ha',hat',hr']
 have hsz:(sizeOf e).run P w = .ok i.size w:=js (by simp[qG,hi])
 obtain⟨z1,z2⟩:=qH (j:=j) (M:=M) (w:=w) hl;have hzs:zv.cells.size=i.size:=by simp at z1; omega
 have happ:∀(A:Option Addr)(n c:Nat)(kz:IntKind)(m:Nat),(Builtin.append_ #[t,t'] o.type #[.slice A n c,.int kz (m:Int)]).run P w=(Builtin.append_ #[t,t'] o.type #[.slice A n c,.int kn (m:Int)]).run P w:=fun A n c kz m=>by
  simp[Builtin.append_,eb hs,eb hs',asInt,asIntOf]
 -- what is appended
 have zrow:∀(k:Nat),(l.map ag.shut).all ag.plainCell=true->RL w (nM j M w) (kc (List.replicate k (ag.agg (l.map ag.shut)).norm)) (Builtin.zeroCells zv.cells k).toList/\wid (List.replicate k (ag.agg (l.map ag.shut)).norm) i.size/\∀v,v∈(Builtin.zeroCells zv.cells k).toList->v.oneCell'=true:=by
  grind [Di,Qf,ag.shut,List.length_map,rP,Rr,List.mem_flatten]
 -- nothing is appended
 have nil:∀(bS:Option Addr)(n cap:Nat),n<=cap->(Builtin.append_ #[t,t'] o.type #[.slice bS n cap,.int kn 0]).run P w = .ok (.slice bS n cap) w:=by
  intro bS n cap hle;have hw0:IntKind.i64.wrap 0=0:=mw;cases bS<;>simp[Builtin.append_,eb hs,eb hs',hsz,asInt,asIntOf,hw0,typeInfo,hi,hle,storeCells]
 have grow:∀(bS:Option Addr)(n cap:Nat)(olds:List Value)(k:Nat),(∀w':World,w'.heap=w.heap->(Builtin.firstCells i.size n (.slice bS n cap)).run P w' = .ok olds.toArray w')->0<k->cap<n+k->(n+k)*i.bytes<=2 ^ 44 ->
   ∃newCap row' w',n+k<=newCap/\(Builtin.append_ #[t,t'] o.type #[.slice bS n cap,.int kn k]).run P w = .ok (.slice (some ⟨w.heap.size,0,none⟩) (n+k) newCap) w'/\Quiet w w'/\(∀b,b<w.heap.size->w'.heap[b]?=w.heap[b]?)/\w'.heap[w.heap.size]?=some (.cells row' e (0,0)) /\
    row'.size=olds.length+k*i.size+(newCap-(n+k))*i.size/\∀p,p<olds.length+k*i.size->row'[p]?=(olds++(Builtin.zeroCells zv.cells k).toList)[p]?:=by
  intro bS n cap olds k hold hk cQ hroom
  have hcapb:Builtin.nextslicecap (n+k) cap*i.bytes<=281474976710656:=by
   have h1:=Er cQ;have h2:Builtin.nextslicecap (n+k) cap*i.bytes<=(2*(n+k)+1000)*i.bytes:=bd _ h1
   grind
  have h44:n+k<=2 ^ 44:=aY (fL _ c3) hroom
  have hkb:k*i.bytes<=281474976710656:=by
   have:=bd i.bytes (show k<=n+k by omega)
   omega
  have hrun:=Lib.run_append_grow_zeros (P:=P) w t t' o.type e i zv kn kn hs hs' hi hzv bS n cap olds (hold w.drew rfl) k hk c2 cQ aH hkb hcapb;have hge:n+k<=grownCap w (n+k) cap e:=grownCap_ge w (n+k) cap e;have hzl:∀m,(Builtin.zeroCells zv.cells m).size=m*i.size:=fun m=>by simp[Builtin.zeroCells,hzs]
  obtain⟨q,hbk,jq⟩:=pj (w:=w) (.cells (olds.toArray++Builtin.zeroCells zv.cells k++Builtin.zeroCells zv.cells (grownCap w (n+k) cap e-(n+k))) e (0,0));refine⟨_,_,_,hge,hrun,⟨q.size,rfl,rfl,rfl⟩,hbk,jq,by simp only[fZ,hzl,db],fun p hp=>?_⟩
  rw[cd (by simp only[fZ,hzl,db]; exact hp)]
  simp[<-Array.getElem?_toList]
 have hkk:∀ {k:Int} {kz:IntKind},a.eval y' = .int kz k->0<=k->∃m:Nat,k=m:=fun {k} _ _ h=>⟨k.toNat,aH⟩
 split at h
 ·rename_i kz k ex ek;rw[ex] at r1; rw[ek] at r2;obtain⟨⟨h0,hroom,hsl,hpl⟩,h⟩:=dq h;obtain⟨A,hv⟩:=r1.Dv;obtain⟨m,rfl⟩:∃m:Nat,k=m:=⟨k.toNat,aH⟩;have hk2:=r2.fW;rcases lI h with ⟨hb0,h⟩|⟨hb0,h⟩
  ·cases h;have hm0:m=0:=by simpa using hb0
   subst hm0;refine⟨a.eval y,w,.inl ?_,.still hr ?_⟩
   ·rw[hexec _ rfl,hv,hk2,happ,Int.natCast_zero,nil A 0 0 (av _)]; rfl
   ·rw[hv]; exact .c0 _
  ·cases h
   have hm0:0<m:=by
    rcases gY m with h|h
    ·subst h; simp at hb0
    ·exact h
   unfold cB at hroom;simp only[eN] at hroom ⊢;obtain⟨newCap,row',w',g1,g2,q,g3,g4,g5,g6⟩:=grow A 0 0 [] m (fun w' _=>by cases A<;>simp[Builtin.firstCells,loadCells,loadCellsFrom]) hm0 aH (by simpa using hroom)
   obtain⟨p1,p2,p3⟩:=zrow m hpl;have hob:∀b,some w.heap.size=some b->w.heap.size<=b/\b<w'.heap.size:=fun b h=>by cases h; exact⟨av _,lt_of_block g4⟩
   have ext:Ext j M w (gH j M.length (some w.heap.size)) (M++[.arr i.size 0 (List.replicate m (ag.agg (l.map ag.shut)).norm)]) w':=Ext.push (fun b h=>(hob b h).1) q g3
   have hat:∀j' M',Ext j M w j' M' w'->Fu j' M' w' w.heap.size i.size (List.replicate m (ag.agg (l.map ag.shut)).norm):=fun j' M' hx=>mF g4 p2 (p1.mono hx.iv) fun p hp=>by
    have hp':p<m*i.size:=by rw[<-p1.1,iT p2] at hp; simpa using hp
    rw[g6 p (by simpa using hp')]; simp
   refine⟨.slice (some ⟨w.heap.size,0,none⟩) m newCap,w',.inl ?_,gH j M.length (some w.heap.size),hr.push hob q g3 (fun h=>by cases h) (fun sz n b h _=>by cases h) (fun sz0 v0 xs0 he=>?_),ext,?_⟩
   ·rw[hexec _ rfl,hv,hk2,happ,g2]; simp[Result.andThen]
   ·injection he with e1 e2 e3
    subst e1; subst e2; subst e3;refine .inr ⟨w.heap.size,row',e,rfl,g4,by rw[g5]; simp,p2,fun j' M' hx q x k c hx' hk=>?_⟩
    obtain⟨vs,t,a1,a2,a3,a4⟩:=hat j' M' hx;rw[g4] at a1; injection a1 with a1; injection a1 with a1 a1'
    subst a1;exact a4 q x k c hx' hk
   ·refine .cE (.inl ⟨w.heap.size,0,newCap,by rw[bO],aH⟩) dw (fun bx hbx=>by rw[kh] at hbx; cases hbx; rfl) fun sz' v' xs hx=>?_
    rw[kh] at hx; injection hx with hx; injection hx with e1 e2 e3
    subst e1; subst e2; subst e3;refine⟨av _,fun _=>⟨rfl,cI _,dw,.inr ⟨w.heap.size,newCap,row',e,by simp[gH],dw,aH,g4,?_⟩⟩⟩
    rw[g5,aI];simp only[az,aI];rw[<-bP,dx aH];exact av _
 ·rename_i id ver sz' lo hi0 kz k ex ek;rw[ex] at r1; rw[ek] at r2;rw[fe] at h;split at h
  ·rename_i sz0 v0 xs hM;obtain⟨⟨d1,d2,d3,d4,h0,hroom,hsl,hpl,hne0⟩,h⟩:=dq h;subst d1; subst d2; subst d3; subst d4;obtain⟨_,hid,_,g⟩:=r1.nh;obtain⟨e1,_,_,⟨hx,_⟩|⟨b,cap,row,t0,l3,l4,l5,l6,l7⟩⟩:=(g sz0 v0 xs hM).2 rfl
   ·exact absurd hne0 (by rw[hx]; simp)
   subst e1;rw[bO] at l4 l5;rw[jG] at l4;rw[aI] at l7;obtain⟨m,rfl⟩:∃m:Nat,k=m:=⟨k.toNat,aH⟩;have hk2:=r2.fW;rcases lI h with ⟨hb0,h⟩|⟨hb0,h⟩
   ·cases h;have hm0:m=0:=by simpa using hb0
    subst hm0;refine⟨a.eval y,w,.inl ?_,.still hr r1⟩;rw[hexec _ rfl,hk2,l4,happ,Int.natCast_zero,nil _ _ _ l5]; rfl
   ·cases h
    have hm0:0<m:=by
     rcases gY m with h|h
     ·subst h; simp at hb0
     ·exact h
    unfold cB at hroom;simp only[eN] at hroom ⊢;obtain⟨b',row0,t',k1,k2,k3,k4,k5⟩:=hr.w9 hM l3;rw[l3] at k1; cases k1;rw[l6] at k2; injection k2 with k2; injection k2 with k2 k2'
    subst k2; subst k2';obtain⟨p1,p2,p3⟩:=zrow m hpl;have hlr:(List.replicate m (ag.agg (l.map ag.shut)).norm).length=m:=dw;have hne:List.replicate m (ag.agg (l.map ag.shut)).norm≠[]:=by intro h; rw[h] at hlr; simp at hlr; omega
    have key:=fun v w' hq=>MQ (v:=v) (w':=w') hr hM (fun _ _ h=>h) (av _) l3 l6 l5 l7 k4 p2 hne p1 hq
    rw[hlr] at key;rw[fH];rcases bA cap (xs.length+m) with cQ|hge
    ·have hfc:∀w':World,w'.heap=w.heap->(Builtin.firstCells i.size xs.length (.slice (some ⟨b,0,none⟩) xs.length cap)).run P w' = .ok (row.toList.take (xs.length*i.size)).toArray w':=fun w' hw'=>by
      have:=pc (P:=P) (w:=w') b 0 (xs.length*i.size) (fun p=>(row[p]?).getD undef) fun p hp=>by
       simp only[World.cell?,hw',l6,aI];rw[bg (show p<row.size by omega)]; rfl
      simp only[Builtin.firstCells];rw[this];congr 2;apply ct;intro p;rw[aX,fz];rcases bA p (xs.length*i.size) with h|h
      ·rw[jk h,aZ h];simp[bg (show p<row.size by omega)]
      ·rw[aQ aH,fj (by simpa using h)]; rfl
     obtain⟨newCap,row',w',g1,g2,q,g3,g4,g5,g6⟩:=grow (some ⟨b,0,none⟩) xs.length cap _ m hfc hm0 cQ hroom;have htk:(row.toList.take (xs.length*i.size)).length=xs.length*i.size:=gr;refine⟨_,w',.inl ?_,key _ w' (.inr ⟨newCap,row',e,g1,rfl,q,g3,g4,?_,fun p hp=>g6 p (by rw[htk,<-bP]; exact hp)⟩)⟩
     ·rw[hexec _ rfl,hk2,l4,happ,g2]; rfl
     ·rw[g5,htk,<-bP,<-bP,dx g1];exact av _
    ·have hfit:xs.length*i.size+(Builtin.zeroCells zv.cells m).toList.length<=row.size:=by
      rw[<-p1.1,iT p2,hlr,<-bP]; exact aY (bd _ hge) l7
     have hst:=nC (P:=P) (Builtin.zeroCells zv.cells m).toList w (xs.length*i.size) 0 row l6 aH p3;refine⟨_,_,.inl ?_,key _ _ (.inl ⟨hge,rfl,rfl⟩)⟩
     have hwm:IntKind.i64.wrap (m:Int)=m:=by
      have:m*i.bytes<=2 ^ 44:=aY (bd _ aH) hroom;have:m<=2 ^ 44:=aY (fL _ c3) this;rw[IntKind.wrap_i64]; omega
     have hneg:¬((m:Int)<0):=aH;have hns:¬(m*i.size=0):=Nat.mul_ne_zero aH aH
     have h48:¬(281474976710656<(m:Int)*(i.bytes:Int)):=by
      have:m*i.bytes<=2 ^ 44:=aY (bd _ aH) hroom;rw[<-Int.natCast_mul]; omega
     rw[hexec _ rfl,hk2,l4,happ];have hadd:(⟨b,0,none⟩:Addr).add (xs.length*i.size)=⟨b,xs.length*i.size,none⟩:=by simp[lV]
     simp only[dj] at hst
     have hap:(Builtin.append_ #[t,t'] o.type #[.slice (some ⟨b,0,none⟩) xs.length cap,.int kn (m:Int)]).run P w = .ok (.slice (some ⟨b,0,none⟩) (xs.length+m) cap) (pz w b (xs.length*i.size) (Builtin.zeroCells zv.cells m).toList):=by
      simp[Builtin.append_,eb hs,eb hs',hsz,asInt,asIntOf,hwm,typeInfo,hi,hneg,h48,hns,zeroValue,hzv,hge,hadd,hst]
     rw[hap]; rfl
  ·cases h
 ·cases h
def RH(hr:Rel j M w){id sz ver:Nat}{ys:List ag}(hM:M[id]?=some (.arr sz ver []))(hwy:wid ys sz){us:List Value}(hrl:RL w (nM j M w) (kc ys) us){v:Value}{w':World}{c':Nat}{row':Array Value}{e:TypeId}
  (h1:ys.length<=c') (hv:v = .slice (some ⟨w.heap.size,0,none⟩) ys.length c') (q:Quiet w w') (hb:∀b,b<w.heap.size->w'.heap[b]?=w.heap[b]?) (hn:w'.heap[w.heap.size]?=some (.cells row' e (0,0))) (hs:c'*sz<=row'.size) (hp:∀p,p<us.length->row'[p]?=us[p]?) :
  iV j M w (.cE id (ver+1) sz 0 ys.length,M.set id (.arr sz (ver+1) ys)) v w':=by
 subst hv;have hid:=aN hM;have hrel:=Rel.vg (ver':=ver+1) hM hr q hb (av _) (lt_of_block hn) dw (fun j' M' hx=>mF hn hwy (hrl.mono hx.iv) hp)
 have hext:=Ext.vg (j:=j) (ver':=ver+1) (xs':=ys) hM q hb (av _) dw;refine⟨_,hrel,hext,.cE (.inl ⟨w.heap.size,0,c',by rw[bO],aH⟩) (by simpa using hid) (fun bx hbx=>by rw[ei hid] at hbx; cases hbx; rfl) fun sz' v' zs hx=>?_⟩
 rw[ei hid] at hx; injection hx with hx; injection hx with e1 e2 e3
 subst e1; subst e2; subst e3;exact⟨av _,fun _=>⟨rfl,cI _,av _,.inr ⟨w.heap.size,c',row',e,by simp[gH],dw,aH,hn,by rw[aI]; omega⟩⟩⟩
theorem Iv(hr:Rel j M w){t t' e e':TypeId}{i:TypeInfo}{zv:Value}{y y':Operand}(hexec:∀r,(Builtin.append_ #[t,t'] o.type #[a.eval y,a.eval y']).run P w=r->(execOp a.eval o).run P w=r.andThen fun v w' => .ok (.value v) w')
  (hs:P.underlying t=some (.slice e)) (hs':P.underlying t'=some (.slice e')) (hi:P.info? e=some i) (hz:i.zero=some zv) (hzs:zv.cells.size=i.size) (hb0:0<i.bytes) (hb1:i.bytes<=2 ^ 20)
  {id ver sz' lo hi0 sz0 v0:Nat} {xs ys:List ag} {B:Option Addr} {cap2:Nat} (hM:M[id]?=some (.arr sz0 v0 xs)) (d1:v0=ver) (d2:sz'=i.size) (d3:lo=0) (d4:hi0<=xs.length) (hy:ys=[]) (hv2:a.eval y' = .slice B ys.length cap2)
  (hroom:cB (hi0+ys.length) i.bytes) (r1:gk j M w (.cE id ver sz' lo hi0) (a.eval y)) (h:some (ag.cE id ver i.size lo hi0,M)=some x):∃v w',rj P o a w v w'/\iV j M w x v w':=by
 injection h with h
 subst h; subst d1; subst d2; subst d3; subst hy
 have hfc:∀w':World,w'.heap=w.heap->(Builtin.firstCells i.size 0 (a.eval y')).run P w' = .ok (#[]:Array Value) w':=fun w' _=>by
  rw[hv2]; cases B<;>simp[Builtin.firstCells,loadCells,loadCellsFrom]
 have dN:∀w':World,(Builtin.lenOf (a.eval y')).run P w' = .ok 0 w':=fun w'=>by rw[hv2]; rfl
 refine⟨a.eval y,w,.inl ?_,.still hr r1⟩;obtain⟨_,hid,_,g⟩:=r1.nh;obtain⟨e1,_,_,⟨hx,hj0,A,hvA⟩|⟨b,cap,row,t0,l3,l4,l5,l6,l7⟩⟩:=(g sz0 v0 xs hM).2 rfl
 ·have h00:hi0=0:=by rw[hx] at d4; simpa using d4
  subst h00
  have hA0:∀w':World,w'.heap=w.heap->(Builtin.firstCells i.size 0 (.slice A 0 0)).run P w' = .ok #[] w':=fun w' _=>by
   cases A<;>simp[Builtin.firstCells,loadCells,loadCellsFrom]
  obtain⟨A1,_⟩:=qO (P:=P) (w:=w) hs hs' (fun k h=>by cases h) hi hz hb0 hb1 o.type (bS:=A) (n:=0) (cap:=0) (m:=0) dN hA0 hfc dw
  have h3:=A1 (av _) w (by cases A<;>simp[storeCells])
  rw[<-hvA] at h3;rw[hexec _ h3,hvA]; rfl
 ·subst e1;rw[bO] at l4 l5;rw[jG] at l4;rw[aI] at l7;have hcs:hi0*i.size<=row.size:=aY (bd _ l5) l7;obtain⟨b',row0,t',k1,k2,k3,k4,k5⟩:=hr.w9 hM l3;rw[l3] at k1; cases k1;rw[l6] at k2; injection k2 with k2; injection k2 with k2 k2'
  subst k2; subst k2'
  have hfx:∀w':World,w'.heap=w.heap->(Builtin.firstCells i.size hi0 (.slice (some ⟨b,0,none⟩) hi0 cap)).run P w' = .ok (row.toList.take (hi0*i.size)).toArray w':=fun w' hw'=>by
   have:=pc (P:=P) (w:=w') b 0 (hi0*i.size) (fun p=>(row[p]?).getD undef) fun p hp=>by
    simp only[World.cell?,hw',l6,aI];rw[bg (show p<row.size by omega)]; rfl
   simp only[Builtin.firstCells];rw[this];congr 2;apply ct;intro p;rw[aX,fz]
   grind
  obtain⟨A1,_⟩:=qO (P:=P) (w:=w) hs hs' (fun k h=>by cases h) hi hz hb0 hb1 o.type (bS:=some ⟨b,0,none⟩) (n:=hi0) (cap:=cap) (m:=0) dN hfx hfc (by simpa[cB] using hroom)
  have h3:=A1 aH w (by simp[storeCells])
  rw[<-l4] at h3;rw[hexec _ h3,l4]; rfl
theorem Gr(hr:Rel j M w)(he:cq j M w bp a){c:Call}{y y':Operand}{z z':fY}{t t' e e':TypeId}{i:TypeInfo}{zv:Value}(hop:o.op = .call c)(hb:c.callee = .builtin .append)(ha:c.args.toList=[y,y'])
  (hat:c.argTypes = #[t,t']) (hs:P.underlying t=some (.slice e)) (hs':P.underlying t'=some (.slice e')) (hi:P.info? e=some i) (hz:i.zero=some zv) (hzs:zv.cells.size=i.size) (hpos:0<i.size) (hb0:0<i.bytes) (hb1:i.bytes<=2 ^ 20)
  (hzy:eV y=some z) (hzy':eV y'=some z') (h:eo C bp M (.append i.size i.bytes z z')=some x):∃v w',rj P o a w v w'/\iV j M w x v w':=by
 by_cases hna:∀id ver sz lo hi,z.ev bp ≠ .cE id ver sz lo hi
 ·exact Ml hr he hop hb ha hat hs hs' hi hz hzs hpos hb0 hb1 hzy hzy' h hna
 ·have hna':∃id ver sz lo hi,z.ev bp = .cE id ver sz lo hi:=by
   grind
  obtain⟨id,ver,sz',lo,hi0,ez⟩:=hna';have r1:=cZ he hzy;have r2:=cZ he hzy';simp only[eo] at h;split at h
  ·rename_i ez' _;rw[ez] at ez'; cases ez'
  ·rename_i id' ver' szz lo' hi' tk ys ez1 ez2;rw[ez] at ez1; injection ez1 with q1 q2 q3 q4 q5
   subst q1; subst q2; subst q3; subst q4; subst q5;rw[ez] at r1; rw[ez2] at r2;rw[fe] at h;split at h
   ·rename_i sz0 v0 xs hM;obtain⟨⟨d1,d2,d3,d4,hroom,hwx,hwy⟩,h⟩:=dq h;have ha':c.args = #[y,y']:=by rw[<-ha]
    have hexec:∀r,(Builtin.append_ #[t,t'] o.type #[a.eval y,a.eval y']).run P w=r->(execOp a.eval o).run P w=r.andThen fun v w' => .ok (.value v) w':=by
     intro r hr';simp[execOp,hop,resolve,hb,invoke,builtin,ha',hat,hr']
    obtain⟨B,cap2,hv2,hcap2,hsr⟩:=nZ r2.er hwy;rcases lI h with ⟨hyl,h⟩|⟨hyl,h⟩
    ·exact Iv hr hexec hs hs' hi hz hzs hb0 hb1 hM d1 d2 d3 d4 (dI (by simpa using hyl)) hv2 hroom r1 h
    have hyl:0<ys.length:=Nat.pos_of_ne_zero (by simpa using hyl)
    have hne:ys≠[]:=List.ne_nil_of_length_pos hyl;injection h with h
    subst h; subst d1; subst d2; subst d3;rw[fH];obtain⟨b2,off2,rfl,us,hrl,hul,hone,hcell⟩:=hsr.resolve_left hne
    have hfc:∀w':World,w'.heap=w.heap->(Builtin.firstCells i.size ys.length (a.eval y')).run P w' = .ok us.toArray w':=fun w' hw'=>by
     have:=pc (P:=P) (w:=w') b2 off2 (ys.length*i.size) (fun p=>(us[p]?).getD undef) fun p hp=>by
      have h1:=(hcell p _ (ai aH)).1
      grind [World.cell?,List.getElem?_eq_getElem]
     rw[hv2];simp only[Builtin.firstCells];rw[this];congr 2;apply ct
     grind
    have dN:∀w':World,(Builtin.lenOf (a.eval y')).run P w' = .ok ys.length w':=fun w'=>by rw[hv2]; rfl
    obtain⟨_,hid,_,g⟩:=r1.nh;obtain⟨e1,_,_,⟨hx,hj0,A,hvA⟩|⟨b,cap,row,t0,l3,l4,l5,l6,l7⟩⟩:=(g sz0 v0 xs hM).2 rfl
    ·subst hx;have h00:hi0=0:=by simpa using d4
     subst h00;subst e1
     have hA0:∀w':World,w'.heap=w.heap->(Builtin.firstCells i.size 0 (.slice A 0 0)).run P w' = .ok #[] w':=fun w' _=>by
      cases A<;>simp[Builtin.firstCells,loadCells,loadCellsFrom]
     obtain⟨_,A2⟩:=qO (P:=P) (w:=w) hs hs' (fun k h=>by cases h) hi hz hb0 hb1 o.type (bS:=A) (n:=0) (cap:=0) (m:=ys.length) dN hA0 hfc (by simpa[cB] using hroom)
     obtain⟨newCap,rest,h1,h2,h3⟩:=A2 aH;obtain⟨q,hbk,jq⟩:=pj (w:=w) (.cells (#[]++us.toArray++rest) e (0,0));rw[<-hvA] at h3;refine⟨_,_,.inl (by rw[hexec _ h3]; rfl),?_⟩
     have:=RH (c':=newCap) (e:=e) (v := .slice (some ⟨w.heap.size,0,none⟩) (0+ys.length) newCap) (w':={ w with heap:=w.heap.push (.cells (#[]++us.toArray++rest) e (0,0)),drawn:=w.drawn+1 }) hr hM hwy hrl aH (by rw[aI]) ⟨q.size,rfl,rfl,rfl⟩ hbk jq (by
      simp only[fZ,db,h2,hzs,hul,az];rw[aI,aI,<-bP];exact bd _ aH) (fun p hp=>by
      rw[cd (by simpa using hp)]; simp)
     simpa using this
    ·subst e1;rw[bO] at l4 l5;rw[jG] at l4;rw[aI] at l7;have hcs:hi0*i.size<=row.size:=aY (bd _ l5) l7;obtain⟨b',row0,t',k1,k2,k3,k4,k5⟩:=hr.w9 hM l3;rw[l3] at k1; cases k1;rw[l6] at k2; injection k2 with k2; injection k2 with k2 k2'
     subst k2; subst k2';have hlx:(xs.take hi0).length=hi0:=by rw[cf]; omega
     have key:=fun v w' hq=>MQ (xs:=xs.take hi0) (v:=v) (w':=w') hr hM (fun q x h=>by rw[fz] at h; split at h<;>first|exact h|cases h) gr l3 l6 (by rw[hlx]; exact l5) l7 hwx hwy hne hrl hq
     rw[hlx] at key
     have hfx:∀w':World,w'.heap=w.heap->(Builtin.firstCells i.size hi0 (.slice (some ⟨b,0,none⟩) hi0 cap)).run P w' = .ok (row.toList.take (hi0*i.size)).toArray w':=fun w' hw'=>by
      have:=pc (P:=P) (w:=w') b 0 (hi0*i.size) (fun p=>(row[p]?).getD undef) fun p hp=>by
       simp only[World.cell?,hw',l6,aI];rw[bg (show p<row.size by omega)]; rfl
      simp only[Builtin.firstCells];rw[this];congr 2;apply ct;intro p;rw[aX,fz]
      grind
     obtain⟨A1,A2⟩:=qO (P:=P) (w:=w) hs hs' (fun k h=>by cases h) hi hz hb0 hb1 o.type (bS:=some ⟨b,0,none⟩) (n:=hi0) (cap:=cap) (m:=ys.length) dN hfx hfc (by simpa[cB] using hroom)
     rcases bA cap (hi0+ys.length) with cQ|hge
     ·obtain⟨newCap,rest,h1,h2,h3⟩:=A2 cQ;obtain⟨q,hbk,jq⟩:=pj (w:=w) (.cells ((row.toList.take (hi0*i.size)).toArray++us.toArray++rest) e (0,0));have htk:(row.toList.take (hi0*i.size)).length=hi0*i.size:=gr;rw[<-l4] at h3;refine⟨_,{ w with heap:=w.heap.push (.cells ((row.toList.take (hi0*i.size)).toArray++us.toArray++rest) e (0,0)),drawn:=w.drawn+1 },.inl (by rw[hexec _ h3]; rfl),key _ _ (.inr ⟨newCap,_,e,h1,rfl,⟨q.size,rfl,rfl,rfl⟩,hbk,jq,?_,fun p hp=>?_⟩)⟩
      ·simp only[fZ,db,h2,hzs,hul,htk];rw[<-bP,<-bP];exact bd _ aH
      ·rw[cd (by simp only[fZ,db,hul,htk]; rw[<-bP]; exact hp)]
       simp[nP]
     ·have hfit:hi0*i.size+0+us.length<=row.size:=by
       rw[hul,dj,<-bP]; exact aY (bd _ hge) l7
      have hst:=nC (P:=P) us w (hi0*i.size) 0 row l6 hfit hone;simp only[dj] at hst;have hadd:(⟨b,0,none⟩:Addr).add (hi0*i.size)=⟨b,hi0*i.size,none⟩:=by simp[lV]
      have h3:=A1 hge (pz w b (hi0*i.size) us) (by
       grind)
      rw[<-l4] at h3;exact⟨_,_,.inl (by rw[hexec _ h3]; rfl),key _ _ (.inl ⟨hge,rfl,rfl⟩)⟩
   ·cases h
  ·cases h
theorem Mj(hr:Rel j M w)(he:cq j M w bp a){c:Call}{y y':Operand}{z z':fY}{t t' e e':TypeId}{i:TypeInfo}{zv:Value}(hop:o.op = .call c)(hb:c.callee = .builtin .append)(ha:c.args.toList=[y,y'])
  (hat:c.argTypes = #[t,t']) (hs:P.underlying t=some (.slice e)) (hs':P.underlying t'=some (.slice e')) (hi:P.info? e=some i) (hz:i.zero=some zv) (hzs:zv.cells.size=i.size) (hpos:0<i.size) (hb0:0<i.bytes) (hb1:i.bytes<=2 ^ 20)
  (hzy:eV y=some z) (hzy':eV y'=some z') (h:eo C bp M (.wb i.size i.bytes z z')=some x):∃v w',rj P o a w v w'/\iV j M w x v w':=by
 simp only[eo] at h;have r1:=cZ he hzy;have r2:=cZ he hzy';split at h
 ·rename_i tk ys ez ez';obtain⟨⟨hroom,hwy⟩,h⟩:=dq h;cases h;rw[ez] at r1;rw[ez'] at r2;obtain⟨A,hv⟩:=r1.Dv;have ha':c.args = #[y,y']:=by rw[<-ha]
  have hexec:∀r,(Builtin.append_ #[t,t'] o.type #[a.eval y,a.eval y']).run P w=r->(execOp a.eval o).run P w=r.andThen fun v w' => .ok (.value v) w':=by
   simp_all [execOp,resolve,invoke,builtin]
  have hA0:∀w':World,w'.heap=w.heap->(Builtin.firstCells i.size 0 (.slice A 0 0)).run P w' = .ok #[] w':=fun w' _=>by
   cases A<;>simp[Builtin.firstCells,loadCells,loadCellsFrom]
  obtain⟨B,cap2,hv2,hcap2,hsr⟩:=nZ r2.er hwy;have dN:∀w':World,(Builtin.lenOf (a.eval y')).run P w' = .ok ys.length w':=fun w'=>by rw[hv2]; rfl
  rcases gY ys.length with h0|h0
  ·have hnil:ys=[]:=dI h0;subst hnil
   have hfc:∀w':World,w'.heap=w.heap->(Builtin.firstCells i.size 0 (a.eval y')).run P w' = .ok (#[]:Array Value) w':=fun w' _=>by
    rw[hv2]; cases B<;>simp[Builtin.firstCells,loadCells,loadCellsFrom]
   obtain⟨A1,_⟩:=qO (P:=P) (w:=w) hs hs' (fun k h=>by cases h) hi hz hb0 hb1 o.type (bS:=A) (n:=0) (cap:=0) (m:=0) dN hA0 hfc (by simp[])
   have h3:=A1 (av _) w (by cases A<;>simp[storeCells])
   rw[<-hv] at h3;have q:Quiet w w:=⟨av _,rfl,rfl,rfl⟩;have g1:Rel (gH j M.length none) (M++[.arr i.size 0 []]) w:=hr.push (ob:=none) (bx := .arr i.size 0 []) (fun b h=>by cases h) q (fun _ _=>rfl) (fun h=>by cases h) (fun sz n b h h'=>by cases h') (fun sz ver xs h=>by injection h with e1 e2 e3; exact .inl ⟨e3.symm,rfl⟩)
   have g2:Ext j M w (gH j M.length none) (M++[.arr i.size 0 []]) w:=Ext.push (fun b h=>by cases h) q (fun _ _=>rfl)
   refine⟨a.eval y,w,.inl (by rw[hexec _ h3]; rfl),gH j M.length none,g1,g2,?_⟩
   rw[hv];refine .cE (.inr ⟨rfl,A,rfl⟩) dw (fun bx hbx=>by rw[kh] at hbx; cases hbx; rfl) fun sz' v' zs hx=>?_
   rw[kh] at hx; injection hx with hx; injection hx with e1 e2 e3
   subst e1; subst e2; subst e3;exact⟨av _,fun _=>⟨rfl,av _,av _,.inl ⟨rfl,by simp[gH],A,rfl⟩⟩⟩
  ·have hne:ys≠[]:=List.ne_nil_of_length_pos h0;obtain⟨b2,off2,rfl,us,hrl,hul,hone,hcell⟩:=hsr.resolve_left hne
   have hfc:∀w':World,w'.heap=w.heap->(Builtin.firstCells i.size ys.length (a.eval y')).run P w' = .ok us.toArray w':=fun w' hw'=>by
    have:=pc (P:=P) (w:=w') b2 off2 (ys.length*i.size) (fun p=>(us[p]?).getD undef) fun p hp=>by
     have h1:=(hcell p _ (ai aH)).1
     grind [World.cell?,List.getElem?_eq_getElem]
    rw[hv2];simp only[Builtin.firstCells];rw[this];congr 2;apply ct
    grind
   obtain⟨_,A2⟩:=qO (P:=P) (w:=w) hs hs' (fun k h=>by cases h) hi hz hb0 hb1 o.type (bS:=A) (n:=0) (cap:=0) (m:=ys.length) dN hA0 hfc (by simpa[cB] using hroom)
   obtain⟨newCap,rest,h1,h2,h3⟩:=A2 aH;obtain⟨q,hbk,jq⟩:=pj (w:=w) (.cells (#[]++us.toArray++rest) e (0,0));rw[<-hv] at h3;have q':Quiet w { w with heap:=w.heap.push (.cells (#[]++us.toArray++rest) e (0,0)),drawn:=w.drawn+1 }:=⟨q.size,rfl,rfl,rfl⟩
   have hob:∀b,some w.heap.size=some b->w.heap.size<=b/\b<({ w with heap:=w.heap.push (.cells (#[]++us.toArray++rest) e (0,0)),drawn:=w.drawn+1 }:World).heap.size:=fun b h=>by cases h; exact⟨av _,lt_of_block jq⟩
   have hpf:∀p,p<us.length->(#[]++us.toArray++rest)[p]?=us[p]?:=fun p hp=>by
    rw[cd (by simpa using hp)]; simp
   have hat:∀j' M',Ext j M w j' M' { w with heap:=w.heap.push (.cells (#[]++us.toArray++rest) e (0,0)),drawn:=w.drawn+1 }->Fu j' M' { w with heap:=w.heap.push (.cells (#[]++us.toArray++rest) e (0,0)),drawn:=w.drawn+1 } w.heap.size i.size ys:=fun j' M' hx=>mF jq hwy (hrl.mono hx.iv) hpf
   have hsz:newCap*i.size<=(#[]++us.toArray++rest).size:=by
    simp only[fZ,db,h2,hzs,hul,az];rw[aI,aI,<-bP];exact bd _ aH
   refine⟨_,_,.inl (by rw[hexec _ h3]; rfl),gH j M.length (some w.heap.size),hr.push hob q' hbk (fun h=>by cases h) (fun sz n b h _=>by cases h) (fun sz0 v0 xs0 he=>?_),Ext.push (fun b h=>(hob b h).1) q' hbk,?_⟩
   ·injection he with e1 e2 e3
    subst e1; subst e2; subst e3;refine .inr ⟨w.heap.size,_,e,rfl,jq,?_,hwy,fun j' M' hx q x k c hx' hk=>?_⟩
    ·exact aY (bd _ aH) hsz
    ·obtain⟨vs,t,a1,a2,a3,a4⟩:=hat j' M' hx;rw[jq] at a1; injection a1 with a1; injection a1 with a1 a1'
     subst a1;exact a4 q x k c hx' hk
   ·rw[aI];refine .cE (.inl ⟨w.heap.size,0,newCap,by rw[bO],aH⟩) dw (fun bx hbx=>by rw[kh] at hbx; cases hbx; rfl) fun sz' v' xs hx=>?_
    rw[kh] at hx; injection hx with hx; injection hx with e1 e2 e3
    subst e1; subst e2; subst e3;exact⟨av _,fun _=>⟨rfl,cI _,av _,.inr ⟨w.heap.size,newCap,_,e,by simp[gH],dw,aH,jq,by rw[aI]; exact hsz⟩⟩⟩
 ·cases h
def WO(hr:Rel j M w)(he:cq j M w bp a){c:Call}{y y':Operand}{z z':fY}{t t' e e':TypeId}{n:Nat}(hop:o.op = .call c)(hb:c.callee = .builtin .copy)(ha:c.args.toList=[y,y'])
  (hat:c.argTypes.toList=[t,t']) (hs:P.underlying t=some (.slice e)) (hs':P.underlying t'=some (.slice e')) (hn:qG P e=some n) (hpos:0<n)
  (hz:eV y=some z) (hz':eV y'=some z') (h:eo C bp M (.FM n z z')=some x):∃v w',rj P o a w v w'/\iV j M w x v w':=by
 simp only[eo] at h;have r1:=cZ he hz;have r2:=cZ he hz';have ha':c.args = #[y,y']:=by rw[<-ha]
 have hat':c.argTypes = #[t,t']:=by rw[<-hat]
 have hexec:∀r,(Builtin.copy_ #[t,t'] o.type #[a.eval y,a.eval y']).run P w=r->(execOp a.eval o).run P w=r.andThen fun v w' => .ok (.value v) w':=by
  intro r hr';simp[execOp,hop,resolve,hb,invoke,builtin,ha',hat',hr']
 have hsz:(sizeOf e).run P w = .ok n w:=js hn;split at h
 ·rename_i tk ys ex ey;rw[ex] at r1; rw[ey] at r2;obtain⟨hwy,h⟩:=dq h;cases h;obtain⟨B,cap2,hv2,_,_⟩:=nZ r2.er hwy;obtain⟨A,cap,hv,_,_⟩:=nZ (size:=n) r1.er (fun y hy=>by cases hy)
  refine⟨.int .i64 0,w,.inl ?_,.still hr (.plain (.int _ _))⟩;rw[hexec _ rfl,hv,hv2];cases A<;>cases B<;>simp[Builtin.copy_,eb hs,hsz,Builtin.lenOf,Builtin.firstCells,loadCells,loadCellsFrom,storeCells,goInt,Result.andThen]
 ·rename_i id ver sz' lo hi0 tk ys ex ey;rw[ex] at r1; rw[ey] at r2;rw[fe] at h;split at h
  ·rename_i sz0 v0 xs hM;obtain⟨⟨d1,d2,hwy,hne0⟩,h9⟩:=dq h;injection h9 with h9
   subst h9; subst d1; subst d2;obtain⟨_,hid,_,g⟩:=r1.nh;obtain⟨e1,l1,l2,⟨hx,_⟩|⟨b,cap,row,t0,l3,l4,l5,l6,l7⟩⟩:=(g sz0 v0 xs hM).2 rfl
   ·exact absurd hne0 (by rw[hx]; simp)
   subst e1;obtain⟨b',row0,t',k1,k2,k3,k4,k5⟩:=hr.w9 hM l3;rw[l3] at k1; cases k1;rw[l6] at k2; injection k2 with k2; injection k2 with k2 k2'
   subst k2; subst k2';obtain⟨B,cap2,hv2,hcap2,hsr⟩:=nZ r2.er hwy;generalize hm:min ys.length (hi0-lo)=m;have hm1:m<=ys.length:=aH;have hm2:m<=hi0-lo:=aH
   -- what is copied
   obtain⟨us,hul,hrl,hone,hfc⟩:∃us:List Value,us.length=m*sz0/\RL w (nM j M w) (kc (ys.take m)) us/\(∀u,u∈us->u.oneCell'=true)/\(Builtin.firstCells sz0 m (.slice B ys.length cap2)).run P w = .ok us.toArray w:=by
    rcases hsr with rfl|⟨b2,off2,rfl,us,hrl,hul,hone,hcell⟩
    ·have:m=0:=by simpa using hm1
     subst this;refine⟨[],dw,⟨rfl,fun p c v h=>by simp[kc] at h⟩,fun u hu=>by (cases hu),?_⟩
     cases B<;>simp[Builtin.firstCells,loadCells,loadCellsFrom]
    ·have hle:m*sz0<=us.length:=by rw[hul]; exact bd _ hm1
     refine⟨us.take (m*sz0),gr,by rw[sb m hwy]; exact hrl.take _,fun u hu=>hone u (dB hu),?_⟩
     have:=pc (P:=P) (w:=w) b2 off2 (m*sz0) (fun p=>(us[p]?).getD undef) fun p hp=>by
      rw[(hcell p _ (ai aH)).1,ai (show p<us.length by omega)]; rfl
     simp only[Builtin.firstCells];rw[this];congr 2;apply ct;intro p;rw[aX,fz];rcases bA p (m*sz0) with h|h
     ·rw[jk h,aZ h];simp[ai (show p<us.length by omega)]
     ·rw[aQ aH,fj (by simpa using h)]; rfl
   have hrow:=xZ (b:=b) k3 k4 k5;have hbd:lo*sz0+m*sz0<=xs.length*sz0:=by rw[<-bP]; exact bd _ aH
   have hfit:lo*sz0+us.length<=row.size:=by rw[hul]; omega
   have hst:=nC (P:=P) us w (lo*sz0) 0 row l6 aH hone;obtain⟨s1,s2,s3,s4,s5,row2,s6,s7,s8,s9⟩:=mu (t:=t0) us w (lo*sz0) row l6 hfit;have hwd':wid (xs.take lo++(ys.take m++xs.drop (lo+m))) sz0:=nD (vY k4) (nD (vY hwy) (vX k4))
   have jq:RL w (nM j M w) (kc (xs.take lo++(ys.take m++xs.drop (lo+m)))) ((row.toList.take (xs.length*sz0)).take (lo*sz0)++(us++(row.toList.take (xs.length*sz0)).drop ((lo+m)*sz0))):=by
    rw[oX,oX,sb lo k4,uf (lo+m) k4];exact(hrow.take _).append (hrl.append (hrow.drop _))
   have hll:(xs.take lo++(ys.take m++xs.drop (lo+m))).length=xs.length:=gr;have hmm:(lo+m)*sz0=lo*sz0+m*sz0:=bP ..
   have hput:=xY (ver':=v0) (xs':=xs.take lo++(ys.take m++xs.drop (lo+m))) hr hM l3 (w':=pz w b (lo*sz0) us) ⟨aH,s2,s3,s4⟩ (fun b' hb' _=>s5 b' hb') l6 s6 s7 (av _) (fun _=>hll) hwd' jq (fun p hp=>by
    have hp':p<xs.length*sz0:=by
     rw[<-jq.1,iT hwd',hll] at hp; exact hp
    have htk:(List.take (lo*sz0) (row.toList.take (xs.length*sz0))).length=lo*sz0:=gr;rcases bA p (lo*sz0) with q1|q1
    ·rw[s8 p (.inl q1),aO (by rw[htk]; exact q1),bG q1,bG hp']; simp
    ·rw[bj (by rw[htk]; exact q1),htk]
     rcases bA p (lo*sz0+m*sz0) with q2|q2
     ·rw[aO (by rw[hul]; omega)]
      have:=s9 (p-lo*sz0) (by rw[hul]; omega)
      rw[dx q1] at this;exact this
     ·rw[bj (by rw[hul]; omega),s8 p (.inr (by rw[hul]; omega)),cS,hul,hmm,show lo*sz0+m*sz0+(p-lo*sz0-m*sz0)=p by omega,bG hp']; simp)
   rw[fH];refine⟨.int .i64 (m:Int),pz w b (lo*sz0) us,.inl ?_,j,hput.1,hput.2,.plain (.int _ _)⟩;rw[hexec _ rfl,l4,hv2];have hmin:Nat.min ys.length (hi0-lo)=m:=hm;simp only[dj] at hst;simp[Builtin.copy_,eb hs,hsz,Builtin.lenOf,hmin,hfc,hst,goInt,Result.andThen]
  ·cases h
 ·cases h
def abq(hr:Rel j M w){t:TypeId}{i:TypeInfo}{zv:Value}{n:Nat}(hop:o.op = .alloc t)(hi:P.info? t=some i)(hzv:i.zero=some zv)(hl:tu zv.cells.toList=some [.slice .c0 []])
  (h:eo C bp M (.O8 n)=some x):∃v w',rj P o a w v w'/\iV j M w x v w':=by
 simp only[eo] at h;cases h;have q:Quiet w w:=⟨av _,rfl,rfl,rfl⟩;have h1:Rel (gH j M.length none) (M++[.arr n 0 []]) w:=hr.push (ob:=none) (bx := .arr n 0 []) (fun b h=>by cases h) q (fun _ _=>rfl) (fun h=>by cases h) (fun sz n b h h'=>by cases h') (fun sz ver xs h=>by injection h with e1 e2 e3; exact .inl ⟨e3.symm,rfl⟩)
 have h2:Ext j M w (gH j M.length none) (M++[.arr n 0 []]) w:=Ext.push (fun b h=>by cases h) q (fun _ _=>rfl)
 obtain⟨k1,k2⟩:=qH (j:=gH j M.length none) (M:=M++[.arr n 0 []]) (w:=w) hl;have hs1:zv.cells.size=1:=by simpa using k1.symm
 have hv0:∃A,zv.cells[0]?=some (.slice A 0 0):=by
  have hv:=bg (show 0<zv.cells.size by omega)
  obtain⟨A,hA⟩:=(k2 0 _ (zv.cells[0]'(by omega)) rfl dw).Dv
  exact⟨A,by rw[hv,hA]⟩
 obtain⟨A,hA⟩:=hv0
 have hrc:RC (gH j M.length none) (M++[.arr n 0 []]) w [.cE M.length 0 n 0 0] zv.cells:=by
  refine⟨by simp[hs1],fun p c v hc hv=>?_⟩
  cases p with
  |zero =>
   simp at hc; subst hc;rw[hA] at hv; cases hv;refine .cE (.inr ⟨rfl,A,rfl⟩) dw (fun bx hbx=>by rw[kh] at hbx; cases hbx; rfl) fun sz' v' zs hx=>?_
   rw[kh] at hx; injection hx with hx; injection hx with e1 e2 e3
   subst e1; subst e2; subst e3;exact⟨av _,fun _=>⟨rfl,av _,av _,.inl ⟨rfl,by simp[gH],A,rfl⟩⟩⟩
  |succ p=>simp at hc
 obtain⟨j',g1,g2,g3⟩:=HC h1 hrc t;refine⟨_,_,.inl (show(execOp a.eval o).run P w = .ok (.value (.pointer (some ⟨w.heap.size,0,none⟩))) { w with heap:=w.heap.push (.cells zv.cells t (0,0)) } by simp[execOp,hop,Instr.alloc,zeroValue,pX hi,hzv,newVar,newRow]),j',?_,?_,?_⟩
 ·simpa using g1
 ·simpa using h2.trans g2
 ·simpa using g3
end
section
variable {P:Program} {C:eL} {own:List Nat} {o:Oper} {ao:kG} {bp:Env} {M:aC} {j:J} {w:World} {a:Act} {x:ag×aC}
def tY(P:Program)(o:Oper)(a:Act)(w:World)(K:Act->World->Prop)(KP:Value->World->Prop):Prop :=
 (∃v w',rj P o a w v w'/\K (a.put o.dst v) w')\/(∃f us,(execOp a.eval o).run P w = .ok (.enter f us) w/\Calls P f us w fun e w'=>(∃v,e = .returned v/\K (a.put o.dst v) w')\/∃u,e = .panicked [{ v:=u,recovered:=false }]/\KP u w') \/
  ∃u,(execOp a.eval o).run P w = .halt (.panic u) w/\KP u w
def ew{K:Act->World->Prop}{KP:Value->World->Prop}(h:∃v w',rj P o a w v w'/\iV j M w x v w')(hK:∀v w',iV j M w x v w'->K (a.put o.dst v) w'):tY P o a w K KP:=by
 obtain⟨v,w',h1,h2⟩:=h;exact .inl ⟨v,w',h1,hK v _ h2⟩
def wA{K:Act->World->Prop}{KP:Value->World->Prop}{f:Nat}{us:Array Value}(hrun:(execOp a.eval o).run P w = .ok (.enter f us) w)
  (h:Calls P f us w fun e w'=>wa j M w x e w') (hK:∀v w',iV j M w x v w'->K (a.put o.dst v) w') (hP:∀u w',Ib j M w x u w'->KP u w'):tY P o a w K KP :=
 .inr (.inl ⟨f,us,hrun,h.mono fun e w' he=>he.imp (fun⟨v,he,hv⟩=>⟨v,he,hK v _ hv⟩) fun⟨u,he,hu⟩=>⟨u,he,hP u _ hu⟩⟩)
def Wd(r:Option Nat):Fence:={ Fence.wide with round:=r }
def K9{r:Option Nat}{n f:Nat}{args:Array Value}{R:Ending->World->Prop}(h:Calls P f args w R):CallsIn (Wd r) n P f args w R:=by
 cases r with
 |none=>exact callsIn_wide.2 h
 |some l=>exact CallsIn.inRound l (callsIn_wide.2 h)
theorem tY.wpIn{K:Act->World->Prop}{KP:Value->World->Prop}{Q:Exit->Act->World->Prop}{r:Option Nat}{n:Nat}(hd:∀c,o.op ≠ .defer c)(h:tY P o a w K KP)
  (hQ:∀u w',KP u w'->Q (.panic [{ v:=u,recovered:=false }]) a w'):o.wpIn (Wd r) n P a w K Q:=by
 refine⟨fun _ _=>trivial,?_⟩
 rw[Oper.semAt_eq _ _ _ hd];rcases h with ⟨v,w',h1|⟨h1,rfl⟩,h2⟩|⟨f,us,h1,h2⟩|⟨u,h1,h2⟩
 ·rw[h1]; exact h2
 ·rw[h1]; exact h2
 ·rw[h1];refine⟨fun h=>(by cases h),K9 (h2.mono ?_)⟩
  grind
 ·rw[h1]; exact hQ u w h2
def Af(ho:Pa P own o=some ao):∀c,o.op ≠ .defer c:=by
 intro c h;simp_all [Pa]
def qY{f:Nat}(h:lG P f=true)(us:Array Value):(callFunc f us).run P w = .ok (.enter f us) w:=by
 unfold lG at h;split at h
 ·rename_i fn hfn;have h1:fn.name ≠ "runtime.NumGoroutine" := jO;have h2:¬fn.body=none:=jO;simp[callFunc,hfn,h1,h2]
 ·cases h
theorem gk.shut{c:ag}{v:Value}(h:gk j M w c v):gk j M w c.shut v:=by
 cases c<;>first|exact h|exact .plain h.er
def gk.fU{c:ag}{v:Value}(h:gk j M w c v):gk j M w c.fU v:=by
 cases c<;>first|exact h|exact .plain h.er|skip
 obtain⟨vs,rfl,hl,hc⟩:=h.mY;refine .agg jO fun i c u hi hu=>?_
 rw[aX,aU] at hi;obtain⟨c0,hc0,rfl⟩:=hi;exact(hc i _ u hc0 hu).shut
theorem Pb{c:Call}{f0 f:Nat}{l:List fY}(hop:o.op = .call c)(hcal:c.callee = .value (.func f0))(h:Pa P own o=some (.wE f l)):f0=f/\lG P f=true/\vA c.args.toList=some l:=by
 simp only[Pa,hop,RR,hcal] at h;split at h
 ·obtain⟨l',hl,h⟩:=bf h
  grind
 grind
theorem y8(hC:ny P C){c:Call}{f0 f:Nat}{l:List fY}(hop:o.op = .call c)(hcal:c.callee = .value (.func f0))(ho:Pa P own o=some (.wE f l)){M0:aC}(h:eo C bp M0 (.wE f l)=some x) :
  ∃xs sz n,x=(.slice (.own M0.length) xs,M0++[.tick sz n])/\∀ {j:J} {G:aC} {w:World} {a:Act} {p:Nat} {K:Act->World->Prop} {KP:Value->World->Prop},Rel j G w->sW j G w->cq j G w bp a->G[p]?=some .vZ ->
   (∀v w',iV j G w (.slice (.own p) xs,G.set p (.tick sz n)) v w'->K (a.put o.dst v) w')->tY P o a w K KP:=by
 obtain⟨rfl,hent,hl⟩:=Pb hop hcal ho;simp only[eo] at h;unfold BE at h;split at h
 ·rename_i hc;obtain⟨hc1,hc2⟩:=hc;obtain⟨y,hy,h⟩:=bm h;split at h
  ·rename_i x1 x2 xs sz n e1 e2;cases h;refine⟨xs,sz,n,rfl,fun {j G w a p K KP} hr hG he hp hK=>?_⟩
   obtain⟨l1,l2⟩:=uu he hl
   have hy':C f0 (l.map fun x=>(x.ev bp).fU) []=some (.slice (.own 0) xs,[.tick sz n]):=by
    rw[hy,<-e1,<-e2]
   obtain⟨_,hcl⟩:=QD (us:=c.args.map a.eval) hC hr hG hp hc1 hc2 hy' jO fun i c' u hc' hu=>by
    rw[aX,aU] at hc';obtain⟨y,hy,rfl⟩:=hc';rw[iL,aU] at hu;obtain⟨q,hq,rfl⟩:=hu;exact(l2 i y q hy (by simpa using hq)).fU
   exact .inr (.inl ⟨f0,_,by simp[execOp,hop,resolve,hcal,Act.eval,Deferred.ofValue,invoke,qY hent],hcl.mono fun e w' ⟨v,he,hv⟩ => .inl ⟨v,he,hK v w' hv⟩⟩)
  grind
 grind
theorem Ew(hC:ny P C)(ho:Pa P own o=some ao)(h:eo C bp M ao=some x)(hr:Rel j M w)(hG:sW j M w)(he:cq j M w bp a){K:Act->World->Prop}
  (hK:∀v w',iV j M w x v w'->K (a.put o.dst v) w') {KP:Value->World->Prop} (hP:∀u w',Ib j M w x u w'->KP u w'):tY P o a w K KP:=by
 have ho0:=ho;unfold Pa at ho;split at ho
 case h_1 y hop =>
  obtain⟨z,hz,ho⟩:=bf ho;cases ho;exact ew (Ai hr he (.inl hop) hz h) hK
 case h_2 y hop =>
  obtain⟨z,hz,ho⟩:=bf ho;split at ho
  ·split at ho
   ·split at ho
    ·obtain⟨n,hn,ho⟩:=bf ho;split at ho
     ·cases ho;exact ew (W7 hr he hop hz h) hK
     ·cases ho;exact ew (Ai hr he (.inr hop) hz h) hK
    ·cases ho
   ·split at ho
    ·split at ho
     ·obtain⟨n,hn,ho⟩:=bf ho;cases ho;exact ew (W7 hr he hop hz h) hK
     ·cases ho
    ·cases ho;exact ew (Ai hr he (.inr hop) hz h) hK
  ·cases ho;exact ew (Ai hr he (.inr hop) hz h) hK
 case h_3 c p q hop =>
  obtain⟨c',hc,ho⟩:=bf ho;obtain⟨p',hp,ho⟩:=bf ho;obtain⟨q',hq,ho⟩:=bf ho;cases ho;exact ew (abA hr he hop hc hp hq h) hK
 case h_4 t hop =>
  obtain⟨i,hi,ho⟩:=bf ho;obtain⟨z,hz,ho⟩:=bf ho;obtain⟨l,hl,ho⟩:=bf ho;split at ho
  ·split at ho
   ·split at ho
    ·obtain⟨n,hn,ho⟩:=bf ho;cases ho;exact ew (abq hr hop hi hz hl h) hK
    ·cases ho
   ·cases ho;exact ew (NZ hr hop hi hz hl h) hK
  ·cases ho;exact ew (NZ hr hop hi hz hl h) hK
 case h_5 t y hop =>
  obtain⟨z,hz,ho⟩:=bf ho;cases ho;exact ew (ah1 hr he hop hz h) hK
 case h_6 t parts hop =>
  split at ho
  ·rename_i fs hfs;obtain⟨i,hi,ho⟩:=bf ho;obtain⟨z,hz,ho⟩:=bf ho;obtain⟨l,hl,ho⟩:=bf ho;obtain⟨ps,hps,ho⟩:=bf ho;split at ho
   ·rename_i hall;cases ho;exact ew (WN hr he hop hfs hi hz hl hps hall h) hK
   ·cases ho
  ·rename_i len e ht;obtain⟨i,hi,ho⟩:=bf ho;obtain⟨z,hz,ho⟩:=bf ho;obtain⟨l,hl,ho⟩:=bf ho;obtain⟨n,hn,ho⟩:=bf ho;obtain⟨ps,hps,ho⟩:=bf ho;cases ho;exact ew (Qh hr he hop ht hi hz hl hn hps h) hK
  ·cases ho
 case h_7 t len parts hop =>
  split at ho
  ·rename_i e ht;obtain⟨i,hi,ho⟩:=bf ho;obtain⟨l,hl,ho⟩:=bf ho;split at ho
   ·rename_i hc;cases ho;split at h
    ·split at h
     ·exact ew (WW hr he hop ht hi hl hc.1 hc.2.1 hc.2.2.1 h) hK
     ·split at h
      ·rename_i he0;simp only[bz,List.isEmpty_iff] at he0;have he1:=he0.2;subst he1;exact ew (abz hr he hop ht hi hl hc.1 hc.2.1 hc.2.2.1 h) hK
      ·exact ew (N0 hr he hop ht hi hl hc.1 hc.2.1 hc.2.2.1 h) hK
    ·exact ew (N0 hr he hop ht hi hl hc.1 hc.2.1 hc.2.2.1 h) hK
   ·cases ho
  ·cases ho
 case h_8 t y hop =>
  obtain⟨g,hg,ho⟩:=bf ho;obtain⟨n,hn,ho⟩:=bf ho;obtain⟨z,hz,ho⟩:=bf ho;cases ho;cases g
  ·exact ew (WX hr he hop hg hz h) hK
  ·exact ew (WY hr he hop hg hn hz h) hK
 case h_9 t y y' hop =>
  obtain⟨n,hn,ho⟩:=bf ho;obtain⟨z,hz,ho⟩:=bf ho;obtain⟨z',hz',ho⟩:=bf ho;cases ho;cases z with
  |tmp s =>
   dsimp only at h;split at h
   ·exact ew (Qo hr he hop hn hz hz' h) hK
   ·exact ew (Ex hr he hop hn hz hz' h) hK
  |_=>exact ew (Ex hr he hop hn hz hz' h) hK
 case h_10 y hop =>
  obtain⟨z,hz,ho⟩:=bf ho;cases ho;exact ew (ah2 hr he hop hz h) hK
 case h_11 op t y y' t' hop =>
  obtain⟨z,hz,ho⟩:=bf ho;obtain⟨z',hz',ho⟩:=bf ho;split at ho
  ·obtain⟨b,hb,ho⟩:=bf ho;cases ho;exact ew (WL hr he hop hb hz hz' h) hK
  ·obtain⟨b,hb,ho⟩:=bf ho;cases ho;exact ew (WL hr he hop hb hz hz' h) hK
  ·rename_i ht;split at ho
   ·cases ho;exact ew (WS (neg:=false) hr he hop ht hz hz' h) hK
   ·cases ho;exact ew (WS (neg:=true) hr he hop ht hz hz' h) hK
   ·cases ho
  ·rename_i fs ht;split at ho
   ·cases ho
   ·rename_i hst;obtain⟨ks,hks,ho⟩:=bf ho;have hst':P.stoodInHeld t=false:=by simpa using hst
    split at ho
    ·cases ho;exact ew (WQ (neg:=false) hr he hop ht hst' hks hz hz' h) hK
    ·cases ho;exact ew (WQ (neg:=true) hr he hop ht hst' hks hz hz' h) hK
    ·cases ho
  ·rename_i len e ht;split at ho
   ·split at ho
    ·rename_i hs;cases ho;exact ew (WR hr he hop ht (by assumption) hs hz hz' h) hK
    ·cases ho
   ·cases ho
  ·cases ho
 case h_12 t y hop =>
  obtain⟨z,hz,ho⟩:=bf ho;cases ho;exact ew (ah4 hr he hop hz h) hK
 case h_13 t y hop =>
  obtain⟨z,hz,ho⟩:=bf ho;cases ho;exact ew (ah3 hr he hop hz h) hK
 case h_14 s d y hop =>
  obtain⟨z,hz,ho⟩:=bf ho;split at ho
  ·rename_i hs hd;cases ho;exact ew (abr hr he hop hs hd hz h) hK
  ·rename_i hs hd;cases ho;exact ew (abC hr he hop hs hd hz h) hK
  ·rename_i e hs hd;split at ho
   ·rename_i hu;cases ho;exact ew (ah0 hr he hop hs hd hu hz h) hK
   ·cases ho
  ·cases ho
 case h_15 f first caps hop =>
  split at ho
  ·rename_i hf;obtain⟨l,hl,ho⟩:=bf ho;cases ho;exact ew (aok hr he hop hf hl h) hK
  ·split at ho
   ·rename_i hf;obtain⟨l,hl,ho⟩:=bf ho;cases ho;exact ew (WM hr he hop hf hl h) hK
   ·cases ho
 case h_16 t y lo hi mx hop =>
  obtain⟨z,hz,ho⟩:=bf ho;obtain⟨lo',hlo,ho⟩:=bf ho;obtain⟨hi',hhi,ho⟩:=bf ho;obtain⟨mx',hmx,ho⟩:=bf ho;split at ho
  ·rename_i ht;split at ho
   ·rename_i hm;cases ho
    have:mx=none:=by
     grind [qJ]
    subst this;exact ew (Qn hr he hop ht hz hlo hhi h) hK
   ·cases ho
  ·rename_i e ht;obtain⟨n,hn,ho⟩:=bf ho;split at ho
   ·rename_i hc;cases ho;unfold RU at h;split at h
    ·split at h
     ·rename_i hm;cases lo'<;>simp at hm
      cases mx'<;>simp at hm
      exact ew (abt hr he hop ht hn hz hlo hhi hmx h) hK
     ·exact ew (Gu hr he hop ht hn hz hlo hhi hmx hc.2 h) hK
    ·exact ew (Gu hr he hop ht hn hz hlo hhi hmx hc.2 h) hK
   ·cases ho
  ·cases ho
 case h_17 s y i hop =>
  split at ho
  ·rename_i fs hs;obtain⟨f,hf,ho⟩:=bf ho;obtain⟨n,hn,ho⟩:=bf ho;obtain⟨z,hz,ho⟩:=bf ho;split at ho
   ·rename_i hpos;cases ho;exact ew (WT hr he hop hs hf hn hpos hz h) hK
   ·cases ho
  ·cases ho
 case h_18 s y i hop =>
  split at ho
  ·rename_i fs hs;obtain⟨f,hf,ho⟩:=bf ho;obtain⟨g,hg,ho⟩:=bf ho;obtain⟨n,hn,ho⟩:=bf ho;obtain⟨z,hz,ho⟩:=bf ho;cases ho;cases g
   ·exact ew (Qj hr he hop hs hf hg hz h) hK
   ·exact ew (Qk hr he hop hs hf hg hn hz h) hK
  ·cases ho
 case h_19 t y i hop =>
  split at ho
  ·rename_i e ht;obtain⟨n,hn,ho⟩:=bf ho;obtain⟨z,hz,ho⟩:=bf ho;obtain⟨z',hz',ho⟩:=bf ho;split at ho
   ·cases ho;exact ew (WU hr he hop ht hn hz hz' h) hK
   ·cases ho
  ·rename_i len e ht;obtain⟨n,hn,ho⟩:=bf ho;obtain⟨z,hz,ho⟩:=bf ho;obtain⟨z',hz',ho⟩:=bf ho;split at ho
   ·cases ho;exact ew (Ql hr he hop ht hn hz hz' h) hK
   ·cases ho
  ·cases ho
 case h_20 t y i hop =>
  split at ho
  ·rename_i ht;obtain⟨z,hz,ho⟩:=bf ho;obtain⟨z',hz',ho⟩:=bf ho;cases ho;exact ew (Qm hr he hop ht hz hz' h) hK
  ·cases ho
 case h_21 y i hop =>
  obtain⟨z,hz,ho⟩:=bf ho;cases ho;exact ew (Mn hr he hop hz h) hK
 case h_22 c hop =>
  unfold RR at ho;split at ho
  ·rename_i f hcal;split at ho
   ·rename_i hent;obtain⟨l,hl,ho⟩:=bf ho;cases ho;obtain⟨l1,l2⟩:=uu he hl;split at h
    ·simp only[eo] at h;obtain⟨_,hc⟩:=hC _ _ _ _ h;refine wA (by simp[execOp,hop,resolve,hcal,Act.eval,Deferred.ofValue,invoke,qY hent]) ((hc j w (c.args.map a.eval) hr hG (by simpa using l1) fun i c' u hc' hu=>?_)) hK hP
     grind
    split at h
    ·simp only[eo] at h;obtain⟨f1,f2,f3,f4⟩:=zW (j:=j) (w:=w) ((l.map (fY.ev bp)).flatMap ag.ids) hr
     obtain⟨_,hc⟩:=rp (us:=c.args.map a.eval) hC f2 (hG.mono f1) h (by simpa using l1) fun i c' u hc' hu=>by
      rw[aX,aU] at hc';obtain⟨y,hy,rfl⟩:=hc';rw[iL,aU] at hu;obtain⟨q,hq,rfl⟩:=hu;exact((l2 i y q hy (by simpa using hq)).rz hr f1 f2 f3 fun id hid=>f4 id (iJ.2 ⟨_,eJ.2 ⟨y,aJ hy,rfl⟩,hid⟩)).fU
     refine wA (by simp[execOp,hop,resolve,hcal,Act.eval,Deferred.ofValue,invoke,qY hent]) (hc.mono ?_) hK hP
     rintro e w' (⟨v,rfl,j2,g1,g2,g3⟩|⟨u,rfl,hu,j2,g1,g2⟩)
     ·exact .inl ⟨v,rfl,j2,g1,f1.trans g2,g3⟩
     ·exact .inr ⟨u,rfl,hu,j2,g1,f1.trans g2⟩
    split at h
    ·rename_i h1 h2 h3;rw[aQ h1,aQ h2,aZ h3] at ho0;obtain⟨xs,sz,n,rfl,hrun⟩:=y8 hC hop hcal (by rw[ho0]) h
     obtain⟨j1,r1,x1⟩:=BF hr 1;refine hrun (p:=M.length) r1 (hG.mono x1) (he.mono x1) dw fun v w' ⟨j',q1,q2,q3⟩=>hK v w' ⟨j',?_,?_,?_⟩
     ·simpa using q1
     ·simpa using x1.trans q2
     ·simpa using q3
    simp only[eo] at h
    obtain⟨_,hc⟩:=rp (us:=c.args.map a.eval) hC hr hG h (by simpa using l1) fun i c' u hc' hu=>by
     rw[aX,aU] at hc';obtain⟨y,hy,rfl⟩:=hc';rw[iL,aU] at hu;obtain⟨q,hq,rfl⟩:=hu;exact(l2 i y q hy (by simpa using hq)).fU
    exact wA (by simp[execOp,hop,resolve,hcal,Act.eval,Deferred.ofValue,invoke,qY hent]) hc hK hP
   ·cases ho
  ·rename_i t hcal;obtain⟨l,hl,ho⟩:=bf ho;cases ho;obtain⟨l1,l2⟩:=uu he hl;have hsz:l.length=c.args.size:=by simpa using l1
   split at h
   ·simp only[eo] at h;split at h
    ·rename_i g caps hg;have hgr:=he.at' t;simp only[fY.ev] at hg;rw[hg] at hgr;obtain⟨vs,hvs,hcl,hcv⟩:=hgr.rC;have hev:a.eval (.tmp t) = .func (.func g) #[] vs:=hvs;obtain⟨hent,hc⟩:=hC _ _ _ _ h;refine wA (by simp[execOp,hop,resolve,hcal,hev,Deferred.ofValue,invoke,qY hent]) (hc j w (c.args.map a.eval++vs) hr hG gr fun i c' u hc' hu=>?_) hK hP
     rcases bA i l.length with hi|hi
     ·rw[aO (by simpa using hi)] at hc'
      rw[cd gr] at hu
      grind
     grind
    ·cases h
   simp only[eo] at h;split at h
   ·rename_i g caps hg;have hgr:=he.at' t;simp only[fY.ev] at hg;rw[hg] at hgr;obtain⟨vs,hvs,hcl,hcv⟩:=hgr.rC;have hev:a.eval (.tmp t) = .func (.func g) #[] vs:=hvs
    obtain⟨hent,hc⟩:=rp (us:=c.args.map a.eval++vs) hC hr hG h gr fun i c' u hc' hu=>by
     rcases bA i l.length with hi|hi
     ·rw[aO (by simpa using hi),aX,aU] at hc'
      obtain⟨y,hy,rfl⟩:=hc';rw[cd gr,iL,aU] at hu;obtain⟨q,hq,rfl⟩:=hu;exact(l2 i y q hy (by simpa using hq)).fU
     grind
    exact wA (by simp[execOp,hop,resolve,hcal,hev,Deferred.ofValue,invoke,qY hent]) hc hK hP
   ·rename_i g fs hg;have hgr:=he.at' t;simp only[fY.ev] at hg;rw[hg] at hgr;obtain⟨vs,hvs,hcl,hcv⟩:=hgr.HB;have hev:a.eval (.tmp t) = .func (.func g) vs #[]:=hvs
    obtain⟨hent,hc⟩:=rp (us:=vs++c.args.map a.eval) hC hr hG h gr fun i c' u hc' hu=>by
     rcases bA i fs.length with hi|hi
     ·rw[aO hi] at hc';rw[cd aH] at hu;exact(hcv i c' u hc' hu).rep
     ·rw[bj hi,aX,aU] at hc';obtain⟨y,hy,rfl⟩:=hc';rw[Array.getElem?_append_right aH,iL,aU] at hu;obtain⟨q,hq,rfl⟩:=hu;rw[<-hcl] at hq;exact(l2 _ y q hy (by simpa using hq)).fU
    exact wA (by simp[execOp,hop,resolve,hcal,hev,Deferred.ofValue,invoke,qY hent]) hc hK hP
   ·rename_i rv hg;have hgr:=he.at' t;simp only[fY.ev] at hg;rw[hg] at hgr;split at h
    ·rename_i g;have hev:a.eval (.tmp t) = .func (.func g) #[] #[]:=hgr.Ob
     obtain⟨hent,hc⟩:=rp (us:=c.args.map a.eval) hC hr hG h (by simpa using l1) fun i c' u hc' hu=>by
      rw[aX,aU] at hc';obtain⟨y,hy,rfl⟩:=hc';rw[iL,aU] at hu;obtain⟨q,hq,rfl⟩:=hu;exact(l2 i y q hy (by simpa using hq)).fU
     exact wA (by simp[execOp,hop,resolve,hcal,hev,Deferred.ofValue,invoke,qY hent]) hc hK hP
    ·cases h
   ·cases h
  ·rename_i hcal;split at ho
   ·rename_i y ha ht;obtain⟨t,ht0,ht⟩:=dC.1 ht;obtain⟨z,hz,ho⟩:=bf ho;cases ho;exact ew (abv hr he hop hcal ha ht0 ht hz h) hK
   ·rename_i y e ha ht;obtain⟨t,ht0,ht⟩:=dC.1 ht;obtain⟨z,hz,ho⟩:=bf ho;cases ho;exact ew (abw hr he hop hcal ha ht0 ht hz h) hK
   ·rename_i y k e ha ht;obtain⟨t,ht0,ht⟩:=dC.1 ht;obtain⟨z,hz,ho⟩:=bf ho;cases ho;exact ew (abu hr he hop hcal ha ht0 ht hz h) hK
   ·cases ho
  ·rename_i hcal;split at ho
   ·rename_i y y' t t' ha hat;split at ho
    ·rename_i e e' ht ht';obtain⟨n,hn,ho⟩:=bf ho;obtain⟨z,hz,ho⟩:=bf ho;obtain⟨z',hz',ho⟩:=bf ho;split at ho
     ·rename_i hpos;cases ho;exact ew (WO hr he hop hcal ha hat ht ht' hn hpos hz hz' h) hK
     ·cases ho
    ·cases ho
   ·cases ho
  ·rename_i hcal;split at ho
   ·rename_i y y' t t' ha hat;split at ho
    ·rename_i e kn ht ht';obtain⟨i,hi,ho⟩:=bf ho;obtain⟨zv,hzv,ho⟩:=bf ho;obtain⟨l,hl,ho⟩:=bf ho;obtain⟨z,hz,ho⟩:=bf ho;obtain⟨z',hz',ho⟩:=bf ho;split at ho
     ·rename_i hc;obtain⟨d1,d2,d3,d4⟩:=hc;injection ho with hoo
      subst hoo;exact ew (Mm hr he hop hcal ha hat ht ht' hi hzv hl d1 d2 d3 d4 hz hz' h) hK
     ·cases ho
    ·rename_i e e' ht ht';obtain⟨i,hi,ho⟩:=bf ho;obtain⟨z,hz,ho⟩:=bf ho;obtain⟨z',hz',ho⟩:=bf ho;split at ho
     ·rename_i hc;cases ho;simp only[bz,bh] at hc;obtain⟨⟨⟨c1,c2⟩,c3⟩,c4⟩:=hc;obtain⟨zv,hzv,hzs⟩:=aU.1 c1;have hat':c.argTypes = #[t,t']:=by rw[<-hat]
      split at h
      ·split at h
       ·exact ew (Mj hr he hop hcal ha hat' ht ht' hi hzv hzs c2 c3 c4 hz hz' h) hK
       ·exact ew (Gr hr he hop hcal ha hat' ht ht' hi hzv hzs c2 c3 c4 hz hz' h) hK
      ·exact ew (Gr hr he hop hcal ha hat' ht ht' hi hzv hzs c2 c3 c4 hz hz' h) hK
     ·cases ho
    ·cases ho
   ·cases ho
  ·rename_i hcal;split at ho
   ·rename_i y t ha hat;split at ho
    ·rename_i e ht;obtain⟨i,hi,ho⟩:=bf ho;obtain⟨zv,hzv,ho⟩:=bf ho;obtain⟨l,hl,ho⟩:=bf ho;obtain⟨z,hz,ho⟩:=bf ho;split at ho
     ·rename_i hc;cases ho;exact ew (Qi hr he hop hcal ha hat ht hi hzv hl hc.1 hz h) hK
     ·cases ho
    ·cases ho
   ·cases ho
  ·rename_i hcal;split at ho
   ·rename_i y y' ha;obtain⟨z,hz,ho⟩:=bf ho;obtain⟨z',hz',ho⟩:=bf ho;cases ho;exact ew (Gs (mx:=true) hr he hop hcal ha hz hz' h) hK
   ·cases ho
  ·rename_i hcal;split at ho
   ·rename_i y y' ha;obtain⟨z,hz,ho⟩:=bf ho;obtain⟨z',hz',ho⟩:=bf ho;cases ho;exact ew (Gs (mx:=false) hr he hop hcal ha hz hz' h) hK
   ·cases ho
  ·cases ho
 case h_23 t hop =>
  cases ho;exact ew (WZ hr hop h) hK
 case h_24 t m k ok hop =>
  split at ho
  ·rename_i kt et ht;obtain⟨fk,hfk,ho⟩:=bf ho;obtain⟨ie,hi,ho⟩:=bf ho;obtain⟨zv,hzv,ho⟩:=bf ho;obtain⟨z,hz,ho⟩:=bf ho;obtain⟨m',hm,ho⟩:=bf ho;obtain⟨k',hk,ho⟩:=bf ho;cases ho;exact ew (abx hr he hop ht hfk hi hzv hz hm hk h) hK
  ·cases ho
 case h_25 t m k y hop =>
  split at ho
  ·rename_i kt et ht;obtain⟨fk,hfk,ho⟩:=bf ho;obtain⟨m',hm,ho⟩:=bf ho;obtain⟨k',hk,ho⟩:=bf ho;obtain⟨y',hy,ho⟩:=bf ho;cases ho;exact ew (Xa hr he (.inl hop) ht hfk hm hk (cZ he hy) h) hK
  ·cases ho
 case h_26 t y hop =>
  split at ho
  ·rename_i ht;obtain⟨z,hz,ho⟩:=bf ho;cases ho;exact ew (abB hr he hop ht hz h) hK
  ·cases ho
 case h_27 y hop =>
  obtain⟨z,hz,ho⟩:=bf ho;cases ho;exact ew (W6 hr he hop hz h) hK
 case h_28 t y hop =>
  obtain⟨z,hz,ho⟩:=bf ho;split at ho
  ·cases ho
  ·rename_i d hd hu;cases ho;exact ew (WV hr he hop hu (fun _=>hd _) hz h) hK
  ·cases ho
 case h_29 y hop =>
  obtain⟨z,hz,ho⟩:=bf ho;cases ho;obtain⟨u,h1,h2⟩:=W8 (P:=P) hr he hop hz h;exact .inr (.inr ⟨u,h1,hP u w h2⟩)
 case h_30 t m k y hop =>
  split at ho
  ·rename_i kt et ht;obtain⟨fk,hfk,ho⟩:=bf ho;obtain⟨m',hm,ho⟩:=bf ho;obtain⟨k',hk,ho⟩:=bf ho;obtain⟨y',hy,ho⟩:=bf ho;cases ho;exact ew (Xa hr he (.inr hop) ht hfk hm hk (Xb he hy) h) hK
  ·cases ho
 case h_31 t y y' hop =>
  split at ho
  ·rename_i e ht;obtain⟨i,hi,ho⟩:=bf ho;obtain⟨zv,hzv,ho⟩:=bf ho;obtain⟨l,hl,ho⟩:=bf ho;obtain⟨z,hz,ho⟩:=bf ho;split at ho
   ·rename_i hc;obtain⟨hyy,c1,c2,c3⟩:=hc;injection ho with hoo
    subst hoo;have hyy:=ab5 hyy;subst hyy;split at h
    ·split at h
     ·exact ew (aby hr he hop ht hi hzv hl hz c1 c2 c3 h) hK
     ·exact ew (W0 hr he hop ht hi hzv hl hz c1 c2 c3 h) hK
    ·exact ew (W0 hr he hop ht hi hzv hl hz c1 c2 c3 h) hK
   ·cases ho
  ·cases ho
 case h_32=>cases ho
end
section
variable {P:Program} {C:eL} {A:BX}
def xI(a:Act)(d:Option Nat)(v:Value):(a.put d v).tmps.size=a.tmps.size:=by cases d<;>simp[Act.put]
theorem put_defers(a:Act)(d:Option Nat)(v:Value):(a.put d v).defers=a.defers:=by cases d<;>rfl
theorem AW{ops:Array Oper}{g:Bool}{o:Oper}{x:dg}(h:MW P A ops g o=some x):Pa P A.own o=some x.op/\x.dst=o.dst/\x.grow=g/\(∀d,o.dst=some d->d<A.n) /\
  ((o.guard=none/\x.guard=none)\/∃k want t,o.guard=some (k,want)/\x.guard=some (t,want)/\(ops[k]?).bind (·.dst)=some t/\t<A.n):=by
 obtain⟨op,hop,h⟩:=bf h;split at h
 ·rename_i hd;have hd':∀d,o.dst=some d->d<A.n:=fun d e=>by grind [acA]
  split at h
  ·grind
  ·obtain⟨t,ht,h⟩:=bf h
   grind
 grind
def zw{ops:Array Oper}{o:Oper}{x:dg}{bp:Env}{M:aC}{j:J}{w:World}{a:Act}(he:cq j M w bp a)(hs:a.tmps.size=A.n)
  (hg:(o.guard=none/\x.guard=none)\/∃k want t,o.guard=some (k,want)/\x.guard=some (t,want)/\(ops[k]?).bind (·.dst)=some t/\t<A.n)
  (h:∀t want,x.guard=some (t,want)->hZ bp t = .bool want):Region.wanted o (yielded ops a.tmps)=true:=by
 unfold Region.wanted;rcases hg with ⟨h1,_⟩|⟨k,want,t,h1,h2,h3,h4⟩
 ·rw[h1]
 ·have hv:=he.at' t;rw[h t _ h2] at hv;have hv:=hv.jE;simp_all [yielded]
theorem GN{ops:Array Oper}{o:Oper}{x:dg}{bp:Env}{M:aC}{j:J}{w:World}{a:Act}(he:cq j M w bp a)(hs:a.tmps.size=A.n)
  (hg:(o.guard=none/\x.guard=none)\/∃k want t,o.guard=some (k,want)/\x.guard=some (t,want)/\(ops[k]?).bind (·.dst)=some t/\t<A.n)
  {t:Nat} {want:Bool} (hx:x.guard=some (t,want)) (h:hZ bp t = .bool (!want)\/hZ bp t = .tuple []):Region.wanted o (yielded ops a.tmps)=false:=by
 unfold Region.wanted;rcases hg with ⟨_,h1⟩|⟨k,want',t',h1,h2,h3,h4⟩
 ·grind
 ·rw[h2] at hx;injection hx with hx
  injection hx with e1 e2
  subst e1; subst e2;rw[h1];have hv:=he.at' t';have hget:a.tmps[t']?=some (a.tmps.getD t' undef):=by simp_all
  rcases h with h|h
  ·rw[h] at hv;rw[hv.jE] at hget;cases want'<;>simp[yielded,h3,hget]
  ·rw[h] at hv;obtain⟨vs,hvs,hl,_⟩:=hv.tW
   grind [yielded]
def FC{x:dg}{bp:Env}{M:aC}{y:ag×aC}(h:qv C x bp M=some y):eo C bp M x.op=some y:=by
 rcases r9 h with ⟨_,_,h⟩|⟨_,_,h⟩|⟨_,_,_,h⟩<;>exact h
def rS:ace->Exit
 | .normal => .normal
 | .exit i => .exit i
 | .ret => .ret
 | .nH v => .panic [{ v,recovered:=false }]
def gk.Mh{j:J}{M:aC}{w:World}{u v:Value}(h:gk j M w (.nH u) v):False:=by
 cases h with
 |plain h=>cases h
def cq.nil{j j':J}{M M':aC}{w w':World}{bp:Env}{a:Act}(h:cq j M w bp a)(hx:Ext j M w j' M' w'):cq j' M' w' [] a:=⟨fun _ => .any _,h.gl.mono hx⟩
theorem yj(hC:ny P C){r:Option Nat}{n:Nat}{ops:Array Oper}{Q:Exit->Act->World->Prop}:∀ {grow:List Bool} (l:List Oper) (k:Nat),ops.toList.drop k=l->∀ {al:List dg},ub P A ops grow l=some al ->
  ∀ {bp:Env} {M:aC} {x:Out},gu C al bp M=some x->∀ {j:J} {w:World} {a:Act},Rel j M w->sW j M w->cq j M w bp a->a.tmps.size=A.n ->
  (∀a' w' j',Rel j' x.mem w'->cq j' x.mem w' x.bp a'->Ext j M w j' x.mem w'->a'.tmps.size=A.n->a'.defers=a.defers->Q (rS x.e) a' w')->wpOpsIn (Wd r) n P ops Q (List.range' k l.length) a w
 |grow,[],k,hk,al,hal,bp,M,x,hx,j,w,a,hr,hG,he,hs,hQ=>by
  simp only[ub] at hal; cases hal;simp only[gu] at hx; cases hx;exact hQ a w j hr he (Ext.refl j M w) hs rfl
 |grow,o::rs,k,hk,al,hal,bp,M,x,hx,j,w,a,hr,hG,he,hs,hQ=>by
  simp only[ub] at hal;obtain⟨xo,hxo,hal⟩:=bf hal;obtain⟨xr,hxr,hal⟩:=bf hal;cases hal;obtain⟨h1,h2,h3,h4,h5⟩:=AW hxo
  have hko:ops[k]?=some o:=by
   have:(ops.toList.drop k)[0]?=some o:=by rw[hk]; rfl
   rw[cS] at this
   grind
  have hkr:ops.toList.drop (k+1)=rs:=by
   rw[<-List.drop_drop,hk]; rfl
  simp only[au,nJ,wpOpsIn,hko];rcases p9 hx with ⟨y,g1,g2,⟨hnp,g3⟩|⟨u0,_,g3,rfl⟩⟩|⟨t,want,g1,g2,g3⟩
  ·rw[aZ (zw he hs h5 g1)];refine tY.wpIn (KP:=fun _ _=>False) (Af h1) (Ew hC h1 (FC g2) hr hG he ?_ ?_) fun u w' h=>h.elim
   ·rintro v w' ⟨j',q1,q2,q3⟩;refine yj hC rs (k+1) hkr hxr (x:=x) (by rw[<-h2]; omega) q1 (hG.mono q2) ((he.mono q2).put hs h4 aH) (by rw[xI]; omega) fun a' w'' j'' p1 p2 p3 p4 p5=>?_
    exact hQ a' w'' j'' p1 p2 (q2.trans p3) p4 (p5.trans (put_defers _ _ _))
   ·rintro u w' ⟨hu,_⟩;rw[hu] at hnp; cases hnp
  ·rw[aZ (zw he hs h5 g1)];refine tY.wpIn (KP:=fun u w'=>u=u0/\∃j',Rel j' y.2 w'/\Ext j M w j' y.2 w') (Af h1) (Ew hC h1 (FC g2) hr hG he ?_ ?_) ?_
   ·rintro v w' ⟨j',q1,q2,q3⟩;rw[g3] at q3;exact q3.Mh.elim
   ·rintro u w' ⟨hu,h⟩;rw[g3] at hu; grind
   ·rintro u w' ⟨rfl,j',q1,q2⟩;exact hQ a w' j' q1 (he.nil q2) q2 hs rfl
  ·rw[aQ (by rw[GN he hs h5 g1 g2]; simp)]
   refine⟨fun _ _=>trivial,?_⟩
   refine yj hC rs (k+1) hkr hxr (x:=x) (by rw[<-h2]; omega) hr hG (he.put hs h4 (.tuple (vs := #[]) rfl fun i c v h=>dw)) (by rw[xI]; omega) fun a' w'' j'' p1 p2 p3 p4 p5=>?_
   grind [put_defers]
theorem zj{acc:List Nat}{i:Nat}:∀ {es:List Edge},(xA acc es).testBit i=true->∃e,e∈es/\Region.binds .any e=true/\(e.on=i\/((nth acc e.on).getD 0).testBit i=true)
 | [],h=>by grind [xA]
 |e::r,h=>by
  rw[xA] at h;split at h
  ·rw[nb,nb,dh,dh] at h;rcases h with h|h|h
   ·obtain⟨e',h1,h2,h3⟩:=zj h
    grind
   ·grind
   grind
  ·obtain⟨e',h1,h2,h3⟩:=zj h
   grind
theorem Dt:∀(l:List Oper)(acc:List Nat),acc <+: Ds l acc/\∀(m:Nat)(o:Oper),l[m]?=some o->(Ds l acc)[acc.length+m]?=some (xA ((Ds l acc).take (acc.length+m)) o.after.toList)
 | [],acc=>⟨lY _,fun m o h=>jO⟩
 |p::r,acc=>by
  rw[Ds];obtain⟨h1,h2⟩:=Dt r (acc++[xA acc p.after.toList]);have h3  := (List.prefix_append _ _).trans h1;refine⟨h3,fun m o hm=>?_⟩
  cases m with
  |zero =>
   simp at hm; obtain⟨t,ht⟩:=h1
   grind
  |succ m =>
   grind
def Dj{ops:List Oper}{i k:Nat}{o:Oper}(hk:ops[k]?=some o)(cQ:∀e,e∈o.after.toList->Region.binds .any e=true->e.on<k)(h:ahead (rl ops) i k=true) :
  ∃e,e∈o.after.toList/\Region.binds .any e=true/\e.on<k/\(e.on=i\/ahead (rl ops) i e.on=true):=by
 have h1:=(Dt _ []).2 k o hk;simp at h1;unfold ahead at h;rw[fe,show rl _=Ds _ _ from rfl,h1] at h
 obtain⟨e,h2,h3,h4⟩:=zj h;have h5:=cQ e h2 h3;refine⟨e,h2,h3,h5,h4.imp id fun h=>?_⟩
 rw[fe,bG h5] at h;unfold ahead;rw[fe];exact h
def Down(ops:Array Oper)(L:Nat->Bool):Prop:=∀(k:Nat)(o:Oper)(e:Edge),ops[k]?=some o->L k=true->e∈o.after.toList->Region.binds .any e=true->L e.on=true
theorem Dk{ops:Array Oper}{L:Nat->Bool}(hd:Down ops L)(cQ:∀(k:Nat)(o:Oper)(e:Edge),ops[k]?=some o->e∈o.after.toList->Region.binds .any e=true->e.on<k) :
  ∀(k:Nat){i:Nat},ahead (rl ops.toList) i k=true->k<ops.size->L k=true->L i=true:=by
 intro k;induction k using Nat.strongRecOn with
 |_ k ih =>
  intro i h hk hL;have ho  := bg hk;obtain⟨e,h1,h2,h3,h4⟩:=Dj dw (fun e h1 h2=>cQ k _ e ho h1 h2) h
  have h5:=hd k _ e ho hL h1 h2
  grind
theorem Ik{ops:Array Oper}{L:Nat->Bool}(hd:Down ops L)(cQ:∀(k:Nat)(o:Oper)(e:Edge),ops[k]?=some o->e∈o.after.toList->Region.binds .any e=true->e.on<k)
  {k i:Nat} {o:Oper} (ho:ops[k]?=some o) (hr:∀e,e∈o.after.toList->Region.binds .any e=true->L e.on=true) (h:ahead (rl ops.toList) i k=true):L i=true:=by
 obtain⟨e,h1,h2,h3,h4⟩:=Dj jO (fun e h1 h2=>cQ k _ e ho h1 h2) h
 have h5:=hr e h1 h2;rcases h4 with rfl|h4
 ·omega
 grind [Dk]
theorem cR{bp env':Env}{x:fY}(h:∀t,t∈x.mb->hZ bp t=hZ env' t):x.ev bp=x.ev env':=by
 cases x with
 |tmp t=>exact h t (by simp[fY.mb])
 |ti v=>rfl
theorem nU{bp env':Env}:∀ {l:List fY},(∀t,t∈l.flatMap fY.mb->hZ bp t=hZ env' t)->∀x,x∈l->x.ev bp=x.ev env':=by grind [cR]
def sA{bp env':Env}{n:Nat}{x:Option fY}(h:∀t,t∈BB x->hZ bp t=hZ env' t):gA bp n x=gA env' n x:=by
 cases x with
 |none=>rfl
 |some x=>unfold gA; simp only; rw[cR h]
theorem DM{bp env':Env}:∀ {ps:List (Nat×Nat×fY)} {cs:List ag},(∀p,p∈ps->p.2.2.ev bp=p.2.2.ev env')->mo bp cs ps=mo env' cs ps
 | [],cs,_=>rfl
 |(off,n,x)::r,cs,h=>by
  unfold mo;rw[h (off,n,x) dw];congr 1;funext new;split
  ·exact DM fun p hp=>h p jO
  rfl
def zi{bp env':Env}{sz:Nat}:∀ {ps:List fY},(∀p,p∈ps->p.ev bp=p.ev env')->tc bp sz ps=tc env' sz ps
 | [],_=>rfl
 |x::r,h=>by
  unfold tc;rw[h x dw,zi fun p hp=>h p jO]
theorem Fz{bp env':Env}{M:aC}{op:kG}(h:∀t,t∈op.mb->hZ bp t=hZ env' t):eo C bp M op=eo C env' M op/\op.eF bp=op.eF env':=by
 cases op<;>simp only[kG.mb,bo] at h
 case mv x=>simp[eo,kG.eF,cR h]
 case own n x=>simp[eo,kG.eF,cR h]
 case pick c x y=>grind [eo,kG.eF,cR]
 case yX cs=>simp[eo,kG.eF]
 case box x=>simp[eo,kG.eF,cR h]
 case FF f l =>
  have:(l.map fun x=>(x.ev bp).fU)=l.map fun x=>(x.ev env').fU:=cT fun x hx=>by rw[nU h x hx]
  simp only[eo,kG.eF,this,jw]
 case build z ps=>grind [eo,kG.eF,DM,cR]
 case lits n ps=>simp[eo,kG.eF,zi (ps:=ps) (nU h)]
 case Gk n ps=>simp[eo,kG.eF,zi (ps:=ps) (nU h)]
 case mM n x=>simp[eo,kG.eF,cR h]
 case rE x=>simp[eo,kG.eF,cR h]
 case store n x y=>simp[eo,kG.eF,cR (x:=x) fun t ht=>h t (.inl ht),cR (x:=y) fun t ht=>h t (.inr ht)]
 case BM sz p n x y=>simp[eo,kG.eF,cR (x:=x) fun t ht=>h t (.inl ht),cR (x:=y) fun t ht=>h t (.inr ht)]
 case chk x=>simp[eo,kG.eF,cR h]
 case bin b x y=>grind [eo,kG.eF,cR]
 case Q6 ks n x y=>grind [eo,kG.eF,cR]
 case eqB n x y=>simp[eo,kG.eF,cR (x:=x) fun t ht=>h t (.inl ht),cR (x:=y) fun t ht=>h t (.inr ht)]
 case not x=>simp[eo,kG.eF,cR h]
 case neg x=>simp[eo,kG.eF,cR h]
 case conv k x=>simp[eo,kG.eF,cR h]
 case same x=>simp[eo,kG.eF,cR h]
 case fn f l=>simp only[eo,kG.eF,cT (nU h),jw]
 case BI x lo hi =>
  simp only[eo,kG.eF,cR (x:=x) fun t ht=>h t (.inl ht),sA (bp:=bp) (env':=env') (x:=lo) fun t ht=>h t (.inr (.inl ht)),and_true]
  split
  ·rw[sA (x:=hi) fun t ht=>h t (.inr (.inr ht))]
  ·rfl
 case uA n x lo hi mx =>
  simp only[eo,kG.eF,cR (x:=x) fun t ht=>h t (.inl ht),sA (bp:=bp) (env':=env') (x:=lo) fun t ht=>h t (.inr (.inl ht)),and_true]
  split
  ·rw[sA (x:=hi) fun t ht=>h t (.inr (.inr (.inl ht)))]
   cases mx with
   |none=>rfl
   |some m=>simp only[cR (x:=m) fun t ht=>h t (.inr (.inr (.inr ht)))]
  ·rw[sA (x:=hi) fun t ht=>h t (.inr (.inr (.inl ht)))]
   cases mx with
   |none=>rfl
   |some m=>simp only[cR (x:=m) fun t ht=>h t (.inr (.inr (.inr ht)))]
  ·rfl
 case yF n x=>simp[eo,kG.eF,cR h]
 case DL p n x=>simp[eo,kG.eF,cR h]
 case DK p x=>simp[eo,kG.eF,cR h]
 case ui n x y=>simp[eo,kG.eF,cR (x:=x) fun t ht=>h t (.inl ht),cR (x:=y) fun t ht=>h t (.inr ht)]
 case Bi m n x y=>simp[eo,kG.eF,cR (x:=x) fun t ht=>h t (.inl ht),cR (x:=y) fun t ht=>h t (.inr ht)]
 case Bj x y=>grind [eo,kG.eF,cR]
 case extract x i=>simp[eo,kG.eF,cR h]
 case call f l =>
  have:(l.map fun x=>(x.ev bp).fU)=l.map fun x=>(x.ev env').fU:=cT fun x hx=>by rw[nU h x hx]
  simp only[eo,kG.eF,this,jw]
 case sB f l =>
  have:(l.map fun x=>(x.ev bp).fU)=l.map fun x=>(x.ev env').fU:=cT fun x hx=>by rw[nU (fun t ht=>h t (.inr ht)) x hx]
  simp only[eo,kG.eF,this,cR (x:=f) fun t ht=>h t (.inl ht),jw]
 case B5 f l=>simp only[eo,kG.eF,cT (nU fun t ht=>h t (.inr ht)),cR (x:=f) fun t ht=>h t (.inl ht),jw]
 case B4 f l=>simp only[eo,kG.eF,cT (nU h),jw]
 case wE f l =>
  have:(l.map fun x=>(x.ev bp).fU)=l.map fun x=>(x.ev env').fU:=cT fun x hx=>by rw[nU h x hx]
  simp only[eo,kG.eF,this,jw]
 case xe n z x=>simp[eo,kG.eF,cR h]
 case lk f l =>
  have h1:(l.map fun x=>((x.ev bp).rz M).fU)=l.map fun x=>((x.ev env').rz M).fU:=cT fun x hx=>by rw[nU h x hx]
  have h2:l.map (fY.ev bp)=l.map (fY.ev env'):=cT (nU h);simp only[eo,kG.eF,h1,h2,jw]
 case V5 x=>simp[eo,kG.eF,cR h]
 case Aa x=>simp[eo,kG.eF,cR h]
 case Pn n x y=>simp[eo,kG.eF,cR (x:=x) fun t ht=>h t (.inl ht),cR (x:=y) fun t ht=>h t (.inr ht)]
 case append n b x y=>simp[eo,kG.eF,cR (x:=x) fun t ht=>h t (.inl ht),cR (x:=y) fun t ht=>h t (.inr ht)]
 case wb n b x y=>simp[eo,kG.eF,cR (x:=x) fun t ht=>h t (.inl ht),cR (x:=y) fun t ht=>h t (.inr ht)]
 case b2s x=>simp[eo,kG.eF,cR h]
 case mkMap=>simp[eo,kG.eF]
 case look fk z ok x y=>grind [eo,kG.eF,cR]
 case gH fk c x y=>grind [eo,kG.eF,cR]
 case P0 x=>simp[eo,kG.eF,cR h]
 case QF x=>simp[eo,kG.eF,cR h]
 case Gq x=>simp[eo,kG.eF,cR h]
 case Bw m x y=>simp[eo,kG.eF,cR (x:=x) fun t ht=>h t (.inl ht),cR (x:=y) fun t ht=>h t (.inr ht)]
 case xX a b c x y=>grind [eo,kG.eF,cR]
 case FM a x y=>simp[eo,kG.eF,cR (x:=x) fun t ht=>h t (.inl ht),cR (x:=y) fun t ht=>h t (.inr ht)]
 case O8 a=>simp[eo,kG.eF]
 case mkS z x=>simp[eo,kG.eF,cR h]
 case Qd z x=>simp[eo,kG.eF,cR h]
 case iface t x=>simp[eo,kG.eF,cR h]
 case raise x=>simp[eo,kG.eF,cR h]
theorem zK{f:Nat}{vs:List ag}{M:aC}{x:ag×aC}(h:aR C f vs M=some x)(hn:vs.flatMap ag.ids=[]):x.2=M/\∀M2,aR C f vs M2=some (x.1,M2):=by
 have hre:∀M,reach M []=[]:=fun M=>rfl
 unfold aR at h;rw[hn,hre] at h;split at h
 ·rename_i hf;obtain⟨B,hB,h⟩:=bm h;simp only[j7] at hB;cases hB;split at h
  ·obtain⟨y,hy,h⟩:=bm h;split at h
   ·rename_i hc;cases h;have hy2:y.2=[]:=dI hc.1;refine⟨by simp[mc],fun M2=>?_⟩
    unfold aR;rw[hn,hre,aZ hf];simp only[j7,bN];rw[aZ (show kE M2 []=[] from rfl),hy,bN,aZ hc,hy2]
    simp[mc]
   ·cases h
  ·cases h
 ·cases h
theorem Ir{op:kG}(hc:op.xm=true){bp:Env}{M:aC}{x:ag×aC}(h:eo C bp M op=some x)(hn:op.eF bp=[]):x.2=M/\∀M2,eo C bp M2 op=some (x.1,M2):=by
 cases op<;>simp only[kG.xm,af] at hc
 case call f l =>
  grind [eo,kG.eF,zK]
 case sB f l =>
  simp only[eo,kG.eF] at h hn ⊢;split at h<;>grind [zK]
theorem N5{op:kG}(he:op.Q7=false)(hl:op.Q8=false){bp:Env}{M:aC}{x:ag×aC}(h:eo C bp M op=some x):x.2=M/\∀M2,eo C bp M2 op=some (x.1,M2):=by
 cases op<;>simp only[kG.Q7,kG.Q8,reduceCtorEq] at he hl<;>simp only[eo] at h ⊢
 case BI y lo hi =>
  split at h
  ·rename_i s e;obtain⟨hh,h1,h⟩:=bm h;obtain⟨l,h2,h⟩:=bm h;obtain⟨hp,h⟩:=dq h;cases h;simp_all
  ·cases h
 case uA n y lo hi mx =>
  split at h
  ·rename_i tk xs e;obtain⟨hw,h⟩:=dq h;obtain⟨hh,h1,h⟩:=bm h;obtain⟨l,h2,h⟩:=bm h;split at h
   ·obtain⟨hp,h⟩:=dq h;cases h;simp_all
   ·split at h
    ·rename_i k m em;obtain⟨hp,h⟩:=dq h;rcases lI h with ⟨hb,h⟩|⟨hb,h⟩<;>(cases h)
     ·simp_all
     ·exact⟨rfl,fun M2=>by rw[fh hw]; simp only[h1,h2,bN,hb,qm]; exact fh hp⟩
    ·cases h
  ·rename_i id v0 sz' al ah e;obtain⟨hw,h⟩:=dq h;obtain⟨hh,h1,h⟩:=bm h;obtain⟨l,h2,h⟩:=bm h;split at h
   ·obtain⟨hp,h⟩:=dq h;rcases lI h with ⟨hb,h⟩|⟨hb,h⟩<;>(cases h)
    ·simp_all
    ·exact⟨rfl,fun M2=>by rw[fh hw]; simp only[h1,h2,bN,hb,qm]; exact fh hp⟩
   ·split at h
    ·rename_i k m em;obtain⟨hp,h⟩:=dq h;rcases lI h with ⟨hb,h⟩|⟨hb,h⟩
     ·cases h;simp_all
     ·rcases lI h with ⟨hb2,h⟩|⟨hb2,h⟩<;>(cases h)
      ·exact⟨rfl,fun M2=>by rw[fh hw]; grind [bN,vO,qm,fh]⟩
      ·exact⟨rfl,fun M2=>by rw[fh hw]; grind [bN,qm,fh]⟩
    ·cases h
  ·cases h
 case Pn n y i =>
  split at h
  ·obtain⟨hp,h⟩:=dq h;cases h;exact⟨rfl,fun _=>aZ hp⟩
  ·cases h
 case ui n y i =>
  split at h
  ·obtain⟨hp,h⟩:=dq h;obtain⟨e,h1,h⟩:=bm h;split at h
   ·rename_i hw;cases h;simp_all
   ·cases h
  ·obtain⟨hp,h⟩:=dq h;cases h;exact⟨rfl,fun M2=>by rw[fh hp]⟩
  ·cases h
 case Bi m n y i =>
  split at h
  ·obtain⟨hp,h⟩:=dq h;cases h;exact⟨rfl,fun M2=>by rw[fh hp]⟩
  ·obtain⟨hp,h⟩:=dq h;cases h;exact⟨rfl,fun M2=>by rw[fh hp]⟩
  ·cases h
 case FF f l =>
  grind
 case Bj y i =>
  split at h
  ·obtain⟨hp,h⟩:=dq h;obtain⟨e,h1,h⟩:=bm h;cases h;exact⟨rfl,fun M2=>by rw[fh hp,h1,bN]⟩
  ·cases h
 case pick c y z =>
  split at h
  ·rcases lI h with ⟨rfl,h⟩|⟨rfl,h⟩<;>(cases h; exact⟨rfl,fun _=>rfl⟩)
  ·cases h
 case lits n ps =>
  obtain⟨l,h1,h⟩:=bm h;cases h;exact⟨rfl,fun M2=>by rw[h1,bN]⟩
 case iface t y =>
  split at h
  ·cases h;exact⟨rfl,fun M2=>rfl⟩
  ·obtain⟨v,hv,h⟩:=bm h;cases h;exact⟨rfl,fun M2=>by rw[hv]; rfl⟩
 case mkS z y =>
  split at h
  ·obtain⟨hp,h⟩:=dq h;cases h;exact⟨rfl,fun M2=>fh hp⟩
  ·cases h
 case raise y =>
  grind
 all_goals first
  |(cases h; exact⟨rfl,fun _=>rfl⟩)
  |(obtain⟨_,ha,h⟩:=bm h; cases h; exact⟨rfl,fun _=>by rw[ha]; rfl⟩)
  |(split at h<;>first
    |(cases h; exact⟨rfl,fun _=>rfl⟩)
    |(obtain⟨_,ha,h⟩:=bm h; cases h; exact⟨rfl,fun _=>by rw[ha]; rfl⟩)
    |cases h
    |grind)
theorem J7{M M2:aC}{id:Nat}{b:cV}(hp:M <+: M2\/M2 <+: M)(hid:id<M2.length)(hb:nth M id=some b):nth M2 id=some b:=by
 rw[fe] at hb ⊢;rcases hp with ⟨t,rfl⟩|⟨t,rfl⟩
 ·rw[aO (aN hb)]; omega
 grind
theorem JN{op:kG}(hl:op.Q8=true){bp:Env}{M:aC}{x:ag×aC}(h:eo C bp M op=some x):x.2=M /\
  ∀ {M2:aC} (z:fY),(∀id b,id∈(z.ev bp).iH->id<M2.length->nth M id=some b->nth M2 id=some b)->∀ {j:J} {w:World} {v:Value},(op = .rE z\/(∃n,op = .mM n z)\/∃fk zr ok k,op = .look fk zr ok z k)->gk j M2 w (z.ev bp) v->eo C bp M2 op=some (x.1,M2):=by
 cases op<;>simp only[kG.Q8,af] at hl
 case mM n y =>
  simp only[eo] at h ⊢;split at h
  ·rename_i id off e;split at h
   ·rename_i cs hM;split at h
    ·rename_i hle;cases h;refine⟨rfl,fun {M2} z hp {j w v} hz hr=>?_⟩
     have:z=y:=by rcases hz with hz|⟨n',hz⟩|⟨_,_,_,_,hz⟩<;>cases hz<;>rfl
     subst this;rw[e] at hr;obtain⟨b,hid,_⟩:=hr.qq;rw[hp _ _ (by rw[e]; simp[ag.iH]) hid hM]
     simp only;rw[aZ hle]
    ·cases h
   ·cases h
  ·grind
  ·rename_i id ver i off e;split at h
   ·rename_i sz v0 xs hM;split at h
    ·rename_i hv0;obtain⟨el,hel,h⟩:=bm h;split at h
     ·rename_i hle;cases h;refine⟨rfl,fun {M2} z hp {j w v} hz hr=>?_⟩
      have:z=y:=by rcases hz with hz|⟨n',hz⟩|⟨_,_,_,_,hz⟩<;>cases hz<;>rfl
      subst this;rw[e] at hr;obtain⟨_,hid,_⟩:=hr.sF;rw[hp _ _ (by rw[e]; simp[ag.iH]) hid hM]
      simp only[hel,bN];rw[aZ hv0,aZ hle]
     ·cases h
    ·cases h
   ·cases h
  ·cases h
 case rE y =>
  simp only[eo] at h ⊢;split at h
  ·rename_i id off e;split at h
   ·rename_i cs hM;obtain⟨c,hc,h⟩:=bm h;cases h;refine⟨rfl,fun {M2} z hp {j w v} hz hr=>?_⟩
    have:z=y:=by rcases hz with hz|⟨n',hz⟩|⟨_,_,_,_,hz⟩<;>cases hz<;>rfl
    subst this;rw[e] at hr;obtain⟨b,hid,_⟩:=hr.qq;rw[hp _ _ (by rw[e]; simp[ag.iH]) hid hM]
    simp only[hc,bN]
   ·cases h
  ·obtain⟨c,hc,h⟩:=bm h;cases h;exact⟨rfl,fun {M2} hp {j w v} z hz hr=>by simp only[hc,bN]⟩
  ·rename_i id ver i off e;split at h
   ·rename_i sz v0 xs hM;split at h
    ·rename_i hv0;obtain⟨el,hel,h⟩:=bm h;obtain⟨c,hc,h⟩:=bm h;cases h;refine⟨rfl,fun {M2} z hp {j w v} hz hr=>?_⟩
     have:z=y:=by rcases hz with hz|⟨n',hz⟩|⟨_,_,_,_,hz⟩<;>cases hz<;>rfl
     subst this;rw[e] at hr;obtain⟨_,hid,_⟩:=hr.sF;rw[hp _ _ (by rw[e]; simp[ag.iH]) hid hM]
     simp only[hel,hc,bN];rw[aZ hv0]
    ·cases h
   ·cases h
  ·cases h
 case look fk zr ok y k =>
  simp only[eo] at h ⊢;obtain⟨e,he,h⟩:=bm h;obtain⟨r,hr',h⟩:=bm h;cases h;refine⟨rfl,fun {M2} z hp {j w v} hz hr=>?_⟩
  have:z=y:=by rcases hz with hz|⟨n',hz⟩|⟨_,_,_,_,hz⟩<;>cases hz<;>rfl
  subst this
  have:mapOf M2 (z.ev bp)=some e:=by
   unfold mapOf at he ⊢;split at he
   ·rename_i id e0;rw[e0] at hr;obtain⟨b,⟨ks,vs,hm⟩,_⟩:=hr.vM;split at he
    ·rename_i ks' vs' hM;rw[hp _ _ (by rw[e0]; simp[ag.iH]) (aN hm) hM]
     exact he
    ·cases he
   ·exact he
   ·cases he
  rw[this,bN,hr',bN]
end
section
variable {P:Program} {C:eL} {A:BX}
def KR(C:eL)(o:dg)(bp:Env)(M:aC)(v:ag)(M':aC):Prop :=
 ((∀t want,o.guard=some (t,want)->hZ bp t = .bool want)/\qv C o bp M=some (v,M')) \/
 (∃t want,o.guard=some (t,want)/\(hZ bp t = .bool (!want)\/hZ bp t = .tuple [])/\v = .tuple []/\M'=M)
def o9(bp:Env)(l:List dg)(vals:Nat->ag)(L:Nat->Bool):Nat->Env
 |0=>bp
 |k+1=>match l[k]? with
  |some o=>if L k then rH (o9 bp l vals L k) o.dst (vals k) else o9 bp l vals L k
  |none=>o9 bp l vals L k
theorem A5(bp:Env)(o:dg)(r:List dg)(vals:Nat->ag):∀k,o9 bp (o::r) vals (fun _=>true) (k+1)=o9 (rH bp o.dst (vals 0)) r (fun i=>vals (i+1)) (fun _=>true) k
 |0=>rfl
 |k+1=>by
  rw[o9,A5 _ o r _ k];rfl
def acj(l:List dg)(bp:Env)(vals:Nat->ag)(mems:Nat->aC)(N:Nat)(x:Out):Prop :=
 (N=l.length/\(∀k,k<N->(vals k).jr=false)/\x=⟨.normal,o9 bp l vals (fun _=>true) N,mems N⟩) \/
 ∃n y v,N=n+1/\l[n]?=some y/\y.lets=true/\vals n = .nH v/\(∀k,k<n->(vals k).jr=false)/\x=⟨.nH v,[],mems N⟩
theorem trace:∀ {l:List dg} {bp:Env} {M:aC} {x:Out},gu C l bp M=some x->∃(N:Nat) (vals:Nat->ag) (mems:Nat->aC),N<=l.length/\mems 0=M /\
  (∀(k:Nat)(o:dg),k<N->l[k]?=some o->KR C o (o9 bp l vals (fun _=>true) k) (mems k) (vals k) (mems (k+1)))/\acj l bp vals mems N x
 | [],bp,M,x,h=>by
  simp only[gu] at h; injection h with h
  exact⟨0,fun _ => .any,fun _=>M,av _,rfl,fun k o hk=>dw,.inl ⟨rfl,fun k hk=>by rfl,h.symm⟩⟩
 |o::r,bp,M,x,h=>by
  have key:∀(v:ag)(M':aC),KR C o bp M v M'->v.jr=false->gu C r (rH bp o.dst v) M'=some x->∃(N:Nat) (vals:Nat->ag) (mems:Nat->aC),N<=(o::r).length/\mems 0=M /\
    (∀(k:Nat)(p:dg),k<N->(o::r)[k]?=some p->KR C p (o9 bp (o::r) vals (fun _=>true) k) (mems k) (vals k) (mems (k+1)))/\acj (o::r) bp vals mems N x:=by
   intro v M' hs hnp hr;obtain⟨N,vals,mems,h0,h1,h2,h3⟩:=trace hr;refine⟨N+1,fun i=>match i with|0=>v|i+1=>vals i,fun i=>match i with|0=>M|i+1=>mems i,by simpa using h0,rfl,fun k p hk hp=>?_,?_⟩
   ·grind [o9,A5]
   ·have np:∀n,(∀k,k<n->(vals k).jr=false)->∀k,k<n+1->((fun i=>match i with|0=>v|i+1=>vals i:Nat->ag) k).jr=false:=by
     grind
    rcases h3 with ⟨e1,e2,e3⟩|⟨n,y,u,e1,e2,e3,e4,e5,e6⟩
    ·refine .inl ⟨by simp[e1],np N e2,?_⟩
     rw[A5]; omega
    ·exact .inr ⟨n+1,y,u,by rw[e1],by simpa using e2,e3,e4,np n e5,e6⟩
  rcases p9 h with ⟨y,h1,h2,⟨h3,h4⟩|⟨v,h3,h4,rfl⟩⟩|⟨t,want,h1,h2,h3⟩
  ·exact key y.1 y.2 (.inl ⟨h1,h2⟩) h3 h4
  ·refine⟨1,fun _=>y.1,fun i=>match i with|0=>M|_=>y.2,dw,rfl,fun k p hk hp=>?_,.inr ⟨0,o,v,rfl,rfl,h3,h4,fun k hk=>aH,rfl⟩⟩
   have:k=0:=aH;subst this;simp at hp; subst hp;exact .inl ⟨h1,h2⟩
  ·exact key (.tuple []) M (.inr ⟨t,want,h1,h2,rfl,rfl⟩) rfl h3
section
variable {bp:Env} {l:List dg} {vals:Nat->ag} {L L':Nat->Bool} {t:Nat}
def wr(l:List dg)(k t:Nat):Prop:=∃o,l[k]?=some o/\o.dst=some t
theorem M9(k:Nat)(h:wr l k t)(hL:L k=true):hZ (o9 bp l vals L (k+1)) t=vals k:=by
 obtain⟨o,h1,h2⟩:=h;rw[o9];simp_all [rH,hZ]
theorem A6(k:Nat)(h:¬(wr l k t/\L k=true)):hZ (o9 bp l vals L (k+1)) t=hZ (o9 bp l vals L k) t:=by
 rw[o9];split
 ·rename_i o ho;split
  ·rename_i hk;unfold rH;split
   ·rename_i d hd;rw[hZ,aQ];rintro rfl;exact h ⟨⟨o,ho,hd⟩,hk⟩
   rfl
  rfl
 rfl
def vE{i:Nat}:∀n,i<=n->(∀k,i<=k->k<n->¬(wr l k t/\L k=true))->hZ (o9 bp l vals L n) t=hZ (o9 bp l vals L i) t
 |0,hi,_=>by rw[show i=0 by omega]
 |n+1,hi,h=>by
  by_cases he:i=n+1
  ·rw[he]
  ·rw[A6 n (h n aH dw)];exact vE n aH fun k h1 h2=>h k h1 aH
theorem x9:∀n,(∀k,k<n->wr l k t->L k=L' k)->hZ (o9 bp l vals L n) t=hZ (o9 bp l vals L' n) t
 |0,_=>rfl
 |n+1,h=>by
  have ih:=x9 n fun k hk=>h k aH
  by_cases hw:wr l n t
  ·cases hL:L n<;>grind [M9,A6]
  grind [A6]
end
def left(L:Nat->Bool):Nat->Nat
 |0=>0
 |k+1=>left L k+if L k then 0 else 1
theorem Gi{L:Nat->Bool}:∀ {n},left L n=0->∀k,k<n->L k=true
 |0,_,k,hk=>aH
 |n+1,h,k,hk=>by
  rw[left] at h
  by_cases he:k=n
  ·grind
  ·exact Gi (n:=n) aH k aH
theorem JK{L L':Nat->Bool}{i:Nat}(hi:L i=false)(hi':L' i=true)(hne:∀k,k≠i->L' k=L k):∀n,left L n=left L' n+if i<n then 1 else 0
 |0=>by rfl
 |n+1=>by
  have ih:=JK hi hi' hne n;rw[left,left]
  grind
theorem yN{bs:List Nat}{l:List dg}:∀(r:List dg)(k m:Nat)(y:dg),(qt bs l k r)[m]?=some y->∃x,r[m]?=some x/\y.dst=x.dst/\y.op=x.op/\y.guard=x.guard
 | [],k,m,y,h=>by simp_all [qt]
 |x::r,k,m,y,h=>by
  rw[qt] at h;cases m with
  |zero=>grind
  |succ m =>
   obtain⟨z,h1,h2⟩:=yN r _ m y (by simpa using h)
   grind
def yO{bs:List Nat}{l:List dg}:∀(r:List dg)(k:Nat),(qt bs l k r).length=r.length
 | [],_=>rfl
 |x::r,k=>by rw[qt,au,yO r _,au]
theorem Dw{ops:Array Oper}:∀ {r:List Oper} {g:List Bool} {l:List dg},ub P A ops g r=some l->l.length=r.length/\∀(k:Nat)(o:Oper),r[k]?=some o->∃x b,l[k]?=some x/\MW P A ops b o=some x
 | [],g,l,h=>by grind [ub]
 |o::r,g,l,h=>by
  obtain⟨x,hx,h⟩:=bf h;obtain⟨l',hl,h⟩:=bf h;injection h with h; obtain⟨h1,h2⟩:=Dw hl
  grind
structure Ord(ops:Array Oper)(l:List dg):Prop where
 len:l.length=ops.size
 Zg:∀(k:Nat)(o:Oper)(e:Edge),ops[k]?=some o->e∈o.after.toList->Region.binds .any e=true->e.on<k
 alone:∀(k:Nat)(y:dg),l[k]?=some y->y.xD=true->y.op.xm=true
 opl:∀(k:Nat)(y:dg),l[k]?=some y->Mi y.op=true
 acE:∀(k i:Nat)(y x:dg),l[k]?=some y->y.uk=true->y.grow=false->l[i]?=some x->x.op.Q8=true->(i<k->ahead (rl ops.toList) i k=true)/\(k<i->ahead (rl ops.toList) k i=true)
 sep:∀(k i:Nat)(y x:dg),l[k]?=some y->y.sep≠[]->l[i]?=some x->x.op.Q8=true->(k<i->ahead (rl ops.toList) k i=true)/\(i<k->ahead (rl ops.toList) i k=true\/∃z,x.op.Oj=some z/\z∈y.sep/\anN l i k z=true)
 meet:∀(i k:Nat)(x y:dg),i<k->l[i]?=some x->l[k]?=some y->meet x y=true->ahead (rl ops.toList) i k=true
 stop:∀(i k:Nat)(y:dg),l[k]?=some y->y.lets=true->i<l.length->(k<i->ahead (rl ops.toList) k i=true)/\(i<k->ahead (rl ops.toList) i k=true\/∀x,l[i]?=some x->x.op.Q7=false)
 eff:∀(i k:Nat)(x y:dg),i<k->l[i]?=some x->l[k]?=some y->x.uk=true->y.uk=true->ahead (rl ops.toList) i k=true\/(Cj ops l i=true/\Cj ops l k=true)
theorem Xe{ops:Array Oper}{l:List dg}(dN:l.length=ops.size)(h:HF ops (rl ops.toList) l=true):Ord ops l:=by
 unfold HF at h
 have hk:∀(k:Nat)(y:dg)(o:Oper),l[k]?=some y->ops[k]?=some o->(o.after.toList.all (fun e => !Region.binds .any e||decide (e.on<k))=true/\((!y.xD||y.op.xm)&&Mi y.op)=true/\((!(y.uk && !y.grow)||fenced (rl ops.toList) l k)&&(y.sep.isEmpty||Da (rl ops.toList) l k y.sep))=true/\(!y.lets||MD (rl ops.toList) l k)=true) /\
   ∀(i:Nat)(x:dg),i<k->l[i]?=some x->(!Go.Abs.meet x y||ahead (rl ops.toList) i k)=true/\(!(x.uk&&y.uk)||(ahead (rl ops.toList) i k||(Cj ops l i&&Cj ops l k)))=true:=by
  intro k y o hy ho;have h1:=bK.1 h k (eY.2 (aN hy));rw[fe,hy,ho] at h1;rw[bz,bz,bz] at h1;obtain⟨⟨⟨a1,a2⟩,a3⟩,a45⟩:=h1;rw[bz] at a45;obtain⟨a5,a4⟩:=a45;refine⟨⟨a1,a2,a3,a5⟩,fun i x hi hx=>?_⟩
  have h2:=bK.1 a4 i (eY.2 hi);rw[fe,hx] at h2;simpa[bz] using h2
 have hop:∀k,k<l.length->∃o,ops[k]?=some o:=fun k hk=>⟨ops[k]'(by omega),bg aH⟩
 refine⟨dN,fun k o e ho he hb=>?_,fun k y hy hn=>?_,fun k y hy=>?_,fun k i y x hy hE hg hx hl=>?_,fun k i y x hy hsp hx hl=>?_,fun i k x y hi hx hy hm=>?_,fun i k y hy hl hi=>?_,fun i k x y hi hx hy hE hE'=>?_⟩
 ·grind
 ·grind
 ·obtain⟨o,ho⟩:=hop k (aN hy);have:=(hk k y o hy ho).1.2.1;rw[bz] at this;exact this.2
 ·obtain⟨o,ho⟩:=hop k (aN hy);have h1:=(bz _ _▸(hk k y o hy ho).1.2.2.1:_/\_).1;have h2:fenced (rl ops.toList) l k=true:=by simpa[hE,hg] using h1
  have h3:=bK.1 h2 i (eY.2 (aN hx));rw[fe,hx] at h3;simp only[hl,cv,c8] at h3;refine⟨fun hik=>by rw[aZ hik] at h3; exact h3,fun hki=>?_⟩
  rw[aQ aH] at h3;have:¬i=k:=aH;simpa[this] using h3
 ·obtain⟨o,ho⟩:=hop k (aN hy);have h1:=(bz _ _▸(hk k y o hy ho).1.2.2.1:_/\_).2
  have h2:Da (rl ops.toList) l k y.sep=true:=by
   grind
  have h3:=bK.1 h2 i (eY.2 (aN hx));rw[fe,hx] at h3;simp only[hl,cv,c8] at h3;refine⟨fun hki=>?_,fun hik=>?_⟩
  ·have hne:(i==k)=false:=gr;rw[hne,aQ aH,c8] at h3;exact h3
  ·have hne:(i==k)=false:=gr;rw[hne,aZ hik,c8,dh] at h3;rcases h3 with h3|h3
   ·exact .inl h3
   ·right;split at h3
    ·rename_i z hz;rw[bz] at h3;exact⟨z,hz,by simpa using h3.1,h3.2⟩
    ·cases h3
 ·obtain⟨o,ho⟩:=hop k (aN hy);have:=((hk k y o hy ho).2 i x hi hx).1;simpa[hm] using this
 ·obtain⟨o,ho⟩:=hop k (aN hy);have h1:=(hk k y o hy ho).1.2.2.2;rw[hl,cv,c8] at h1;have h2:=bK.1 h1 i (eY.2 hi);refine⟨fun hki=>?_,fun hik=>?_⟩
  ·have hne:(i==k)=false:=gr;rw[hne,aQ aH,c8] at h2;exact h2
  ·have hne:(i==k)=false:=gr;rw[hne,aZ hik,c8,dh] at h2;refine h2.imp id fun h3 x hx=>?_
   rw[fe,hx] at h3;simpa using h3
 ·obtain⟨o,ho⟩:=hop k (aN hy);have:=((hk k y o hy ho).2 i x hi hx).2;simpa[hE,hE'] using this
structure G4(n:Nat)(mems:Nat->aC)(E A:Nat->Bool)(L:Nat->Bool)(q:Nat)(G:aC):Prop where
 qn:q<=n
 last:q=0\/∃p,q=p+1/\E p=true/\L p=true
 rest:∀k,q<=k->k<n->E k=true->L k=false
 len:G.length=(mems q).length
 at':∀id:Nat,G[id]?=(mems q)[id]?\/(G[id]?=some .vZ/\∃k,k<q/\A k=true/\L k=false/\(mems k).length=id)
 un:∀k,k<q->A k=true->L k=false->G[(mems k).length]?=some .vZ
theorem G4.full{n:Nat}{mems:Nat->aC}{E A L:Nat->Bool}{q:Nat}{G:aC}(g:G4 n mems E A L q G)(h:∀k,k<q->A k=true->L k=true):G=mems q:=by
 apply ct;intro id;rcases g.at' _ with h1|⟨_,k,h1,h2,h3,_⟩
 ·omega
 grind
theorem gk.ahT{j:J}{M:aC}{w:World}{x:ag}{v:Value}(h:gk j M w x v){id:Nat}(hid:id∈x.iH):M[id]?≠some .vZ:=by
 intro hg;cases h with
 |plain h=>cases h<;>simp[ag.iH] at hid
 |c0=>simp_all [ag.iH]
 |own hk=>grind [ag.iH]
 |agg=>grind [ag.iH]
 |tuple=>simp[ag.iH] at hid
 |ptr _ hc=>grind [ag.iH]
 |jF=>simp_all [ag.iH]
 |func=>simp_all [ag.iH]
 |iy hc=>grind [ag.iH]
 |ka hc=>grind [ag.iH]
 |kj=>grind [ag.iH]
 |cE _ _ hM=>simp[ag.iH] at hid; subst hid; cases hM _ hg
 |jv _ _ hM=>simp[ag.iH] at hid; subst hid; cases hM _ hg
 |rb=>simp[ag.iH] at hid
 |kv hc=>grind [ag.iH]
 |any=>simp_all [ag.iH]
def wv{mems:Nat->aC}{i:Nat}:∀n,i<=n->(∀k,i<=k->k<n->mems k <+: mems (k+1))->mems i <+: mems n
 |0,hi,_=>by rw[show i=0 by omega]; simp
 |n+1,hi,h=>by
  by_cases he:i=n+1
  ·rw[he]; simp
  ·exact(wv n aH fun k h1 h2=>h k h1 aH).trans (h n aH dw)
def cq.Eu{j:J}{M:aC}{w:World}{bp env':Env}{a:Act}(h:cq j M w bp a)(he:∀t,hZ env' t=hZ bp t):cq j M w env' a:=⟨fun t=>by rw[he t]; exact h.at' t,h.gl⟩
theorem Kb(hmix:P.follows .mixedOrders=true)(hC:ny P C){rd:Option Nat}{nd:Nat}{id:Nat}{ops:Array Oper}{l0 l:List dg}(hl0:ub P A ops [] ops.toList=some l0)(hg:BA ops l0=some l)
  {bp:Env} {M:aC} {x:Out} (hx:gu C l bp M=some x) {j:J} {w:World} {a:Act} (hr:Rel j M w) (hG:sW j M w) (he:cq j M w bp a) (hs:a.tmps.size=A.n) {Q:Exit->Act->World->Prop}
  (hQ:∀a' w' j',Rel j' x.mem w'->cq j' x.mem w' x.bp a'->Ext j M w j' x.mem w'->a'.tmps.size=A.n->a'.defers=a.defers->Q (rS x.e) a' w'):(Code.region id ops true).wpIn (Wd rd) nd P Q a w:=by
 obtain⟨c1,c2⟩:=Dw hl0;have hlen0:l0.length=ops.size:=by simpa using c1
 unfold BA at hg;split at hg
 case isFalse=>cases hg
 rename_i hok;injection hg with hg
 rw[hg] at hok;have dN:l.length=ops.size:=by rw[<-hg,yO]; exact hlen0
 have od:=Xe dN hok
 have hop:∀(k:Nat)(y:dg),l[k]?=some y->∃o x0 b,ops[k]?=some o/\MW P A ops b o=some x0/\y.dst=x0.dst/\y.op=x0.op/\y.guard=x0.guard:=by
  intro k y hy;rw[<-hg] at hy;obtain⟨x0,h1,h2,h3,h4⟩:=yN _ _ _ _ hy;have hk:k<ops.size:=by rw[<-hlen0]; exact aN h1
  have ho:ops[k]?=some ops[k]:=bg hk;obtain⟨x1,b,h5,h6⟩:=c2 k ops[k] (by simp[hk])
  rw[h1] at h5; cases h5;exact⟨_,x0,b,ho,h6,h2,h3,h4⟩
 obtain⟨N,vals,mems,hN,m0,st,hxe⟩:=trace hx
 let E:Nat->Bool:=fun k=>match l[k]? with|some y=>y.uk|none=>false
 have hE:∀ {k:Nat} {y:dg},l[k]?=some y->E k=y.uk:=fun {k y} h=>by simp only[E,h]
 have hEs:∀ {k:Nat},E k=true->∃y,l[k]?=some y/\y.uk=true:=fun {k} h=>by
  simp only[E] at h;split at h
  ·exact⟨_,by assumption,h⟩
  ·cases h
 -- memory stays at what is no effect,and grows at what may
 have stays:∀k,k<N->E k=false->mems (k+1)=mems k:=by
  intro k hkN hEk;have hk:k<l.length:=aH;have hy:=ai hk;rw[hE hy] at hEk;rcases st k _ hkN hy with ⟨_,h⟩|⟨_,_,_,_,_,h⟩
  ·rcases r9 h with ⟨hn,hi,h1⟩|⟨hn,_,h1⟩|⟨hn,_,_,h1⟩
   ·exact(Ir (od.alone k _ hy hn) h1 hi).1
   all_goals
    have hE0:l[k].op.Q7=false:=by simpa[dg.uk,hn] using hEk
    cases hl:l[k].op.Q8 with
    |true=>exact(JN hl h1).1
    |false=>exact(N5 hE0 hl h1).1
  ·exact h
 have grows:∀k (y:dg),k<N->l[k]?=some y->y.uk=true->y.grow=true->mems k <+: mems (k+1)\/(y.sep≠[]/\zt (o9 bp l vals (fun _=>true) k) (mems k) (mems (k+1)) y.sep):=by
  intro k y hkN hy hEy hgr;rcases st k y hkN hy with ⟨_,h⟩|⟨_,_,_,_,_,h⟩
  ·rcases r9 h with ⟨hn,_,_⟩|⟨_,hg',_⟩|⟨_,_,hp,_⟩
   ·simp[dg.uk,hn] at hEy
   ·rw[hgr] at hg'; cases hg'
   ·exact hp
  ·rw[h]; exact .inl (lY _)
 let A0:Nat->Bool:=Cj ops l
 have hA:∀k,k<N->A0 k=true->∃(y:dg) (o:Oper) (V:Nat->ag) (B:cV),l[k]?=some y/\ops[k]?=some o/\y.guard=none/\E k=true/\vals k=V (mems k).length/\mems (k+1)=mems k++[B]/\(V (mems k).length).jr=false /\
   ∀ {env':Env} {j:J} {G:aC} {w:World} {a:Act} {p:Nat} {K:Act->World->Prop} {KP:Value->World->Prop},(∀t,t∈y.op.mb->hZ env' t=hZ (o9 bp l vals (fun _=>true) k) t)->Rel j G w->sW j G w->cq j G w env' a->G[p]?=some .vZ ->
    (∀v w',iV j G w (V p,G.set p B) v w'->K (a.put o.dst v) w')->tY P o a w K KP:=by
  intro k hkN hAk;have hk:k<l.length:=aH;obtain⟨y,hy⟩:∃y,l[k]?=some y:=⟨_,ai hk⟩;obtain⟨o,ho⟩:∃o,ops[k]?=some o:=⟨_,bg aH⟩;obtain⟨o',x0,b,ho',hco,f1,f2,f3⟩:=hop k _ hy;rw[ho] at ho'; cases ho';obtain⟨g1,_⟩:=AW hco;rw[<-f2] at g1;simp only[A0,Cj,ho,fe,hy,bz,Option.isNone_iff_eq_none] at hAk;obtain⟨k2,k3⟩:=hAk
  have h1:eo C (o9 bp l vals (fun _=>true) k) (mems k) y.op=some (vals k,mems (k+1)):=by
   rcases st k y hkN hy with ⟨_,h⟩|⟨t',want,h,_⟩
   ·rcases r9 h with ⟨_,_,h1⟩|⟨_,_,h1⟩|⟨_,_,_,h1⟩<;>exact h1
   ·rw[k3] at h; cases h
  have hnm:y.op.xm=false->y.xD=false:=fun hc=>by
   cases hn:y.xD with
   |false=>rfl
   |true=>have:=od.alone k y hy hn; rw[hc] at this; cases this
  split at k2
  ·rename_i cs hcs;split at k2
   case h_2=>cases k2
   rename_i t hot;have hn:=hnm (by rw[hcs]; rfl)
   rw[hcs] at h1 g1;simp only[eo] at h1;injection h1 with h1
   refine⟨y,o,fun p => .ptr p 0,.cells cs,hy,ho,k3,by rw[hE hy]; simp[dg.uk,hn,hcs,kG.Q7],(congrArg Prod.fst h1).symm,(congrArg Prod.snd h1).symm,rfl,fun {env' j G w a p K KP} _ hr hG he hp hK=>?_⟩
   obtain⟨us,tt,hRC,hRan⟩:=OX hot g1 a w;exact .inl ⟨_,_,hRan,hK _ _ (I6 hr hp (hRC _ _ _) tt)⟩
  ·rename_i z hcs;split at k2
   case h_2=>cases k2
   rename_i t yy hot;have hn:=hnm (by rw[hcs]; rfl)
   rw[hcs] at h1 g1;simp only[eo] at h1;obtain⟨cs,hcc,h1⟩:=bm h1;injection h1 with h1
   have hz:eV yy=some z:=by
    simp only[Pa,hot] at g1;obtain⟨z',hz',g1⟩:=bf g1;injection g1 with g1; cases g1
    exact hz'
   refine⟨y,o,fun p => .ptr p 0,.cells cs,hy,ho,k3,by rw[hE hy]; simp[dg.uk,hn,hcs,kG.Q7],(congrArg Prod.fst h1).symm,(congrArg Prod.snd h1).symm,rfl,fun {env' j G w a p K KP} hag hr hG he hp hK=>?_⟩
   have hev:=cR (x:=z) (fun t ht=>hag t (by rw[hcs]; exact ht))
   exact .inl ⟨_,_,.inl (by simp[execOp,hot,Instr.box,newVar,newRow]),hK _ _ (I6 hr hp (tL (cZ he hz) (by rw[hev]; exact hcc)) t)⟩
  ·rename_i f args hcs;split at k2
   case h_2=>cases k2
   rename_i c hot;split at k2
   case h_2=>cases k2
   rename_i f0 hcal;have hn:=hnm (by rw[hcs]; rfl)
   rw[hcs] at h1 g1;obtain⟨xs,sz,n,hx0,_⟩:=y8 hC hot hcal g1 h1;refine⟨y,o,fun p => .slice (.own p) xs,.tick sz n,hy,ho,k3,by rw[hE hy]; simp[dg.uk,hn,hcs,kG.Q7],congrArg Prod.fst hx0,congrArg Prod.snd hx0,rfl,fun {env' j G w a p K KP} hag hr hG he hp hK=>?_⟩
   have h2:eo C env' (mems k) (.wE f args)=some (vals k,mems (k+1)):=by
    rw[(Fz (C:=C) (M:=mems k) (op := .wE f args) fun t ht=>hag t (by rw[hcs]; exact ht)).1]
    exact h1
   obtain⟨xs',sz',n',hx1,hrun⟩:=y8 hC hot hcal g1 h2;rw[hx0] at hx1;injection hx1 with e1 e2
   injection e1 with _ e1
   have e3:=List.append_cancel_left e2;injection e3 with e3 _
   injection e3 with e3 e4
   subst e1; subst e3; subst e4;exact hrun hr hG he hp hK
  ·cases k2
 have hAE:∀k,k<N->A0 k=true->E k=true:=fun k hk h=>by
  obtain⟨y,o,V,B,_,_,_,h1,_⟩:=hA k hk h;exact h1
 -- where nothing but boxes is made memory grows
 have pref:∀a b,a<=b->b<=N->(∀k,a<=k->k<b->E k=true->A0 k=true)->mems a <+: mems b:=fun a b hab hb hk=>wv b hab fun k h1 h2=>by
  cases hEk:E k with
  |false=>rw[stays k aH hEk]; exact lY _
  |true =>
   obtain⟨y,o,V,B,_,_,_,_,_,h3,_⟩:=hA k aH (hk k h1 h2 hEk);rw[h3]; exact List.prefix_append _ _
 have same:∀a b,a<=b->b<=N->(∀k,a<=k->k<b->E k=false)->mems b=mems a:=by
  intro a b hab;induction b with
  |zero=>intro _ _; rw[show a=0 by omega]
  |succ b ih =>
   intro hb hk
   by_cases he:a=b+1
   ·rw[he]
   ·rw[stays b aH (hk b aH aH),ih aH aH fun k h1 h2=>hk k h1 aH]
 -- where a box of that length is made
 have posn:∀a b,a<=b->b<=N->(∀k,a<=k->k<b->E k=true->A0 k=true)->∀id,(mems a).length<=id->id<(mems b).length->∃k,a<=k/\k<b/\A0 k=true/\(mems k).length=id:=by
  intro a b hab;induction b with
  |zero=>intro _ _ id h1 h2; rw[show a=0 by omega] at h1; omega
  |succ b ih =>
   intro hb hk id h1 h2
   by_cases he:a=b+1
   ·rw[he] at h1; omega
   ·cases hEb:E b with
    |false =>
     rw[stays b aH hEb] at h2;obtain⟨k,g1,g2,g3⟩:=ih aH aH (fun k h1 h2=>hk k h1 aH) id h1 h2
     exact⟨k,g1,aH,g3⟩
    |true =>
     have hAb:=hk b aH aH hEb;obtain⟨y,o,V,B,_,_,_,_,_,h3,_⟩:=hA b aH hAb;rw[h3] at h2;simp only[aA,au,az] at h2
     by_cases hid:id<(mems b).length
     ·obtain⟨k,g1,g2,g3⟩:=ih aH aH (fun k h1 h2=>hk k h1 aH) id h1 hid
      exact⟨k,g1,aH,g3⟩
     ·exact⟨b,aH,aH,hAb,aH⟩
 refine wpIn_region_any hmix ?_
 have key:∀(fuel:Nat)(listed:Array Bool)(a1:Act)(w1:World),listed.size=ops.size->left (fun k=>listed.getD k false) l.length=fuel->Down ops (fun k=>listed.getD k false)->(∀k,k<l.length->listed.getD k false=true->k<N/\(vals k).jr=false) ->
   (∃j1 q G,G4 l.length mems E A0 (fun k=>listed.getD k false) q G/\Rel j1 G w1/\cq j1 G w1 (o9 bp l vals (fun k=>listed.getD k false) l.length) a1 /\
    Ext j M w j1 G w1/\a1.tmps.size=A.n/\a1.defers=a.defers)->wpAnyIn (Wd rd) nd P .any ops Q fuel listed a1 w1:=by
  have ends:∀(listed:Array Bool)(a1:Act)(w1:World),(∀k,k<l.length->listed.getD k false=true) ->
    (∃j1 q G,G4 l.length mems E A0 (fun k=>listed.getD k false) q G/\Rel j1 G w1/\cq j1 G w1 (o9 bp l vals (fun k=>listed.getD k false) l.length) a1 /\
    Ext j M w j1 G w1/\a1.tmps.size=A.n/\a1.defers=a.defers)->(∀k,k<l.length->listed.getD k false=true->k<N/\(vals k).jr=false)->Q .normal a1 w1:=by
   intro listed a1 w1 hall hI hin;obtain⟨j1,q,G,gp,r1,e1,x1,s1,d1⟩:=hI;rcases hxe with ⟨n1,_,n3⟩|⟨n,y,v,n1,n2,_,n4,_,_⟩
   ·have hm:G=mems l.length:=by
     have hqn:=gp.qn;rw[gp.full fun k hk _=>hall k aH,same q l.length gp.qn aH fun k h1 h2=>?_]
     cases hEk:E k with
     |false=>rfl
     |true =>
      have:=gp.rest k h1 h2 hEk;rw[hall k h2] at this; cases this
    rw[hm] at r1 e1 x1;rw[n3,n1] at hQ;exact hQ a1 w1 j1 r1 (e1.Eu fun t=>x9 _ fun k hk _=>(hall k hk).symm) x1 s1 d1
   ·have hnl:=aN n2;have:=(hin n hnl (hall n hnl)).2;rw[n4] at this; cases this
  intro fuel;induction fuel with
  |zero =>
   intro listed a1 w1 hsz hleft hd hin hI;have hall:=Gi hleft;refine⟨?_,ends listed a1 w1 hall hI hin⟩;apply List.eq_nil_iff_forall_not_mem.2;intro i hi;obtain⟨h1,oi,h2,_⟩:=mem_ready.1 hi;have hil:i<l.length:=by rw[dN]; exact(fJ.1 h2).1
   have h3:=hall i hil;simp only[dy] at h1 h3;have:i<listed.size:=aH;rw[bg this] at h1 h3;simp at h1 h3;rw[h1] at h3; cases h3
  |succ fuel ih =>
   intro listed a1 w1 hsz hleft hd hin hI;refine⟨fun hnil=>?_,fun i hi=>?_⟩
   ·refine ends listed a1 w1 ?_ hI hin;intro k;induction k using Nat.strongRecOn with
    |_ k ihk =>
     intro hk;cases hL:listed.getD k false with
     |true=>rfl
     |false =>
      exfalso;have hks:k<ops.size:=aH;have ho:ops[k]?=some ops[k]:=bg hks
      have:k∈Region.ready .any ops listed:=by
       refine mem_ready.2 ⟨?_,_,ho,fun e he hb=>?_⟩
       ·simp only[dy] at hL ⊢;have hkl:k<listed.size:=aH;rw[bg hkl] at hL ⊢;simpa using hL
       ·have:=od.Zg k _ e ho (by simpa using he) hb
        exact ihk e.on this aH
      rw[hnil] at this;cases this
   ·obtain⟨hun0,o,ho,hall⟩:=mem_ready.1 hi;obtain⟨j1,q,G,gp,r1,e1,x1,s1,d1⟩:=hI;have his:i<ops.size:=(fJ.1 ho).1;have hil:i<l.length:=aH;have hils:i<listed.size:=aH
    have hLi:listed.getD i false=false:=by
     simp only[dy] at hun0 ⊢;rw[bg hils] at hun0 ⊢;simpa using hun0
    have hL'i:(listed.setIfInBounds i true).getD i false=true:=by
     simp only[dy,gZ,hils,aF];rfl
    have hL'ne:∀k,k≠i->(listed.setIfInBounds i true).getD k false=listed.getD k false:=fun k hk=>by
     simp only[dy,fE (eX hk)]
    have hy:=ai hil;obtain⟨o',x0,b,ho',hco,f1,f2,f3⟩:=hop i _ hy;rw[ho] at ho'; cases ho';obtain⟨g1,g2,_,g4,g5⟩:=AW hco;rw[<-f2] at g1;rw[<-f1] at g2;rw[<-f3] at g5;generalize hyy:l[i]=y at *;have hall':∀e,e∈o.after.toList->Region.binds .any e=true->listed.getD e.on false=true:=fun e h1 h2=>hall e (by simpa using h1) h2
    have rdy:∀k,ahead (rl ops.toList) k i=true->listed.getD k false=true:=fun k h=>Ik (L:=fun k=>listed.getD k false) hd od.Zg ho hall' h
    have nol:∀k,k<l.length->ahead (rl ops.toList) i k=true->listed.getD k false=false:=fun k hk h=>by
     cases hL:listed.getD k false with
     |false=>rfl
     |true =>
      have:=Dk (L:=fun k=>listed.getD k false) hd od.Zg k h aH hL
      rw[hLi] at this; cases this
    have hiN:i<N:=by
     rcases bA i N with h|h
     ·exact h
     rcases hxe with ⟨n1,_,_⟩|⟨n,y',v,n1,n2,n3,n4,_,_⟩
     ·omega
     ·have h5:=rdy n ((od.stop i n y' n2 n3 hil).1 aH);have:=(hin n (aN n2) h5).2;rw[n4] at this; cases this
    have agree:∀t,t∈y.reads->hZ (o9 bp l vals (fun k=>listed.getD k false) l.length) t=hZ (o9 bp l vals (fun _=>true) i) t:=by
     intro t ht;refine(vE l.length (Nat.le_of_lt hil) fun k h1 h2=>?_).trans (x9 i fun k hk hw=>?_)
     ·rintro⟨⟨x',hx',hdx⟩,hLk⟩
      by_cases hki:k=i
      ·subst hki; rw[hLi] at hLk; cases hLk
      ·have hm:meet y x'=true:=by simp[meet,hdx,ht]
       rw[nol k h2 (od.meet i k y x' aH hy hx' hm)] at hLk;cases hLk
     ·obtain⟨x',hx',hdx⟩:=hw;have hm:meet x' y=true:=by simp[meet,hdx,ht]
      exact rdy k (od.meet k i x' y hk hx' hy hm)
    have newEnv:∀t,hZ (o9 bp l vals (fun k=>(listed.setIfInBounds i true).getD k false) l.length) t=hZ (rH (o9 bp l vals (fun k=>listed.getD k false) l.length) y.dst (vals i)) t:=by
     intro t
     by_cases hdt:y.dst=some t
     ·rw[hdt];simp only[rH,hZ,aF];rw[vE (i:=i+1) l.length aH fun k h1 h2=>?_]
      ·exact M9 i ⟨y,hy,hdt⟩ hL'i
      ·rintro⟨⟨x',hx',hdx⟩,hLk⟩;rw[hL'ne k aH] at hLk;have hm:meet y x'=true:=by simp[meet,hdt,hdx]
       rw[nol k h2 (od.meet i k y x' aH hy hx' hm)] at hLk;cases hLk
     ·have e2:hZ (rH (o9 bp l vals (fun k=>listed.getD k false) l.length) y.dst (vals i)) t=hZ (o9 bp l vals (fun k=>listed.getD k false) l.length) t:=by
       unfold rH;split
       ·rename_i d hd';rw[hZ,aQ];rintro rfl;exact hdt hd'
       ·rfl
      rw[e2];refine x9 _ fun k _ hw=>hL'ne k ?_
      rintro rfl;obtain⟨x',hx',hdx⟩:=hw;rw[hy] at hx'; cases hx';exact hdt hdx
    have hqN:q<=N:=by
     rcases gp.last with h|⟨p,hp1,hp2,hp3⟩
     ·omega
     ·obtain⟨z0,hz0,_⟩:=hEs hp2;have:=(hin p (aN hz0) hp3).1;omega
    -- effects that are ordered
    have effA:∀a b,a<b->E a=true->E b=true->(A0 a=false\/A0 b=false)->ahead (rl ops.toList) a b=true:=by
     intro a b hab ha hb hn;obtain⟨x',hx',hE'⟩:=hEs ha;obtain⟨y',hy',hE2⟩:=hEs hb;rcases od.eff a b x' y' hab hx' hy' hE' hE2 with h|⟨h1,h2⟩
     ·exact h
     ·rcases hn with hn|hn
      ·rw[show A0 a=true from h1] at hn; cases hn
      ·rw[show A0 b=true from h2] at hn; cases hn
    have inL:∀a b,b<l.length->ahead (rl ops.toList) a b=true->listed.getD b false=true->listed.getD a false=true:=fun a b hb h1 h2=>Dk (L:=fun k=>listed.getD k false) hd od.Zg b h1 aH h2
    -- what is between one that is not done and the last that is
    have betw:∀k,k<q->E k=true->A0 k=true->listed.getD k false=false->∀m,k<=m->m<q->E m=true->A0 m=true:=by
     intro k hkq hEk hAk hLk m h1 h2 hEm;cases hAm:A0 m with
     |true=>rfl
     |false =>
      exfalso;rcases gp.last with h|⟨p,hp1,hp2,hp3⟩
      ·omega
      have hqn:=gp.qn
      have hkm:k<m:=by
       rcases bA k m with h|h
       ·exact h
       ·have:k=m:=aH;subst this; rw[hAk] at hAm; cases hAm
      have a1:=effA k m hkm hEk hEm (.inr hAm)
      have hLm:listed.getD m false=true:=by
       by_cases hmp:m=p
       ·rw[hmp]; exact hp3
       ·exact inL m p aH (effA m p aH hEm hp2 (.inl hAm)) hp3
      rw[inL k m aH a1 hLm] at hLk; cases hLk
    have gC:E i=false->G4 l.length mems E A0 (fun k=>(listed.setIfInBounds i true).getD k false) q G:=by
     intro hEi;have hne:∀k,E k=true->(listed.setIfInBounds i true).getD k false=listed.getD k false:=fun k hk=>hL'ne k (by rintro rfl; rw[hEi] at hk; cases hk)
     refine⟨gp.qn,gp.last.imp (fun h=>h) fun⟨p,h1,h2,h3⟩=>⟨p,h1,h2,by simp only[hne p h2]; exact h3⟩,fun k h1 h2 h3=>by simp only[hne k h3]; exact gp.rest k h1 h2 h3,gp.len,fun id=>?_,fun k h1 h2 h3=>?_⟩
     ·rcases gp.at' id with h|⟨h,k,h1,h2,h3,h4⟩
      ·exact .inl h
      ·exact .inr ⟨h,k,h1,h2,by simp only[hne k (hAE k aH h2)]; exact h3,h4⟩
     ·simp only[hne k (hAE k aH h2)] at h3;exact gp.un k h1 h2 h3
    have gB:E i=true->A0 i=false->G=mems i/\G4 l.length mems E A0 (fun k=>(listed.setIfInBounds i true).getD k false) (i+1) (mems (i+1)):=by
     intro hEi hAi
     have hqi:q<=i:=by
      rcases gp.last with h|⟨p,hp1,hp2,hp3⟩
      ·omega
      ·have hqn:=gp.qn;rcases bA i p with h|h
       ·rw[inL i p aH (effA i p h hEi hp2 (.inl hAi)) hp3] at hLi; cases hLi
       ·by_cases hip:i=p
        ·subst hip; simp only[hLi] at hp3; cases hp3
        ·omega
     have done:∀k,k<i->E k=true->listed.getD k false=true:=fun k hk hEk=>rdy k (effA k i hk hEk hEi (.inr hAi))
     refine⟨?_,aH,.inr ⟨i,rfl,hEi,hL'i⟩,fun k h1 h2 h3=>by simp only[hL'ne k (show k≠i by omega)]; exact gp.rest k aH h2 h3,rfl,fun id => .inl rfl,fun k h1 h2 h3=>?_⟩
     ·rw[gp.full fun k hk hAk=>done k aH (hAE k aH hAk)]
      refine(same q i hqi aH fun k h1 h2=>?_).symm
      cases hEk:E k with
      |false=>rfl
      |true =>
       have:=gp.rest k h1 aH hEk;simp only[done k h2 hEk] at this; cases this
     ·have hki:k≠i:=by rintro rfl; rw[hAi] at h2; cases h2
      simp only[hL'ne k hki,done k aH (hAE k aH h2)] at h3;cases h3
    have down':Down ops (fun k=>(listed.setIfInBounds i true).getD k false):=by
     intro k p e hp hL he' hb
     have hsome:listed.getD e.on false=true:=by
      by_cases hki:k=i
      ·subst hki;rw[ho] at hp; cases hp;exact hall' e he' hb
      ·exact hd k p e hp (by show listed.getD k false=true; rw[<-hL'ne k hki]; exact hL) he' hb
     show(listed.setIfInBounds i true).getD e.on false=true
     by_cases hei:e.on=i
     ·rw[hei]; exact hL'i
     ·rw[hL'ne _ hei]; exact hsome
    have Cn:left (fun k=>(listed.setIfInBounds i true).getD k false) l.length=fuel:=by
     have:=JK (L:=fun k=>listed.getD k false) (L':=fun k=>(listed.setIfInBounds i true).getD k false) (i:=i) hLi hL'i (fun k hk=>hL'ne k hk) l.length
     rw[aZ hil] at this;omega
    have hin':(vals i).jr=false->∀k,k<l.length->(listed.setIfInBounds i true).getD k false=true->k<N/\(vals k).jr=false:=by
     intro hnp k hk hL
     by_cases hki:k=i
     ·rw[hki]; exact⟨hiN,hnp⟩
     ·rw[hL'ne k hki] at hL; exact hin k hk hL
    have hgslot:∀t want,y.guard=some (t,want)->t∈y.reads:=fun t want h=>by simp[dg.reads,h]
    have hopslot:∀t,t∈y.op.mb->t∈y.reads:=fun t h=>by simp[dg.reads,h]
    unfold wpOpIn;rw[ho];simp only;rcases st i y hiN hy with ⟨hgd,hstep⟩|⟨t,want,hgt,hgv,hv0,hm0⟩
    ·rw[aZ (zw e1 s1 g5 fun t want h=>by rw[agree t (hgslot t want h)]; exact hgd t want h)]
     cases hAi:A0 i with
     |true =>
      obtain⟨y',o',V,B,n1,n2,n3,hEi,n6,n7,npan,hruns⟩:=hA i hiN hAi;rw[hy] at n1; cases n1;rw[ho] at n2; cases n2;have hag:∀t,t∈y.op.mb->hZ (o9 bp l vals (fun k=>listed.getD k false) l.length) t=hZ (o9 bp l vals (fun _=>true) i) t:=fun t ht=>agree t (hopslot t ht)
      have fin:∀q' G' G1 j1' p,G4 l.length mems E A0 (fun k=>(listed.setIfInBounds i true).getD k false) q' G'->Rel j1' G1 w1->Ext j1 G w1 j1' G1 w1->G1[p]?=some .vZ->p=(mems i).length->G'=G1.set p B ->
        o.wpIn (Wd rd) nd P a1 w1 (wpAnyIn (Wd rd) nd P .any ops Q fuel (listed.setIfInBounds i true)) Q:=by
       intro q' G' G1 j1' p hG' hr1 hx1 hp hpe hGe;refine tY.wpIn (KP:=fun _ _=>False) (Af g1) (hruns hag hr1 ((hG.mono x1).mono hx1) (e1.mono hx1) hp ?_) fun u w' h=>h.elim
       rintro v w' ⟨j',p1,p2,p3⟩;rw[<-hGe] at p1 p2 p3;simp only at p1 p2 p3;refine ih (listed.setIfInBounds i true) _ _ (by simpa using hsz) Cn down' (hin' (by rw[n6]; exact npan)) ⟨j',q',G',hG',p1,?_,x1.trans (hx1.trans p2),by rw[xI]; exact s1,by rw[put_defers]; exact d1⟩
       refine cq.Eu ?_ newEnv;rw[g2,n6,<-hpe];exact(e1.mono (hx1.trans p2)).put s1 g4 p3
      rcases bA i q with hiq|hqi
      ·-- its place is there
       have hu:=gp.un i hiq hAi hLi;have hpi:=pref (i+1) q aH hqN fun k h1 h2=>betw i hiq hEi hAi hLi k aH h2
       have hat:(mems q)[(mems i).length]?=some B:=by
        obtain⟨t',ht'⟩:=hpi;rw[<-ht',n7,cm,bj (av _)];simp
       refine fin q (G.set (mems i).length B) G j1 (mems i).length ⟨gp.qn,?_,fun k h1 h2 h3=>by simp only[hL'ne k (show k≠i by omega)]; exact gp.rest k h1 h2 h3,by simpa using gp.len,fun id=>?_,fun k h1 h2 h3=>?_⟩ r1 (Ext.refl _ _ _) hu rfl rfl
       ·refine gp.last.imp (fun h=>h) fun⟨p,h1,h2,h3⟩=>⟨p,h1,h2,?_⟩
        have hpi:p≠i:=by rintro rfl; simp only[hLi] at h3; cases h3
        simp only[hL'ne p hpi]; exact h3
       ·by_cases hid:(mems i).length=id
        ·subst hid;rw[ei (aN hu)];exact .inl hat.symm
        ·rw[cX hid];rcases gp.at' id with h|⟨h,k,h1,h2,h3,h4⟩
         ·exact .inl h
         ·have hki:k≠i:=by rintro rfl; exact hid h4
          refine .inr ⟨h,k,h1,h2,?_,h4⟩;simp only[hL'ne k hki]; exact h3
       ·have hki:k≠i:=by rintro rfl; simp only[hL'i] at h3; cases h3
        simp only[hL'ne k hki] at h3
        have hne:(mems i).length≠(mems k).length:=by
         rcases bA k i with h|h
         ·obtain⟨_,_,_,_,_,_,_,hEk,_,m7,_⟩:=hA k aH h2;have:=(pref (k+1) i aH aH fun m g1 g2=>betw k h1 hEk h2 h3 m aH aH).length_le
          rw[m7] at this;simp at this; omega
         ·have:=(pref (i+1) k aH aH fun m g1 g2=>betw i hiq hEi hAi hLi m aH aH).length_le
          rw[n7] at this;simp at this; omega
        rw[cX hne];exact gp.un k h1 h2 h3
      ·-- behind all that is made
       have allA:∀k,q<=k->k<i->E k=true->A0 k=true:=fun k h1 h2 h3=>by
        cases hAk:A0 k with
        |true=>rfl
        |false =>
         have:=gp.rest k h1 aH h3;simp only[rdy k (effA k i h2 h3 hEi (.inl hAk))] at this; cases this
       have hpi:=pref q i hqi aH allA;have hle:=hpi.length_le;have hln:=gp.len;have hsum:G.length+((mems i).length-(mems q).length)=(mems i).length:=aH;obtain⟨j1',hr1,hx1⟩:=BF r1 ((mems i).length-(mems q).length+1);have hgl:(G++List.replicate ((mems i).length-(mems q).length) cV.vZ).length=(mems i).length:=gr;have hG1:G++List.replicate ((mems i).length-(mems q).length+1) cV.vZ=(G++List.replicate ((mems i).length-(mems q).length) cV.vZ)++[cV.vZ]:=by rw[nQ,<-cm]
       have hg1:(G++List.replicate ((mems i).length-(mems q).length+1) cV.vZ)[(mems i).length]?=some .vZ:=by
        rw[bj aH,iX,aZ aH]
       have hset:∀(A:aC)(m:Nat),A.length=m->A++[B]=(A++[cV.vZ]).set m B:=fun A m h=>by subst h; simp
       have hg2:G++List.replicate ((mems i).length-(mems q).length) cV.vZ++[B]=(G++List.replicate ((mems i).length-(mems q).length+1) cV.vZ).set (mems i).length B:=by
        rw[hG1]; exact hset _ _ hgl
       refine fin (i+1) (G++List.replicate ((mems i).length-(mems q).length) cV.vZ++[B]) _ j1' (mems i).length ⟨aH,.inr ⟨i,rfl,hEi,hL'i⟩,fun k h1 h2 h3=>by simp only[hL'ne k (show k≠i by omega)]; exact gp.rest k aH h2 h3,by rw[n7]; simp; omega,fun id=>?_,fun k h1 h2 h3=>?_⟩ hr1 hx1 hg1 rfl hg2
       ·rcases bA id G.length with h|h
        ·have e1:(G++List.replicate ((mems i).length-(mems q).length) cV.vZ++[B])[id]?=G[id]?:=by
          rw[cm,aO h]
         have e2:(mems (i+1))[id]?=(mems q)[id]?:=by
          obtain⟨t',ht'⟩:=hpi;rw[n7,<-ht',cm,aO aH]
         rw[e1,e2];rcases gp.at' id with h|⟨h,k,h1,h2,h3,h4⟩
         ·exact .inl h
         ·exact .inr ⟨h,k,aH,h2,by simp only[hL'ne k (show k≠i by omega)]; exact h3,h4⟩
        ·rcases bA id (mems i).length with h'|h'
         ·refine .inr ⟨?_,?_⟩
          ·rw[aO gr,bj h,iX,aZ aH]
          ·obtain⟨k,k1,k2,k3,k4⟩:=posn q i hqi aH allA id aH h';exact⟨k,aH,k3,by simp only[hL'ne k (show k≠i by omega)]; exact gp.rest k k1 aH (hAE k aH k3),k4⟩
         ·left;rw[n7,bj gr,bj h'];congr 1;simp; omega
       ·have hki:k≠i:=by rintro rfl; simp only[hL'i] at h3; cases h3
        simp only[hL'ne k hki] at h3;rcases bA k q with h|h
        ·have hu:=gp.un k h h2 h3;rw[cm,aO (aN hu)];exact hu
        ·obtain⟨_,_,_,_,_,_,_,hEk,_,m7,_⟩:=hA k aH h2;have b1:=(pref (k+1) i aH aH fun m g1 g2=>allA m aH g2).length_le
         have b2:=(pref q k h aH fun m g1 g2=>allA m g1 aH).length_le
         rw[m7] at b1;simp at b1;rw[aO gr,bj aH,iX,aZ aH]
     |false =>
     have hex:∃q' G',eo C (o9 bp l vals (fun k=>listed.getD k false) l.length) G y.op=some (vals i,G')/\G4 l.length mems E A0 (fun k=>(listed.setIfInBounds i true).getD k false) q' G'/\(y.lets=true->G'=mems (i+1)):=by
      have pan0:E i=false->y.lets=true->G=mems (i+1):=by
       intro hEi cQ
       have hqi:q<=i:=by
        rcases gp.last with h|⟨p,hp1,hp2,hp3⟩
        ·omega
        ·have hqn:=gp.qn;rcases bA i p with h|h
         ·rw[inL i p aH ((od.stop p i y hy cQ aH).1 h) hp3] at hLi; cases hLi
         ·by_cases hip:i=p
          ·subst hip; simp only[hLi] at hp3; cases hp3
          ·omega
       have done:∀k,k<i->E k=true->listed.getD k false=true:=fun k hk hEk=>by
        obtain⟨x',hx',hE'⟩:=hEs hEk;rcases(od.stop k i y hy cQ aH).2 hk with h4|h4
        ·exact rdy k h4
        ·have:=h4 x' hx';simp[dg.uk,this] at hE'
       rw[stays i hiN hEi,gp.full fun k hk hAk=>done k aH (hAE k aH hAk)]
       refine(same q i hqi aH fun k h1 h2=>?_).symm
       cases hEk:E k with
       |false=>rfl
       |true =>
        have:=gp.rest k h1 aH hEk;simp only[done k h2 hEk] at this; cases this
      obtain⟨q1,q2⟩:=Fz (C:=C) (M:=G) (op:=y.op) fun t ht=>agree t (hopslot t ht)
      rw[q1];rcases r9 hstep with ⟨hn,hids,h1⟩|⟨hn,hgr,h1⟩|⟨hn,hgr,hp,h1⟩
      ·have hEi:E i=false:=by rw[hE hy]; simp[dg.uk,hn]
       exact⟨q,G,(Ir (od.alone i y hy hn) h1 hids).2 _,gC hEi,pan0 hEi⟩
      all_goals
       cases hEo:y.op.Q7 with
       |true =>
        have hEi:E i=true:=by rw[hE hy]; simp[dg.uk,hn,hEo]
        obtain⟨k1,k2⟩:=gB hEi hAi;exact⟨i+1,mems (i+1),by rw[k1]; exact h1,k2,fun _=>rfl⟩
       |false =>
        have hEi:E i=false:=by rw[hE hy]; simp[dg.uk,hEo]
        refine⟨q,G,?_,gC hEi,pan0 hEi⟩;cases hlo:y.op.Q8 with
        |false=>exact(N5 hEo hlo h1).2 _
        |true =>
         -- a load: the memory of the moment and that of the text agree at its box
         have hz:∃z,(y.op = .rE z\/(∃n,y.op = .mM n z)\/∃fk zr ok k,y.op = .look fk zr ok z k)/\∀t,t∈z.mb->t∈y.op.mb:=by
          generalize y.op=op at hlo;cases op<;>simp only[kG.Q8,af] at hlo
          case mM n z=>exact⟨z,.inr (.inl ⟨n,rfl⟩),fun t h=>h⟩
          case look fk zr ok z k=>exact⟨z,.inr (.inr ⟨fk,zr,ok,k,rfl⟩),fun t h=>by simp[kG.mb,h]⟩
          case rE z=>exact⟨z,.inl rfl,fun t h=>h⟩
         obtain⟨z,hz1,hz2⟩:=hz
         have hrep:∃v,gk j1 G w1 (z.ev (o9 bp l vals (fun _=>true) i)) v:=by
          rw[<-cR (x:=z) fun t ht=>agree t (hopslot t (hz2 t ht))]
          cases z with
          |tmp t=>exact⟨_,e1.at' t⟩
          |ti c =>
           have:=od.opl i y hy;rcases hz1 with hz1|⟨n,hz1⟩|⟨_,_,_,_,hz1⟩<;>(rw[hz1] at this; cases this)
         obtain⟨v,hv⟩:=hrep
         have hsame:∀id b,id∈(z.ev (o9 bp l vals (fun _=>true) i)).iH->id<G.length->nth (mems i) id=some b->nth G id=some b:=by
          intro id bx hidz hidl hbx;have hq3:=gp.rest;have hq4:=gp.last;have hqn:=gp.qn;rw[gp.len] at hidl
          have hG0:nth G id=nth (mems q) id:=by
           rw[fe,fe];rcases gp.at' id with h|⟨h,_⟩
           ·exact h
           ·exact absurd h (hv.ahT hidz)
          rw[hG0];have hni:E i=false:=by rw[hE hy]; simp[dg.uk,hEo]
          by_cases hqi:q<=i
          ·refine J7 (.inr (wv i hqi fun k h2 h3=>?_)) hidl hbx
           cases hEk:E k with
           |false=>rw[stays k aH hEk]; exact lY _
           |true =>
            obtain⟨y',hz1',hz2'⟩:=hEs hEk
            have hunl:¬listed.getD k false=true:=by
             have h5:=hq3 k h2 aH hEk;rw[h5]; simp
            cases hzg:y'.grow with
            |false=>exact absurd (rdy k ((od.acE k i y' y hz1' hz2' hzg hy hlo).2 h3)) hunl
            |true =>
             rcases grows k y' aH hz1' hz2' hzg with hg'|⟨hsp,_⟩
             ·exact hg'
             ·exact absurd (rdy k ((od.sep k i y' y hz1' hsp hy hlo).1 h3)) hunl
          ·have chain:∀n,i<=n->n<=q->nth (mems n) id=some bx:=by
            intro n;induction n with
            |zero=>intro h0 _; rw[show 0=i by omega]; exact hbx
            |succ n ihn =>
             intro h0 h0'
             by_cases he:i=n+1
             ·rw[<-he]; exact hbx
             ·have hb':=ihn aH aH;cases hEk:E n with
              |false=>rw[stays n aH hEk]; exact hb'
              |true =>
               obtain⟨y',hz1',hz2'⟩:=hEs hEk;cases hAn:A0 n with
               |true =>
                obtain⟨_,_,_,_,_,_,_,_,_,m7,_⟩:=hA n aH hAn;rw[fe] at hb' ⊢;rw[m7,aO (aN hb')];exact hb'
               |false =>
               have hkni:n≠i:=by rintro rfl; rw[hEk] at hni; cases hni
               have hdone:listed.getD n false=true:=by
                rcases hq4 with h0|⟨p,hp1,hp2,hp3⟩
                ·omega
                ·by_cases hkp:n=p
                 ·subst hkp; exact hp3
                 ·exact inL n p aH (effA n p aH hEk hp2 (.inl hAn)) hp3
               have hnol:ahead (rl ops.toList) i n=true->False:=fun ha=>by
                have:=nol n aH ha;rw[this] at hdone; cases hdone
               cases hzg:y'.grow with
               |false=>exact absurd ((od.acE n i y' y hz1' hz2' hzg hy hlo).1 aH) hnol
               |true =>
                rcases grows n y' aH hz1' hz2' hzg with hg'|⟨hsp,hsa⟩
                ·obtain⟨t,ht⟩:=hg';rw[fe] at hb' ⊢;rw[<-ht,aO (aN hb')];exact hb'
                ·rcases(od.sep n i y' y hz1' hsp hy hlo).2 aH with ha|⟨zs,hzs,hmem,hnw⟩
                 ·exact(hnol ha).elim
                 ·have hslot:z = .tmp zs:=by
                   rcases hz1 with hz1|⟨m,hz1⟩|⟨_,_,_,_,hz1⟩<;>(rw[hz1] at hzs; cases z<;>simp[kG.Oj] at hzs; rw[hzs])
                  subst hslot
                  have hsame0:hZ (o9 bp l vals (fun _=>true) n) zs=hZ (o9 bp l vals (fun _=>true) i) zs:=by
                   refine vE n aH fun p hp1 hp2=>?_
                   rintro⟨⟨x',hx',hdx⟩,_⟩;have:=bK.1 hnw p (eY.2 hp2);rw[fe,hx'] at this;simp[hdx,Nat.not_lt.2 hp1] at this
                  have hat:∀ {sl:List Nat},zt (o9 bp l vals (fun _=>true) n) (mems n) (mems (n+1)) sl->zs∈sl->nth (mems (n+1)) id=nth (mems n) id:=by
                   intro sl;induction sl with
                   |nil=>intro _ h; cases h
                   |cons z0 r0 ih0 =>
                    intro hs hm;rcases bH.1 hm with rfl|hm
                    ·have h6:=hs.1;rw[hsame0] at h6;simp only[fY.ev] at hidz;split at h6
                     ·rename_i id' off' he';rw[he'] at hidz;simp[ag.iH] at hidz;subst hidz;exact h6
                     ·exact h6.elim
                    ·exact ih0 hs.2 hm
                  rw[hat hsa hmem]; exact hb'
           exact chain q aH (av _)
         exact(JN hlo h1).2 z hsame hz1 hv
     obtain⟨q',G',haop,hG',hpan⟩:=hex;refine tY.wpIn (KP:=fun u w'=>Ib j1 G w1 (vals i,G') u w') (Af g1) (Ew hC g1 haop r1 (hG.mono x1) e1 ?_ fun u w' h=>h) ?_
     ·rintro v w' ⟨j',p1,p2,p3⟩
      have hnp:(vals i).jr=false:=by
       cases hvi:vals i<;>first|rfl|(rw[hvi] at p3; exact p3.Mh.elim)
      refine ih (listed.setIfInBounds i true) _ w' (by simpa using hsz) Cn down' (hin' hnp) ⟨j',q',G',hG',p1,?_,x1.trans p2,by rw[xI]; exact s1,by rw[put_defers]; exact d1⟩
      refine cq.Eu ?_ newEnv;rw[g2];exact(e1.mono p2).put s1 g4 p3
     ·rintro u w' ⟨hu,j',p1,p2⟩;simp only at hu;rcases hxe with ⟨n1,n2,_⟩|⟨n,y',v,n1,n2,n3,n4,n5,n6⟩
      ·have:=n2 i hiN; rw[hu] at this; cases this
      ·have hin0:i=n:=by
        rcases bA i n with h|h
        ·have:=n5 i h; rw[hu] at this; cases this
        ·omega
       subst hin0;rw[hy] at n2; cases n2;rw[hu] at n4; cases n4;have hmem:G'=mems N:=by rw[hpan n3,n1]
       rw[hmem] at p1 p2;rw[n6] at hQ;exact hQ a1 w' j' p1 (e1.nil p2) (x1.trans p2) s1 d1
    ·rw[aQ (by rw[GN e1 s1 g5 hgt (by rw[agree t (hgslot t want hgt)]; exact hgv)]; simp)]
     have hmem:∃q',G4 l.length mems E A0 (fun k=>(listed.setIfInBounds i true).getD k false) q' G:=by
      cases hEi:E i with
      |true =>
       have hAi:A0 i=false:=by
        cases hAi:A0 i with
        |false=>rfl
        |true =>
         obtain⟨y',_,_,_,n1,_,n5,_⟩:=hA i hiN hAi;rw[hy] at n1; cases n1;rw[n5] at hgt; cases hgt
       obtain⟨k1,k2⟩:=gB hEi hAi;rw[hm0,<-k1] at k2;exact⟨_,k2⟩
      |false=>exact⟨_,gC hEi⟩
     obtain⟨q',hG'⟩:=hmem;refine⟨fun _ _=>trivial,?_⟩
     refine ih (listed.setIfInBounds i true) _ w1 (by simpa using hsz) Cn down' (hin' (by rw[hv0]; rfl)) ⟨j1,q',G,hG',r1,?_,x1,by rw[xI]; exact s1,by rw[put_defers]; exact d1⟩
     refine cq.Eu ?_ newEnv;rw[g2,hv0];exact e1.put s1 g4 (.tuple (vs := #[]) rfl fun i c v h=>by simp at h)
 have q:Quiet w { w with drawn:=w.drawn+1 }:=⟨av _,rfl,rfl,rfl⟩
 have hrep:∀k,(Array.replicate ops.size false).getD k false=false:=fun k=>by
  simp only[dy,Array.getElem?_replicate];split<;>rfl
 have hleft:left (fun k=>(Array.replicate ops.size false).getD k false) l.length=ops.size:=by
  have:∀n,left (fun k=>(Array.replicate ops.size false).getD k false) n=n:=by
   intro n;induction n with
   |zero=>rfl
   |succ n ihn=>rw[left,ihn,hrep n]; rfl
  rw[this,dN]
 refine key ops.size _ a _ dw hleft (fun k o e _ hL=>by rw[show(fun k=>(Array.replicate ops.size false).getD k false) k=false from hrep k] at hL; cases hL) (fun k _ hL=>by rw[hrep k] at hL; cases hL) ⟨j,0,M,⟨cI _,.inl rfl,fun k _ _ _=>hrep k,by rw[m0],fun id => .inl (by rw[m0]),fun k h=>aH⟩,?_,?_,?_,hs,rfl⟩
 ·exact hr.grow q.size rfl rfl rfl fun _ _=>rfl
 ·refine cq.Eu (cq.mono he (Ext.grow q.size rfl rfl rfl fun _ _=>rfl)) fun t=>?_
  exact vE (i:=0) l.length (cI _) fun k _ _ hc=>by have h2:=hc.2; rw[hrep k] at h2; cases h2
 ·exact Ext.grow q.size rfl rfl rfl fun _ _=>rfl
end
def Kd{F:Fence}{nd:Nat}{P:Program}{c:Code}{Q Q':Exit->Act->World->Prop}{n:Nat}{a:Act}{w:World}(h:Code.roundsIn F nd P c Q n a w)(hq:∀e a w,Q e a w->Q' e a w):Code.roundsIn F nd P c Q' n a w:=by
 induction n generalizing a w with
 |zero=>exact h
 |succ n ih =>
  refine wpIn_mono h fun e a' w' h'=>?_
  cases e<;>simp[Exit.then] at h' ⊢ <;> first|exact ih h'|exact hq _ _ _ h'
theorem ph{bS:Nat}{M:aC}(hb:bS<=M.length):(iB bS M).length=bS:=by grind [iB]
theorem lF{bS:Nat}{M:aC}{i:Nat}(hi:i<bS):(iB bS M)[i]?=(M[i]?).map (cV.back bS M):=by
 grind [iB]
theorem RP(bS:Nat)(M:aC)(b:cV):(b.back bS M).tag=b.tag:=by cases b<;>rfl
def K3(bS:Nat)(M:aC)(b:cV):(b.back bS M).fixed=b.fixed:=by cases b<;>rfl
def K5{bS:Nat}{M:aC}{b:cV}(h:b.loose=true):b.back bS M=b:=by cases b<;>first|rfl|cases h
section
variable {bS:Nat} {M:aC} {j:J} {w:World} (hb:bS<=M.length)
include hb
def xc{b off:Nat}(h:nM j M w b off):nM j (iB bS M) w b off:=by
 refine⟨h.lt,fun id hid hj=>?_,h.nx⟩
 rw[ph hb] at hid;obtain⟨sz,n,h1,h2⟩:=h.ids _ aH hj;exact⟨sz,n,by rw[lF hid,h1]; rfl,h2⟩
def mW:∀b off,nM j M w b off->nM j (iB bS M) w b off/\w.cell? ⟨b,off,none⟩=w.cell? ⟨b,off,none⟩:=fun b off hs=>⟨xc hb hs,rfl⟩
def MT{id:Nat}(cQ:id<bS)(hM:∀bx,M[id]?=some bx->bx.loose=true):(iB bS M)[id]?=M[id]?:=by
 have h0:=ai (show id<M.length by omega)
 rw[lF cQ,h0,ep,K5 (hM _ h0)]
variable (hr:Rel j M w)
include hr
theorem AP{x:ag}{v:Value}(h:gk j M w x v):gk j (iB bS M) w (x.jy bS M) v:=by
 cases h with
 |plain h =>
  have:x.jy bS M=x:=by cases h<;>rfl
  rw[this];exact .plain (h.mono (mW hb))
 |c0 A=>exact .c0 A
 | @own k xs v sz n hk hn hp ht =>
  simp only[ag.jy];split
  ·rename_i cQ;exact .own (sz:=sz) (n:=n) (by rw[lF cQ,hk]; rfl) hn (hp.mono (mW hb)) ht
  ·exact .plain (hp.mono (mW hb))
 |agg=>exact .any _
 |tuple=>exact .any _
 | @ptr id off b hid hc hj =>
  simp only[ag.jy];split
  ·rename_i cQ;obtain⟨cs,hc⟩:=hc;exact .ptr (by rw[ph hb]; omega) ⟨_,by rw[lF cQ,hc]; rfl⟩ hj
  ·exact .any _
 |jF h=>exact .jF fun k c hk=>⟨(h k c hk).1,xc hb (h k c hk).2.1,(h k c hk).2.2.mono (mW hb)⟩
 |func=>exact .any _
 | @iy id b hc hj =>
  simp only[ag.jy];split
  ·rename_i cQ;obtain⟨ks,vs,hc⟩:=hc;exact .iy ⟨_,_,by rw[lF cQ,hc]; rfl⟩ hj
  ·exact .any _
 | @ka id b hc hj =>
  simp only[ag.jy];split
  ·rename_i cQ;obtain⟨ks,vs,hc⟩:=hc;exact .ka ⟨_,_,by rw[lF cQ,hc]; rfl⟩ hj
  ·exact .any _
 |kj cQ hf hx hw hk hv hks hvs =>
  exact .kj cQ (fun i hi=>hf i (by rw[ph hb] at hi; omega)) hx hw hk hv (fun i k e h1 h2=>(hks i k e h1 h2).mono (mW hb)) (fun i k e h1 h2=>(hvs i k e h1 h2).mono (mW hb))
 | @kv t id off b hc hj =>
  simp only[ag.jy];split
  ·rename_i cQ;obtain⟨cs,hc⟩:=hc;exact .kv ⟨_,by rw[lF cQ,hc]; rfl⟩ hj
  ·exact .any _
 |rb hl hd=>exact .rb hl fun i c v h1 h2=>(hd i c v h1 h2).mono (mW hb)
 | @cE id ver sz0 lo hi v h0 hid hM hv =>
  simp only[ag.jy];split
  ·rename_i cQ;have e:=MT hb cQ hM;exact .cE h0 (by rw[ph hb]; omega) (fun bx hbx=>hM bx (e▸hbx)) fun sz v' xs h=>hv sz v' xs (e▸h)
  ·rename_i hge;split
   ·rename_i sz v' xs hMi;split
    ·rename_i he;subst he;obtain⟨_,k2⟩:=hv sz v' xs hMi;obtain⟨rfl,l1,l2,⟨rfl,_,A,rfl⟩|⟨b,cap,vs,t,l3,rfl,l5,l6,l7⟩⟩:=k2 rfl
     ·simp only[nR,List.drop_nil];exact .plain (fP.nil _ _ _)
     obtain⟨b',vs',t',g1,g2,g3,g4,g5⟩:=hr.w9 hMi l3;rw[l3] at g1; cases g1;refine .plain (tJ g2 g4 g5 (fun b off h=>xc hb h) (fun off _=>⟨hr.lt id b hid l3,fun id' hid' hj'=>?_,hr.uM id b hid l3 off⟩) l1 l2 l5)
     rw[ph hb] at hid';have:=hr.inj id' id b aH hid hj' l3;omega
    ·exact .any _
   ·exact .any _
 | @jv id ver i off v h0 hid hM hv =>
  simp only[ag.jy];split
  ·rename_i cQ;have e:=MT hb cQ hM;exact .jv h0 (by rw[ph hb]; omega) (fun bx hbx=>hM bx (e▸hbx)) fun sz v' xs h=>hv sz v' xs (e▸h)
  ·exact .any _
 |any v=>exact .any v
theorem jB{x:ag}{v:Value}(h:gk j M w x v):gk j (iB bS M) w (x.jH bS M) v:=by
 by_cases hag:∃f cs,x = .func f cs
 ·obtain⟨f,caps,rfl⟩:=hag;obtain⟨vs,rfl,hl,hc⟩:=h.rC;refine .func jO fun i c u hi hu=>?_
  rw[aX,aU] at hi;obtain⟨c0,hc0,rfl⟩:=hi
  grind [AP]
 ·have e1:x.jH bS M=x.jy bS M:=by cases x<;>first|rfl|grind
  grind [AP]
theorem AQ{x:ag}{v:Value}(h:gk j M w x v):gk j (iB bS M) w (x.j4 bS M) v:=by
 by_cases hag:∃cs,x = .agg cs
 ·obtain⟨cs,rfl⟩:=hag;obtain⟨vs,rfl,hl,hc⟩:=h.mY;refine .agg jO fun i c u hi hu=>?_
  grind [jB]
 ·have e1:x.j4 bS M=x.jH bS M:=by cases x<;>first|rfl|grind
  grind [jB]
theorem O6{x:ag}{v:Value}(h:gk j M w x v):gk j (iB bS M) w (x.mG bS M) v:=by
 by_cases hag:∃cs,x = .tuple cs
 ·obtain⟨cs,rfl⟩:=hag;obtain⟨vs,rfl,hl,hc⟩:=h.tW;refine .tuple jO fun i c u hi hu=>?_
  grind [AQ]
 ·have e1:x.mG bS M=x.j4 bS M:=by cases x<;>first|rfl|grind
  grind [AQ]
theorem O5{bp:Env}{a:Act}(h:cq j M w bp a):cq j (iB bS M) w (wD bS M bp) a:=by
 refine⟨fun t=>?_,h.gl.iv fun b off hs=>xc hb hs⟩
 have:hZ (wD bS M bp) t=(hZ bp t).mG bS M:=by
  clear h hr hb;induction bp with
  |nil=>rfl
  |cons p r ih =>
   grind [wD,hZ]
 rw[this];exact O6 hb hr (h.at' t)
theorem Dq{x:ag}{v:Value}(h:gk j M w x v):gk j (iB bS M) w (x.jM bS M) v:=by
 cases x with
 |slice tk xs=>exact .plain (h.er.mono (mW hb))
 |iy id =>
  simp only[ag.jM];split
  ·have:=AP hb hr h;simp_all [ag.jy]
  ·split
   ·rename_i ks vs hM;split
    ·rename_i hp;simp only[bz,bK] at hp;obtain⟨b,_,hj,rfl⟩:=h.vM;obtain⟨b',hj',es,clock,g1,g2,g3,g4,g5⟩:=hr.fix id _ hM rfl;have:b'=b:=jO;subst this;have hid  := aN hM
     exact .kj (hr.lt id _ hid hj) (fun i hi he=>by
      rw[ph hb] at hi;have:=hr.inj i id _ aH hid he hj;omega) (hr.uM id _ hid hj) g1 g2 g3 (fun i k e h1 h2=>(g4 i k e h1 h2).mono (mW hb))
      fun i u e h1 h2=>(AN.vN (g5 i u e h1 h2) (hp.1 u (aJ h1))).mono (mW hb)
    ·exact .any _
   ·exact .any _
 |func f caps=>exact jB hb hr h
 |agg cs=>exact jB hb hr h
 |tuple cs=>exact jB hb hr h
 |bool b=>exact jB hb hr h
 |int k n=>exact jB hb hr h
 |str s=>exact jB hb hr h
 |ptr id off=>exact jB hb hr h
 |jF cs=>exact jB hb hr h
 |ka id=>exact jB hb hr h
 |cE id v sz lo hi=>exact jB hb hr h
 |jv id v i off=>exact jB hb hr h
 |rb f fs=>exact jB hb hr h
 |kv t id off=>exact jB hb hr h
 |kj ks vs=>exact jB hb hr h
 |raw v=>exact jB hb hr h
 |nH v=>exact h.Mh.elim
 |any=>exact .any _
theorem Dr{x:ag}{v:Value}(h:gk j M w x v):gk j (iB bS M) w (x.ki bS M) v:=by
 by_cases hag:∃cs,x = .agg cs
 ·obtain⟨cs,rfl⟩:=hag;obtain⟨vs,rfl,hl,hc⟩:=h.mY;refine .agg jO fun i c u hi hu=>?_
  grind [Dq]
 ·have e1:x.ki bS M=x.jM bS M:=by cases x<;>first|rfl|grind
  grind [Dq]
theorem FD{x:ag}{v:Value}(h:gk j M w x v):gk j (iB bS M) w (x.kK bS M) v:=by
 by_cases hag:∃cs,x = .tuple cs
 ·obtain⟨cs,rfl⟩:=hag;obtain⟨vs,rfl,hl,hc⟩:=h.tW;refine .tuple jO fun i c u hi hu=>?_
  grind [Dr]
 ·have e1:x.kK bS M=x.ki bS M:=by cases x<;>first|rfl|grind
  grind [Dr]
theorem K4{b:Nat}{bx:cV}(h:Holds j M w b bx):Holds j (iB bS M) w b (bx.back bS M):=by
 cases bx with
 |cells cs =>
  obtain⟨vs,t,h1,h2,h3⟩:=h;refine⟨vs,t,h1,jO,fun q c v hc hv=>?_⟩
  grind [jB]
 |tick=>trivial
 |map ks vs =>
  obtain⟨es,clock,h1,h2,h3,h4,h5⟩:=h;refine⟨es,clock,h1,h2,jO,fun i k e hk he=>(h4 i k e hk he).mono (mW hb),fun i k e hk he=>?_⟩
  grind [AQ]
 |nY s pos=>exact h
 |vZ=>trivial
 |arr=>trivial
theorem zH:Rel j (iB bS M) w:=by
 have ln:=ph hb;refine⟨fun i i' b hi hi'=>hr.inj i i' b aH aH,fun i b hi=>hr.lt i b aH,fun i bx h hf=>?_,fun i sz n b h hj=>?_,fun i sz ver xs h=>?_,fun i b hi=>hr.uM i b aH,hr.zz⟩
 ·have hi:i<bS:=jO;rw[lF hi,aU] at h;obtain⟨bx0,h1,rfl⟩:=h;obtain⟨b,g1,g2⟩:=hr.fix i bx0 h1 (by rw[<-K3 bS M]; omega)
  grind [K4]
 ·have hi:i<bS:=by rw[<-ln]; grind
  rw[lF hi,aU] at h;obtain⟨bx,h1,h2⟩:=h;cases bx with
  |tick sz0 n0=>exact hr.tick i sz0 n0 b h1 hj
  |cells cs=>cases h2
  |map ks vs=>cases h2
  |nY s p=>cases h2
  |vZ=>cases h2
  |arr sz v xs=>cases h2
 ·have hi:i<bS:=by rw[<-ln]; grind
  rw[lF hi,aU] at h;obtain⟨bx,h1,h2⟩:=h;cases bx with
  |arr sz0 v0 xs0 =>
   injection h2 with e1 e2 e3
   subst e1; subst e2; subst e3;obtain⟨g0,g1⟩|⟨b,vs,t,g1,g2,g3,g4,g5⟩:=hr.arr i _ _ _ h1
   ·grind
   exact .inr ⟨b,vs,t,g1,g2,g3,g4,fun q x k c hx hk=>(g5 q x k c hx hk).imp fun u hu=>⟨hu.1,hu.2.mono (mW hb)⟩⟩
  |cells cs=>cases h2
  |map ks vs=>cases h2
  |nY s p=>cases h2
  |vZ=>cases h2
  |tick sz n=>cases h2
omit hr in
theorem xb{j0:J}{M0:aC}{w0:World}(h0:M0.length<=bS)(hx:Ext j0 M0 w0 j M w):Ext j0 M0 w0 j (iB bS M) w where
 len:=by rw[ph hb]; omega
 size:=hx.size
 os:=hx.os
 tape:=hx.tape
 output:=hx.output
 X:=hx.X
 fix:=fun i bx h hf=>by
  obtain⟨h1,bx',h2,h3⟩:=hx.fix i bx h hf
  grind [aN,lF,RP,trans]
 tick:=fun i sz n h=>by
  obtain⟨n',h1,h2,h3⟩:=hx.tick i sz n h;have hi:i<bS:=jO;exact⟨n',h1,by rw[lF hi,h2]; rfl,h3⟩
 arr:=fun i sz v xs h=>by
  have hi:i<bS:=jO;rcases hx.arr i sz v xs h with ⟨n',g⟩|⟨v',xs',g1,g2⟩
  ·exact .inl ⟨n',by rw[lF hi,g]; rfl⟩
  ·exact .inr ⟨v',xs',by rw[lF hi,g1]; rfl,g2⟩
 tags:=hx.tags
 iv:=fun b off h=>⟨xc hb (hx.iv b off h).1,(hx.iv b off h).2⟩
 tV:=fun b cQ h=>⟨(hx.tV b cQ h).1,fun i hi=>(hx.tV b cQ h).2 i (by rw[ph hb] at hi; omega)⟩
end
def YK(A:BX)(j:J)(M:aC)(w:World)(a:Act)(o:Out):Exit->Act->World->Prop:=fun e a' w' =>
 e=rS o.e/\a'.tmps.size=A.n/\a'.defers=a.defers/\∃j',Rel j' o.mem w'/\cq j' o.mem w' o.bp a'/\Ext j M w j' o.mem w'
theorem BD{A:BX}{j:J}{M:aC}{w:World}{a:Act}{o:Out}{live:List Nat}{a':Act}{w':World}{j':J}(h1:Rel j' o.mem w')(h2:cq j' o.mem w' o.bp a')(h3:Ext j M w j' o.mem w')(h4:a'.tmps.size=A.n)
  (h5:a'.defers=a.defers):YK A j M w a (o.rn live) (rS o.e) a' w':=by
 obtain⟨e,bp,M'⟩:=o;cases e
 case normal=>exact⟨rfl,h4,h5,j',h1,h2.rn _,h3⟩
 all_goals exact⟨rfl,h4,h5,j',h1,h2,h3⟩
section
variable {P:Program} {C:eL} {A:BX}
def ZH{j:J}{M:aC}{w:World}{bp:Env}{a:Act}(t:Nat)(hr:Rel j M w)(he:cq j M w bp a):Rel j (qE M (hZ bp t).ids) w/\cq j (qE M (hZ bp t).ids) w (LQ M t bp) a/\Ext j M w j (qE M (hZ bp t).ids) w:=by
 obtain⟨f1,f2,f3,f4⟩:=zW (j:=j) (w:=w) (hZ bp t).ids hr;refine⟨f2,⟨fun t'=>?_,he.gl.mono f1⟩,f1⟩
 unfold LQ;rw[hZ];split
 ·rename_i e; rw[<-e]; exact(he.at' t).rz hr f1 f2 f3 fun id hid=>f4 id hid
 ·exact(he.at' t').mono f1
def Nw{F:cG->Env->aC->Option Out}(hF:∀t c bp M,F (.rz t c) bp M=F c (LQ M t bp) (qE M (hZ bp t).ids)){A:BX}{y:Code}{ac:cG}{j:J}{M:aC}{w:World}{bp:Env}{a:Act}{o:Out}(h:F (ZG A y ac) bp M=some o)(hr:Rel j M w)(he:cq j M w bp a) :
  ∃env' M',F ac env' M'=some o/\Rel j M' w/\cq j M' w env' a/\Ext j M w j M' w:=by
 unfold ZG at h;split at h
 ·obtain⟨h1,h2,h3⟩:=ZH _ hr he;exact⟨_,_,(hF _ _ _ _).symm.trans h,h1,h2,h3⟩
 ·exact⟨_,_,h,hr,he,.refl _ _ _⟩
theorem mH(hmix:P.follows .mixedOrders=true)(hC:ny P C){rd:Option Nat}{nd:Nat}:∀(c:Code){ac:cG},comp P A c=some ac->∀ {bp:Env} {M:aC} {o:Out},eM C ac bp M=some o->∀ {j:J} {w:World} {a:Act},Rel j M w->sW j M w->cq j M w bp a ->
  a.tmps.size=A.n->c.wpIn (Wd rd) nd P (YK A j M w a o) a w
 | .skip,ac,hc,bp,M,o,h,j,w,a,hr,hG,he,hs=>by
  simp only[comp] at hc; cases hc;simp only[eM] at h; cases h;exact wpIn_skip ⟨rfl,hs,rfl,j,hr,he,Ext.refl j M w⟩
 | .exit id,ac,hc,bp,M,o,h,j,w,a,hr,hG,he,hs=>by
  simp only[comp] at hc; cases hc;simp only[eM] at h; cases h;exact wpIn_exit ⟨rfl,hs,rfl,j,hr,he,Ext.refl j M w⟩
 | .ret,ac,hc,bp,M,o,h,j,w,a,hr,hG,he,hs=>by
  simp only[comp] at hc; cases hc;simp only[eM] at h; cases h;exact wpIn_ret ⟨rfl,hs,rfl,j,hr,he,Ext.refl j M w⟩
 | .region id ops draw,ac,hc,bp,M,o,h,j,w,a,hr,hG,he,hs=>by
  simp only[comp] at hc;cases draw with
  |true =>
   simp only[aF] at hc;obtain⟨l0,hl0,hc⟩:=bf hc;obtain⟨l,hl,hc⟩:=bf hc;cases hc;simp only[eM] at h;obtain⟨x,hx,h⟩:=bm h
   grind [Kb,BD]
  |false =>
   simp only[af,aE] at hc;obtain⟨l,hl,hc⟩:=bf hc;cases hc;simp only[eM] at h;obtain⟨x,hx,h⟩:=bm h;cases h;refine wpIn_region ?_;rw[lB];exact yj hC (grow:=[]) ops.toList 0 (by rfl) hl hx hr hG he hs fun a' w' j' h1 h2 h3 h4 h5=>BD h1 h2 h3 h4 h5
 | .seq x y,ac,hc,bp,M,o,h,j,w,a,hr,hG,he,hs=>by
  simp only[comp] at hc;obtain⟨ax,hx,hc⟩:=bf hc;obtain⟨ay,hy,hc⟩:=bf hc;cases hc;simp only[eM] at h;obtain⟨o1,h1,h⟩:=bm h;refine wpIn_seq (wpIn_mono (mH hmix hC x hx h1 hr hG he hs) ?_);rintro e a1 w1 ⟨he1,hs1,hd1,j1,r1,e1,x1⟩;rcases uh h with ⟨hn,h2⟩|⟨hn,h2⟩
  ·rw[hn] at he1;subst he1;obtain⟨env',M',h3,r3,e3,x3⟩:=Nw (F:=eM C) (fun _ _ _ _=>rfl) h2 r1 e1
   refine wpIn_mono (mH hmix hC y hy h3 r3 (hG.mono (x1.trans x3)) e3 hs1) ?_;rintro e a2 w2 ⟨he2,hs2,hd2,j2,r2,e2,x2⟩;exact⟨he2,hs2,hd2.trans hd1,j2,r2,e2,(x1.trans x3).trans x2⟩
  ·subst h2;have:rS o.e ≠ .normal:=by cases ho:o.e<;>simp_all [rS]
   subst he1
   cases hx:rS o.e<;>first
    |exact absurd hx this
    |(simp only[Exit.then]; exact⟨hx.symm,hs1,hd1,j1,r1,e1,x1⟩)
 | .cond c x y,ac,hc,bp,M,o,h,j,w,a,hr,hG,he,hs=>by
  simp only[comp] at hc;obtain⟨cc,hcc,hc⟩:=bf hc;obtain⟨ax,hx,hc⟩:=bf hc;obtain⟨ay,hy,hc⟩:=bf hc;cases hc;simp only[eM] at h;have h1:=cZ he hcc;split at h
  ·rename_i t ht;rw[ht] at h1;rcases lI h with ⟨rfl,h⟩|⟨rfl,h⟩
   ·exact wpIn_cond_true h1.jE (mH hmix hC x hx h hr hG he hs)
   ·exact wpIn_cond_false h1.jE (mH hmix hC y hy h hr hG he hs)
  grind
 | .block id c,ac,hc,bp,M,o,h,j,w,a,hr,hG,he,hs=>by
  simp only[comp] at hc;obtain⟨ax,hx,hc⟩:=bf hc;cases hc;simp only[eM] at h;obtain⟨o1,h1,h⟩:=bm h;cases h;refine wpIn_block (wpIn_mono (mH hmix hC c hx h1 hr hG he hs) ?_);rintro e a1 w1 ⟨he1,hs1,hd1,j1,r1,e1,x1⟩;subst he1;cases ho:o1.e with
  |normal=>simp only[rS,Exit.inBlock]; refine⟨?_,hs1,hd1,j1,?_⟩<;>simp[xE,ho,rS,r1,e1,x1]
  |ret=>simp only[rS,Exit.inBlock]; refine⟨?_,hs1,hd1,j1,?_⟩<;>simp[xE,ho,rS,r1,e1,x1]
  |nH v=>simp only[rS,Exit.inBlock]; refine⟨?_,hs1,hd1,j1,?_⟩<;>simp[xE,ho,rS,r1,e1,x1]
  |exit i =>
   simp only[rS,Exit.inBlock]
   by_cases hi:i=id
   ·rw[aZ hi]; refine⟨?_,hs1,hd1,j1,?_⟩<;>simp[xE,ho,rS,hi,r1,e1,x1]
   ·rw[aQ hi]; refine⟨?_,hs1,hd1,j1,?_⟩<;>simp[xE,ho,rS,hi,r1,e1,x1]
 | .loop c,ac,hc,bp,M,o,h,j,w,a,hr,hG,he,hs=>by
  simp only[comp] at hc;obtain⟨ax,hx,hc⟩:=bf hc;injection hc with hc
  obtain⟨g,hg,n,hn⟩:∃g:Nat->Nat->Nat,(∀p q,p<=q->p<=g p q/\g p q<=q)/\∃n,iter g (eM C ax) (find A.lp (ll c)) n bp M=some o:=by
   unfold NR at hc;split at hc<;>subst hc<;>simp only[eM] at h<;>obtain⟨n,hn⟩:=uq h
   ·exact⟨gR,fun p q h=>⟨h,av _⟩,n,hn⟩
   ·exact⟨gL,fun p q h=>⟨av _,h⟩,n,hn⟩
  refine wpIn_loop_rounds n ?_
  have key:∀n bp M j1 w1 a1,iter g (eM C ax) (find A.lp (ll c)) n bp M=some o->Rel j1 M w1->sW j1 M w1->cq j1 M w1 bp a1->a1.tmps.size=A.n ->
    Code.roundsIn (Wd rd) nd P c (YK A j1 M w1 a1 o) n a1 w1:=by
   intro n;induction n with
   |zero=>intro bp M j1 w1 a1 h; cases h
   |succ n ih =>
    intro bp M j1 w1 a1 h r1 hG1 e1 s1;rw[iter] at h;obtain⟨o1,h1,h⟩:=bm h;rw[roundsIn_succ];refine wpIn_mono (mH hmix hC c hx h1 r1 hG1 (e1.rn _) s1) ?_;rintro e a2 w2 ⟨he2,hs2,hd2,j2,r2,e2,x2⟩;rcases uh h with ⟨hn,h2⟩|⟨hn,h2⟩
    ·rw[hn] at he2;subst he2;obtain⟨b1,b2⟩:=hg _ _ x2.len;have:=ih _ _ j2 w2 a2 h2 (zH b2 r2) (hG1.mono (xb b2 b1 x2)) (O5 b2 r2 (e2.rn _)) hs2;simp only[rS,Exit.then]
     exact Kd this fun e a3 w3 ⟨g1,g2,g3,j3,g4,g5,g6⟩=>⟨g1,g2,g3.trans hd2,j3,g4,g5,(xb b2 b1 x2).trans g6⟩
    ·subst h2;have:rS o.e ≠ .normal:=by cases ho:o.e<;>simp_all [rS]
     subst he2
     cases hx:rS o.e<;>first
      |exact absurd hx this
      |(simp only[Exit.then]; exact⟨hx.symm,hs2,hd2,j2,r2,e2,x2⟩)
  grind
 | .rangeFunc ..,ac,hc,bp,M,o,h,j,w,a,hr,hG,he,hs=>by grind [comp]
 | .scope _,ac,hc,bp,M,o,h,j,w,a,hr,hG,he,hs=>by grind [comp]
 | .label _,ac,hc,bp,M,o,h,j,w,a,hr,hG,he,hs=>by grind [comp]
 | .goto _,ac,hc,bp,M,o,h,j,w,a,hr,hG,he,hs=>by grind [comp]
 | .refuse _,ac,hc,bp,M,o,h,j,w,a,hr,hG,he,hs=>by simp_all [comp]
theorem C9{bp:Env}{M:aC}{j:J}{w:World}{a:Act}(hr:Rel j M w)(he:cq j M w bp a):∀ {rs:List ResultVar} {ars:List sV} {l:List ag},IE P rs=some ars->te bp M ars=some l ->
  ∃vs:List Value,(rs.mapM fun r=>(match r with | .tmp t=>pure (a.tmps.getD t undef) | .cell q t=>do loadVar t (<-asAddr (a.tmps.getD q undef)):Sem Value)).run P w = .ok vs w/\l.length=vs.length /\
   ∀(i:Nat)(c:ag)(v:Value),l[i]?=some c->vs[i]?=some v->gk j M w c v
 | [],ars,l,h1,h2=>by
  simp_all [IE,te]
 | .tmp t::rs,ars,l,h1,h2=>by
  simp only[IE] at h1;obtain⟨ars',h3,h1⟩:=bf h1;cases h1;simp only[te,EI,bN] at h2;obtain⟨l',h4,h2⟩:=bm h2;cases h2;obtain⟨vs,g1,g2,g3⟩:=C9 hr he h3 h4
  refine⟨a.tmps.getD t undef::vs,by
   rw[List.mapM_cons,Sem.run_bind];simp_all,by simp[g2],fun i c v hc hv=>?_⟩
  cases i with
  |zero=>simp only[gm,ga] at hc hv; subst hc; subst hv; exact he.at' t
  |succ i=>grind
 | .cell q t::rs,ars,l,h1,h2=>by
  simp only[IE] at h1;obtain⟨g,hg,h1⟩:=bf h1;obtain⟨n,hn,h1⟩:=bf h1;obtain⟨ars',h3,h1⟩:=bf h1;cases h1;simp only[te] at h2;obtain⟨c0,hc0,h2⟩:=bm h2;obtain⟨l',h4,h2⟩:=bm h2;cases h2;obtain⟨vs,g1,g2,g3⟩:=C9 hr he h3 h4;have hq:=he.at' q
  have hload:∃v,(do loadVar t (<-asAddr (a.tmps.getD q undef)):Sem Value).run P w = .ok v w/\gk j M w c0 v:=by
   cases g with
   |true =>
    simp only[aF,EI] at hc0;split at hc0
    ·rename_i id off e;rw[e] at hq;obtain⟨b,_,_,hj,hv⟩:=hq.qq;rw[fe] at hc0;split at hc0
     ·rename_i cs hM;split at hc0
      ·rename_i hle;cases hc0;obtain⟨us,t0,hw,hl,hcs,hcell⟩:=xd hr hM hj
       have hrun:=pc (P:=P) (w:=w) b off n (fun k=>(us[off+k]?).getD undef) fun k hk=>by
        rw[hcell,bg aH]; simp
       refine⟨_,by simp only[hv,asAddr,Sem.run_bind,Sem.run_pure,Result.andThen_ok,loadVar,lK hg,aF,js hn,hrun]; rfl,.agg gr fun p c u hc hu=>?_⟩
       grind
      ·cases hc0
     ·cases hc0
    ·cases hc0
   |false =>
    simp only[af,aE,EI] at hc0;split at hc0
    ·rename_i id off e;rw[e] at hq;obtain⟨b,_,_,hj,hv⟩:=hq.qq;rw[fe] at hc0;split at hc0
     ·rename_i cs hM;rw[fe] at hc0;obtain⟨us,t0,hw,hl,hcs,hcell⟩:=xd hr hM hj;have cQ:=aN hc0;have hu:us[off]?=some (us[off]'(by omega)):=bg aH
      exact⟨_,by simp[hv,asAddr,loadVar,lK hg,hcell,hu],hcs _ _ _ hc0 hu⟩
     ·cases hc0
    ·cases hc0
  obtain⟨v0,hv0,hr0⟩:=hload;refine⟨v0::vs,?_,by simp[g2],fun i c v hc hv=>?_⟩
  ·rw[List.mapM_cons,Sem.run_bind,hv0];simp_all
  grind
def Bf:∀(args:List ag)(i t:Nat),hZ (ef i args) t=if i<=t then (args[t-i]?).getD .any else .any
 | [],i,t=>by simp[ef,hZ]
 |v::r,i,t=>by
  rw[ef,hZ,Bf r (i+1) t]
  by_cases h:i=t
  ·subst h; simp
  ·rw[aQ h]
   by_cases h2:i<=t
   ·rw[aZ aH,aZ h2,show t-i=(t-(i+1))+1 by omega]; simp
   ·rw[aQ aH,aQ h2]
def NY{j:J}{M:aC}{w:World}:∀ {l:List ag} {us:List Value},l.length=us.length->(∀(i:Nat)(c:ag)(v:Value),l[i]?=some c->us[i]?=some v->gk j M w c v) ->
  gk j M w (one l) (if h:us.toArray.size=1 then us.toArray[0] else .tuple us.toArray)
 | [c0],[v0],_,h=>by simpa[one] using h 0 c0 v0 rfl rfl
 | [],[],_,_=>by simpa[one] using(gk.tuple (j:=j) (M:=M) (w:=w) (cs:=[]) (vs := #[]) rfl fun i c v h=>by simp at h)
 |c0::c1::r,v0::v1::s,hl,h=>by
  have:¬(v0::v1::s).toArray.size=1:=dw;rw[dif_neg this];exact .tuple (by simpa using hl) fun i c v h1 h2=>h i c v h1 (by simpa using h2)
 | [],_::_,hl,_=>by simp at hl
 | [_],[],hl,_=>by simp at hl
 | [_],_::_::_,hl,_=>by simp at hl
 |_::_::_,[],hl,_=>by simp at hl
 |_::_::_,[_],hl,_=>by simp at hl
def Bb(hmix:P.follows .mixedOrders=true)(hC:ny P C){f:Nat}{fn:eE}{A:BX}{func:Func}(hf:P.funcs[f]?=some func)(hc:oW P A func=some fn){args:List ag}{M:aC}{x:ag×aC}{B:Nat}(hB:M.length<=B)(hB2:B<=M.length\/B<=x.2.length)
  (hl:args.length=fn.nparams) (h:bJ (eM C fn.body (ef 0 args) M) (finish fn.results B)=some x):lG P f=true/\dp P f args M x:=by
 unfold oW at hc;split at hc
 ·cases hc
 ·rename_i c hbody;split at hc
  ·rename_i hcond;obtain⟨hname,hn,hle⟩:=hcond;obtain⟨b,hb,hc⟩:=bf hc;obtain⟨rs,hrs,hc⟩:=bf hc;cases hc;refine⟨by simp[lG,hf,hbody,hname],fun j w vs hr hG dN hv=>?_⟩
   obtain⟨o,ho,hfin⟩:=bm h;simp only at hl;refine calls_of_wp hf hbody ?_;have hsz:(vs++Array.replicate (func.ntmps-vs.size) undef).size=A.n:=gr
   have he:cq j M w (ef 0 args) { tmps:=vs++Array.replicate (func.ntmps-vs.size) undef,defers:=[] }:=by
    refine⟨fun t=>?_,hG⟩
    rw[Bf,aZ (cI _),bO];rcases bA t args.length with ht|ht
    ·have h1:=ai ht;have cQ:t<vs.size:=aH;have h2:=bg cQ;rw[h1];have h3:=hv t _ _ h1 h2
     have:(vs++Array.replicate (func.ntmps-vs.size) undef).getD t undef=vs[t]:=by
      simp[dy,cd cQ,h2]
     rw[this];exact h3
    ·rw[fj ht]; exact .any _
   refine wp_mono (wpIn_wide.1 (mH (rd:=none) (nd:=0) hmix hC c hb ho hr hG he hsz)) ?_;rintro e a' w' ⟨he1,hs1,hd1,j1,r1,e1,x1⟩
   by_cases hpan:∃u,o.e = .nH u
   ·obtain⟨u,hu⟩:=hpan;rw[hu] at he1; subst he1;simp only[finish,hu] at hfin;cases hfin
    have hb:B<=o.mem.length:=by
     have:=x1.len;rcases hB2 with h|h
     ·omega
     ·simp[iB] at h; omega
    exact⟨hd1,.inr ⟨u,rfl,rfl,j1,zH hb r1,xb hb hB x1⟩⟩
   have hno:∀i,o.e ≠ .exit i:=by
    intro i hi;simp[finish,hi] at hfin
   have hfin':bJ (te o.bp o.mem rs) (fun l=>some ((one l).kK B o.mem,iB B o.mem))=some x:=by
    unfold finish at hfin;split at hfin
    ·rename_i i hi; exact absurd hi (hno i)
    ·rename_i u hu; exact absurd ⟨u,hu⟩ hpan
    ·exact hfin
   obtain⟨l,hl',hfin'⟩:=bm hfin';cases hfin';obtain⟨us,u1,u2,u3⟩:=C9 (P:=P) r1 e1 hrs hl'
   have hbase:B<=o.mem.length:=by
    have:=x1.len;rcases hB2 with h|h
    ·omega
    ·simp[iB] at h; omega
   have hres:(results func a'.tmps).run P w' = .ok (if h:us.toArray.size=1 then us.toArray[0] else .tuple us.toArray) w':=by
    unfold results;rw[lP,Sem.run_bind,Sem.run_map];refine iI (congrArg (fun r:Result (List Value)=>Result.andThen (r.andThen fun a w' => .ok a.toArray w') _) (iI ?_ u1)) rfl
    rfl
   have hone:gk j1 o.mem w' (one l) (if h:us.toArray.size=1 then us.toArray[0] else .tuple us.toArray):=by
    exact NY u2 u3
   have hfinal:∃v,(results func a'.tmps).run P w' = .ok v w'/\wa j M w ((one l).kK B o.mem,iB B o.mem) (.returned v) w' :=
    ⟨_,hres,.inl ⟨_,rfl,j1,zH hbase r1,xb hbase hB x1,FD hbase r1 hone⟩⟩
   cases hoe:o.e with
   |exit i=>exact absurd hoe (hno i)
   |nH u=>exact absurd ⟨u,hoe⟩ hpan
   |normal=>rw[hoe] at he1; subst he1; exact⟨hd1,hfinal⟩
   |ret=>rw[hoe] at he1; subst he1; exact⟨hd1,hfinal⟩
  ·cases hc
def Jl(hmix:P.follows .mixedOrders=true)(hC:ny P C){f:Nat}{fn:eE}{A:BX}{func:Func}(hf:P.funcs[f]?=some func)(hc:oW P A func=some fn){args:List ag}{M:aC}{x:ag×aC}
  (hl:args.length=fn.nparams) (h:bJ (eM C fn.body (ef 0 args) M) (finish fn.results M.length)=some x):lG P f=true/\dp P f args M x :=
 Bb hmix hC hf hc (av _) (.inl (av _)) hl h
noncomputable def J2(C:eL)(fn:eE)(d:Nat)(args:List ag)(M:aC):Option (ag×aC) :=
 if args.length=fn.nparams then bJ (bJ (eM C fn.body (ef 0 args) M) (finish fn.results (M.length+d))) fun x=>if x.2.length=M.length+d then some x else none else none
def F7(hmix:P.follows .mixedOrders=true)(hC:ny P C){f:Nat}{fn:eE}{A:BX}{func:Func}(hf:P.funcs[f]?=some func)(hc:oW P A func=some fn){d:Nat}{args:List ag}{M:aC}{x:ag×aC}
  (h:J2 C fn d args M=some x):lG P f=true/\dp P f args M x:=by
 unfold J2 at h;split at h
 ·rename_i hl;obtain⟨y,hy,h⟩:=bm h;split at h
  ·rename_i dN;cases h;exact Bb hmix hC hf hc (ko _ _) (.inr aH) hl hy
  ·cases h
 ·cases h
def af3{C:eL}{fn:eE}{d:Nat}{args:List ag}{M:aC}{x:ag×aC}(hl:args.length=fn.nparams)(h:bJ (eM C fn.body (ef 0 args) M) (finish fn.results (M.length+d))=some x)(hx:x.2.length=M.length+d):J2 C fn d args M=some x:=by
 unfold J2;rw[aZ hl,h,bN,aZ hx]
structure uQ(P:Program)(T:zA):Prop where
 code:∀f fn,T.code f=some fn->∃A func,P.funcs[f]?=some func/\oW P A func=some fn
 o4:∀f g,T.o4 f=some g->∀args M x,g args M=some x->lG P f=true/\dp P f args M x
def zE(hmix:P.follows .mixedOrders=true){T:zA}(hT:uQ P T):∀n,ny P (kd T n)
 |0,f,args,M,x,h=>by
  unfold kd at h;split at h
  ·rename_i g hg; exact hT.o4 f g hg args M x h
  ·cases h
 |n+1,f,args,M,x,h=>by
  rw[kd] at h;split at h
  ·rename_i g hg; exact hT.o4 f g hg args M x h
  ·split at h
   ·cases h
   ·rename_i fn hfn;split at h
    ·rename_i hl;obtain⟨A,func,h1,h2⟩:=hT.code f fn hfn;exact Jl hmix (zE hmix hT n) h1 h2 hl h
    ·cases h
def qW(hmix:P.follows .mixedOrders=true){T:zA}(hT:uQ P T):ny P (aq T):=fun f args M x h=>by
 obtain⟨n,hn⟩:=uq h;exact zE hmix hT n f args M x hn
end
section
variable {j:J} {M:aC} {w w':World}
def oy(b:Nat):∀(l:List Value)(o:Nat)(w:World),w.setCells b o l=pz w b o l
 | [],_,_=>rfl
 |v::r,o,w=>by rw[World.setCells,pz,oy b r]
end
noncomputable def mO(sz bytes:Nat):List ag->aC->Option (ag×aC)
 | [.slice _ xs],M=>match xs with
  | []=>some (.slice .c0 [],M)
  |x::r=>cu (wid (x::r) sz/\cB (x::r).length bytes) (some (.cE M.length 0 sz 0 (x::r).length,M++[.arr sz 0 (x::r)]))
 |_,_=>none
noncomputable def J0(sz bytes:Nat):List ag->aC->Option (ag×aC)
 | [.slice _ xs],M=>cu (wid xs sz/\cB xs.length bytes) (some (.slice .sh xs,M))
 |_,_=>none
noncomputable def sv(sz bytes:Nat):List ag->aC->Option (ag×aC)
 | [.slice _ xs],M=>cu (wid xs sz/\cB xs.length bytes) (some (.slice (.own M.length) xs,M++[.tick sz xs.length]))
 |_,_=>none
noncomputable def lJ(sz:Nat):List ag->aC->Option (ag×aC)
 | [.cE id ver sz' lo hi,.int .i64 i,.int .i64 i'],M=>match nth M id with
  |some (.arr sz0 v xs)=>cu (v=ver/\sz'=sz/\lo=0/\hi=xs.length/\0<=i/\i.toNat<xs.length/\i'=i+1/\xs.length<=2 ^ 44)
    (some (.cE id (ver+1) sz 0 (xs.length-1),jo M id (.arr sz0 (ver+1) (xs.take i.toNat++xs.drop (i.toNat+1)))))
  |_=>none
 |_,_=>none
noncomputable def lf(sz bytes:Nat):List ag->aC->Option (ag×aC)
 | [.cE id ver sz' lo hi,.int .i64 i,.slice _ [e]],M=>match nth M id with
  |some (.arr sz0 v xs)=>cu (v=ver/\sz'=sz/\lo=0/\hi=xs.length/\0<=i/\i.toNat<=xs.length/\e.cells.length=sz/\cB (xs.length+1) bytes)
    (some (.cE id (ver+1) sz 0 (xs.length+1),jo M id (.arr sz0 (ver+1) (xs.take i.toNat++e::xs.drop i.toNat))))
  |_=>none
 | [.slice .c0 [],.int .i64 i,.slice _ [e]],M=>cu (i=0/\e.cells.length=sz) (some (.cE M.length 0 sz 0 1,M++[.arr sz 0 [e]]))
 |_,_=>none
def zD(P:Program)(f:Nat)(E:TypeId)(sz bytes:Nat):Prop:=∀(b off n c:Nat)(news:List Value)(w:World),news.length=n*sz->n<=maxLen->n*bytes<=140737488355328->(∀j u,news[j]?=some u->w.cell? ⟨b,off+j,none⟩=some u)->(∀u∈news,u.oneCell'=true) ->
 Calls P f #[.slice (some ⟨b,off,none⟩) n c] w fun e w'=>∃v',e = .returned v'/\w'.ownsRow w.heap.size E sz v' n news/\v' ≠ .slice none 0 0/\Below w.heap.size w w'
def wX(P:Program)(f:Nat):Prop:=∀(A:Option Addr)(c:Nat)(w:World),Calls P f #[.slice A 0 c] w fun e w'=>(∃B,e = .returned (.slice B 0 0))/\Below w.heap.size w w'
def acf(P:Program)(f sz:Nat)(z:List Value):Prop:=∀(blk cap i i' n:Nat)(cs:List Value)(w:World),cs.length=n*sz->n<=cap->n<=9223372036854775807->i<n->i'=i+1 ->
 (∀p v,cs[p]?=some v->w.cell? ⟨blk,p,none⟩=some v/\w.frozen? ⟨blk,p,none⟩=false/\v.oneCell'=true) ->
 Calls P f #[.slice (some ⟨blk,0,none⟩) n cap,.int .i64 i,.int .i64 i'] w fun e w'=>e = .returned (.slice (some ⟨blk,0,none⟩) (n-1) cap) /\
  w'=(w.drew.setCells blk (i*sz) (cs.drop (i'*sz))).setCells blk ((n-1)*sz) z
def xU(sz:Nat)(w:World)(b:Nat)(row:Array Value)(t:TypeId)(n i:Nat)(cs vs:List Value)(e:Ending)(w':World):Prop :=
 ∃b' cap' row' t',e = .returned (.slice (some ⟨b',0,none⟩) (n+1) cap')/\n+1<=cap'/\w'.heap[b']?=some (.cells row' t' (0,0))/\cap'*sz<=row'.size /\
  (∀p,p<(n+1)*sz->row'[p]?=(cs.take (i*sz)++(vs++cs.drop (i*sz)))[p]?)/\Quiet w w' /\
  ((b'=b/\t'=t/\row'.size=row.size/\∀b0,b0≠b->b0<w.heap.size->w'.heap[b0]?=w.heap[b0]?)\/(w.heap.size<=b'/\∀b0,b0<w.heap.size->w'.heap[b0]?=w.heap[b0]?))
def Rp(P:Program)(f sz bytes:Nat):Prop:=∀(b n c i vb voff vc:Nat)(cs vs:List Value)(w:World)(row:Array Value)(t:TypeId),i<=n->n<=c->(n+1)*bytes<=140737488355328->n+1<=9223372036854775807->vb≠b->cs.length=n*sz->vs.length=sz->w.heap[b]?=some (.cells row t (0,0))->c*sz<=row.size ->
 (∀(p:Nat)(v:Value),cs[p]?=some v->row[p]?=some v)->(∀(p:Nat)(v:Value),vs[p]?=some v->w.cell? ⟨vb,voff+p,none⟩=some v)->(∀v∈cs,v.oneCell'=true)->(∀v∈vs,v.oneCell'=true) ->
 Calls P f #[.slice (some ⟨b,0,none⟩) n c,.int .i64 i,.slice (some ⟨vb,voff,none⟩) 1 vc] w (xU sz w b row t n i cs vs)
def Rq(P:Program)(f sz:Nat):Prop:=∀(A:Option Addr)(vb voff vc:Nat)(vs:List Value)(w:World)(row:Array Value),vs.length=sz->(∀(p:Nat)(v:Value),vs[p]?=some v->w.cell? ⟨vb,voff+p,none⟩=some v)->(∀v∈vs,v.oneCell'=true) ->
 Calls P f #[.slice A 0 0,.int .i64 0,.slice (some ⟨vb,voff,none⟩) 1 vc] w fun e w'=>xU sz w w.heap.size row 0 0 0 [] vs e w'
section
variable {P:Program} {f:Nat} {sz bytes:Nat} {E:TypeId}
def E2{α:Type}{vs:Array α}{p q r:ag}(h:[p,q,r].length=vs.size):∃a b c,vs = #[a,b,c]:=by
 obtain⟨l⟩:=vs
 match l,h with
 | [a,b,c],_=>simp
def C7{α:Type}{vs:Array α}{p:ag}(h:[p].length=vs.size):∃a,vs = #[a]:=by
 obtain⟨l⟩:=vs
 match l,h with
 | [a],_=>simp
def gk.xK{j:J}{M:aC}{w:World}{tk:Tk}{xs:List ag}{v:Value}(h:gk j M w (.slice tk xs) v):fP w (nM j M w) (.slice .sh xs) v:=h.er
theorem sC(hsz:0<sz)(hby:bytes*8<=2 ^ 20/\0<bytes)
  (hC:zD P f E sz bytes) (h0:wX P f)
  {args:List ag} {M:aC} {x:ag×aC} (h:mO sz bytes args M=some x):dp P f args M x:=by
 unfold mO at h;split at h
 ·refine nN.call ?_;intro j w vs hr hG hl hv;obtain⟨u,rfl⟩:=C7 hl;have h1:=(hv 0 _ u rfl rfl).xK;split at h
  ·cases h;obtain⟨A,cap,rfl,_,_⟩:=nZ (size:=sz) h1 (fun y hy=>by cases hy)
   refine(h0 A cap w).mono ?_;rintro e w' ⟨⟨B,rfl⟩,hb⟩;exact⟨_,j,rfl,hr.grow hb.size hb.os hb.tape hb.output hb.block,Ext.grow hb.size hb.os hb.tape hb.output hb.block,.c0 _⟩
  ·rename_i y r;obtain⟨⟨hw,hroom⟩,h⟩:=dq h;cases h;obtain⟨A,cap,rfl,hcap,h2⟩:=nZ h1 hw;obtain⟨b,off,rfl,us,hrl,hul,hone,hcell⟩:=h2.resolve_left dw;unfold cB at hroom;have hle:(y::r).length<=2 ^ 44:=aY (fL _ hby.2) hroom;refine(hC b off (y::r).length cap us w hul (by unfold maxLen; omega) aH (fun p u hp=>(hcell p u hp).1) hone).mono ?_
   rintro e w' ⟨v',rfl,⟨_,hown⟩,hnn,hb⟩;obtain⟨g,cap',cur,rfl,hg,hg',hn1,_,hcs,htk⟩:=hown.resolve_left (fun h=>hnn h.1)
   have q:Quiet w w':=⟨hb.size,hb.os,hb.tape,hb.output⟩;have hob:∀b,some g=some b->w.heap.size<=b/\b<w'.heap.size:=fun b h=>jO
   have hcl:∀p,p<us.length->cur[p]?=us[p]?:=fun p hp=>by
    rw[<-htk,bG (by rw[<-hul]; exact hp)]; simp
   have ext:Ext j M w (gH j M.length (some g)) (M++[.arr sz 0 (y::r)]) w':=Ext.push (fun b h=>(hob b h).1) q hb.block
   refine⟨_,gH j M.length (some g),rfl,hr.push hob q hb.block (fun h=>by cases h) (fun sz n b h _=>by cases h) (fun sz0 v0 xs0 he=>?_),ext,?_⟩
   ·injection he with e1 e2 e3
    subst e1; subst e3;have hat:∀j' M',Ext j M w j' M' w'->Fu j' M' w' g sz (y::r):=fun j' M' hx=>mF hg' hw (hrl.mono hx.iv) hcl
    refine .inr ⟨g,cur,E,rfl,hg',by rw[hcs]; grind,hw,fun j' M' hx q x k c hx' hk=>?_⟩
    obtain⟨vs,t,a1,a2,a3,a4⟩:=hat j' M' hx;rw[hg'] at a1; injection a1 with a1; injection a1 with a1 a1'
    subst a1;exact a4 q x k c hx' hk
   ·refine .cE (.inl ⟨g,0,cap',rfl,aH⟩) dw (fun bx hbx=>by rw[kh] at hbx; cases hbx; rfl) fun sz' v' xs hx=>?_
    rw[kh] at hx; injection hx with hx; injection hx with e1 e2 e3
    subst e1; subst e2; subst e3;exact⟨av _,fun _=>⟨rfl,cI _,av _,.inr ⟨g,cap',cur,E,by simp[gH],dw,aH,hg',by rw[aI]; omega⟩⟩⟩
 ·cases h
theorem Lp(hsz:0<sz)(hby:bytes*8<=2 ^ 20/\0<bytes)
  (hC:zD P f E sz bytes) (h0:wX P f)
  {args:List ag} {M:aC} {x:ag×aC} (h:J0 sz bytes args M=some x):dp P f args M x:=by
 unfold J0 at h;split at h
 ·rename_i tk xs;refine nN.call ?_;intro j w vs hr hG hl hv;obtain⟨u,rfl⟩:=C7 hl;have h1:=(hv 0 _ u rfl rfl).xK;obtain⟨⟨hw,hroom⟩,h⟩:=dq h;cases h;obtain⟨A,cap,rfl,hcap,h2⟩:=nZ h1 hw;rcases h2 with rfl|⟨b,off,rfl,us,hrl,hul,hone,hcell⟩
  ·refine(h0 A cap w).mono ?_;rintro e w' ⟨⟨B,rfl⟩,hb⟩;exact⟨_,j,rfl,hr.grow hb.size hb.os hb.tape hb.output hb.block,Ext.grow hb.size hb.os hb.tape hb.output hb.block,.plain (fP.nil _ _ _)⟩
  ·unfold cB at hroom;have hle  := aY (fL _ hby.2) hroom;refine(hC b off xs.length cap us w hul (by grind [maxLen]) aH (fun p u hp=>(hcell p u hp).1) hone).mono ?_
   rintro e w' ⟨v',rfl,⟨_,hown⟩,hnn,hb⟩;obtain⟨g,cap',cur,rfl,hg,hg',hn1,_,hcs,htk⟩:=hown.resolve_left (fun h=>hnn h.1)
   have ext:Ext j M w j M w':=Ext.grow hb.size hb.os hb.tape hb.output hb.block;refine⟨_,j,rfl,hr.grow hb.size hb.os hb.tape hb.output hb.block,ext,.plain ?_⟩
   have hcl:∀p,p<us.length->cur[p]?=us[p]?:=fun p hp=>by
    rw[<-htk,bG aH]; simp
   obtain⟨vs,t,a1,a2,a3,a4⟩:=mF (j':=j) hg' hw (hrl.mono ext.iv) hcl;rw[hg'] at a1; injection a1 with a1; injection a1 with a1 a1'
   subst a1;have:=tJ hg' a3 a4 (fun b off h=>h) (fun off ho=>⟨lt_of_block hg',fun id hid hji=>by have:=hr.lt id g hid hji; omega,fun hx=>by have:=hr.zz g off hx; omega⟩) (cI _) (av _) aH
   simpa using this
 grind
theorem zM(hsz:0<sz)(hby:bytes*8<=2 ^ 20/\0<bytes)
  (hC:zD P f E sz bytes) (h0:wX P f)
  {args:List ag} {M:aC} {x:ag×aC} (h:sv sz bytes args M=some x):dp P f args M x:=by
 unfold sv at h;split at h
 ·rename_i tk xs;refine nN.call ?_;intro j w vs hr hG hl hv;obtain⟨u,rfl⟩:=C7 hl;have h1:=(hv 0 _ u rfl rfl).xK;obtain⟨⟨hw,hroom⟩,h⟩:=dq h;cases h;obtain⟨A,cap,rfl,hcap,h2⟩:=nZ h1 hw;rcases h2 with rfl|⟨b,off,rfl,us,hrl,hul,hone,hcell⟩
  ·refine(h0 A cap w).mono ?_;rintro e w' ⟨⟨B,rfl⟩,hb⟩;have q:Quiet w w':=⟨hb.size,hb.os,hb.tape,hb.output⟩;refine⟨_,gH j M.length none,rfl,hr.push (fun b h=>by cases h) q hb.block (fun h=>by cases h) (fun _ _ _ _ h=>by cases h),Ext.push (fun b h=>by cases h) q hb.block,?_⟩
   refine .own (kh ..) (av _) (fP.nil _ _ _) fun _ => .inl ⟨by simp[gH],rfl,B,rfl⟩
  ·unfold cB at hroom;have hle:xs.length<=2 ^ 44:=aY (fL _ hby.2) hroom;refine(hC b off xs.length cap us w hul (by grind [maxLen]) aH (fun p u hp=>(hcell p u hp).1) hone).mono ?_
   rintro e w' ⟨v',rfl,⟨_,hown⟩,hnn,hb⟩;obtain⟨g,cap',cur,rfl,hg,hg',hn1,_,hcs,htk⟩:=hown.resolve_left (fun h=>hnn h.1)
   have q:Quiet w w':=⟨hb.size,hb.os,hb.tape,hb.output⟩;have hob:∀b,some g=some b->w.heap.size<=b/\b<w'.heap.size:=fun b h=>jO
   have ext:Ext j M w (gH j M.length (some g)) (M++[.tick sz xs.length]) w':=Ext.push (fun b h=>(hob b h).1) q hb.block
   refine⟨_,gH j M.length (some g),rfl,hr.push hob q hb.block (fun h=>by cases h) (fun _ _ b _ h=>jO),ext,?_⟩
   have hcl:∀p,p<us.length->cur[p]?=us[p]?:=fun p hp=>by
    rw[<-htk,bG (by rw[<-hul]; exact hp)]; simp
   obtain⟨vs,t,a1,a2,a3,a4⟩:=mF (j':=gH j M.length (some g)) (M':=M++[.tick sz xs.length]) hg' hw (hrl.mono ext.iv) hcl;rw[hg'] at a1; injection a1 with a1; injection a1 with a1 a1'
   subst a1
   have:=tJ (lo:=0) (hi:=xs.length) (cap:=cap') hg' a3 a4 (fun b off h=>h) (fun off ho=>⟨lt_of_block hg',fun id hid hji=>by
    rcases bA id M.length with hid'|hid'
    ·have hj:j id=some g:=by simpa[gH,gJ hid'] using hji
     have:=hr.lt id g hid' hj; omega
    grind,fun hx=>by have:=hr.zz g off hx; omega⟩) (cI _) (av _) aH
   refine .own (kh ..) (av _) (by simpa using this) fun _ => .inr ⟨g,cap',cur,E,by simp[gH],dw,hg',aH,aH⟩
 ·cases h
noncomputable def pCC(sz bytes:Nat)(args:List ag):aC->Option (ag×aC)
 | []=>J0 sz bytes args []
 |b::M=>mO sz bytes args (b::M)
def RZ(hsz:0<sz)(hby:bytes*8<=2 ^ 20/\0<bytes)
  (hC:zD P f E sz bytes) (h0:wX P f)
  {args:List ag} {M:aC} {x:ag×aC} (h:pCC sz bytes args M=some x):dp P f args M x:=by
 cases M with
 |nil=>exact Lp hsz hby hC h0 h
 |cons b M=>exact sC hsz hby hC h0 h
def tz(hsz:0<sz){z:List Value}(hz:z.length=sz)
  (hD:acf P f sz z)
  {args:List ag} {M:aC} {x:ag×aC} (h:lJ sz args M=some x):dp P f args M x:=by
 unfold lJ at h;split at h
 ·rename_i id ver sz' lo hi i i';rw[fe] at h;split at h
  ·rename_i sz0 v0 xs hM;obtain⟨hc,h⟩:=dq h;cases h;obtain⟨rfl,rfl,rfl,rfl,hi0,hin,rfl,hbig⟩:=hc;refine nN.call ?_;intro j w vs hr hG hl hv;obtain⟨u1,u2,u3,rfl⟩:=E2 hl;have h2:=(hv 1 _ u2 rfl rfl).fW;have h3:=(hv 2 _ u3 rfl rfl).fW;subst h2; subst h3;obtain⟨_,hid,_,g⟩:=(hv 0 _ u1 rfl rfl).nh;obtain⟨e1,_,_,⟨rfl,l3,B,rfl⟩|⟨b,cap,row,t0,l3,l4,l5,l6,l7⟩⟩:=(g sz0 v0 xs hM).2 rfl
   ·exact absurd hin dw
   subst e1; subst l4;obtain⟨b',row',t',k1,k2,k3,k4,k5⟩:=hr.w9 hM l3;rw[l3] at k1; cases k1;rw[l6] at k2; injection k2 with k2; injection k2 with k2 k2'
   subst k2; subst k2';have hrow:=xZ (b:=b) k3 k4 k5;rw[bO] at l5;rw[aI] at l7;generalize hcs:row.toList.take (xs.length*sz0)=cs at hrow;have hcl:cs.length=xs.length*sz0:=by rw[<-hcs]; simp; omega
   have hat:∀p v,cs[p]?=some v->row[p]?=some v:=fun p v hp=>by
    have cQ:p<xs.length*sz0:=by rw[<-hcl]; exact aN hp
    rw[<-hcs,bG cQ] at hp; simpa using hp
   obtain⟨m,rfl⟩:∃m:Nat,i=m:=⟨i.toNat,(oH (by assumption)).symm⟩
   simp only[eN] at hin ⊢;have e0:((m:Int)+1)=((m+1:Nat):Int):=rfl;rw[bO,jG,e0];refine(hD b cap m (m+1) xs.length cs w hcl l5 aH hin rfl (fun p v hp=>⟨by simp[World.cell?,l6,hat p v hp],by simp[World.frozen?,l6],?_⟩)).mono ?_
   ·have hp':p<(kc xs).length:=by rw[hrow.1]; exact aN hp
    exact fP.one (hrow.2 p _ v (ai hp') hp)
   ·rintro e w' ⟨rfl,hw'⟩;rw[oy,oy] at hw';have hl1:(cs.drop ((m+1)*sz0)).length=(xs.length-(m+1))*sz0:=by rw[hU,hcl,mD]
    have ha1:(m+1)*sz0=m*sz0+sz0:=by rw[bP,fM]
    have ha2:(xs.length-(m+1))*sz0=xs.length*sz0-(m*sz0+sz0):=by rw[mD,ha1]
    have ha3:(xs.length-1)*sz0=xs.length*sz0-sz0:=by rw[mD,fM]
    have ha4:m*sz0+sz0<=xs.length*sz0:=by rw[<-ha1]; exact bd _ hin
    have hd:w.drew.heap=w.heap:=rfl;obtain⟨s1,s2,s3,s4,s5,r1,s6,s7,s8,s9⟩:=mu (t:=t0) (cs.drop ((m+1)*sz0)) w.drew (m*sz0) row (by rw[hd]; exact l6) (by rw[hl1]; omega)
    obtain⟨q1,q2,q3,q4,q5,r2,q6,q7,q8,q9⟩:=mu (t:=t0) z _ ((xs.length-1)*sz0) r1 s6 (by rw[hz,s7]; omega)
    rw[<-hw'] at q1 q2 q3 q4 q5 q6;have hwd:wid (xs.take m++xs.drop (m+1)) sz0:=nD (vY k4) (vX k4)
    have jq:RL w (nM j M w) (kc (xs.take m++xs.drop (m+1))) (cs.take (m*sz0)++cs.drop ((m+1)*sz0)):=by
     rw[oX,sb m k4,uf (m+1) k4];exact(hrow.take _).append (hrow.drop _)
    have htk:(cs.take (m*sz0)).length=m*sz0:=by rw[cf,hcl]; omega
    have hput:=xY (ver':=v0+1) (xs':=xs.take m++xs.drop (m+1)) hr hM l3 (w':=w') ⟨by rw[q1,s1]; simp,q2.trans s2,q3.trans s3,q4.trans s4⟩ (fun b' hb' _=>(q5 b' hb').trans (s5 b' hb')) l6 q6 (q7.trans s7) aH (fun h=>aH) hwd jq (fun p hp=>by
     rw[aA,htk,hl1] at hp;rw[q8 p (.inl aH)];rcases bA p (m*sz0) with c1|c1
     ·rw[s8 p (.inl c1),aO (by rw[htk]; exact c1),bG c1]
      have hp1:p<cs.length:=aH;rw[hat p _ (ai hp1),ai hp1]
     ·rw[bj (by rw[htk]; exact c1),htk]
      have:=s9 (p-m*sz0) (by rw[hl1]; omega)
      rw[dx c1] at this;exact this)
    rw[fH];refine⟨_,j,rfl,hput.1,hput.2,.cE (.inl ⟨b,0,cap,rfl,aH⟩) (by simpa using hid) (fun bx hbx=>by rw[ei (aN hM)] at hbx; cases hbx; rfl) fun sz' v' ys hx=>?_⟩
    rw[ei (aN hM)] at hx; injection hx with hx; injection hx with e1 e2 e3
    subst e1; subst e2; subst e3;exact⟨av _,fun _=>⟨rfl,cI _,gr,.inr ⟨b,cap,r2,t0,l3,dw,aH,q6,by rw[aI,q7,s7]; exact l7⟩⟩⟩
  ·cases h
 ·cases h
end
section
variable {sz:Nat} {w:World} {b n c i:Nat} {row:Array Value} {t:TypeId} {cs vs:List Value} {e:Ending} {w':World}
def rY(w:World)(o:Obj):(w.alloc o).heap=w.heap.push o:=rfl
def tN(w:World):w.drew.heap=w.heap:=rfl
def CF{A B C:List Value}{p:Nat}:(A++(B++C))[p]?=if p<A.length then A[p]? else if p<A.length+B.length then B[p-A.length]? else C[p-A.length-B.length]?:=by
 split
 ·rw[aO (by assumption)]
 ·rw[bj aH];split
  ·rw[aO aH]
  ·rw[bj aH]
def PN(hi:i<n)(hroom:n+1<=c)(hcl:cs.length=n*sz)(hvl:vs.length=sz)(hw:w.heap[b]?=some (.cells row t (0,0)))(hrow:c*sz<=row.size)(hat:∀(p:Nat)(v:Value),cs[p]?=some v->row[p]?=some v)
  (he:e = .returned (.slice (some ⟨b,0,none⟩) (n+1) c)) (hw':w'=(w.drew.setCells b ((i+1)*sz) (cs.drop (i*sz))).setCells b (i*sz) vs):xU sz w b row t n i cs vs e w':=by
 have a1:(i+1)*sz=i*sz+sz:=by rw[bP,fM]
 have a2:(n+1)*sz=n*sz+sz:=by rw[bP,fM]
 have a3:i*sz+sz<=n*sz:=by rw[<-a1]; exact bd _ hi
 have a4:(n+1)*sz<=row.size:=aY (bd _ hroom) hrow;have hdl:(cs.drop (i*sz)).length=n*sz-i*sz:=by rw[hU,hcl]
 rw[oy,oy] at hw';obtain⟨s1,s2,s3,s4,s5,r1,s6,s7,s8,s9⟩:=mu (t:=t) (cs.drop (i*sz)) w.drew ((i+1)*sz) row hw aH;obtain⟨q1,q2,q3,q4,q5,r2,q6,q7,q8,q9⟩:=mu (t:=t) vs _ (i*sz) r1 s6 aH;rw[<-hw'] at q1 q2 q3 q4 q5 q6;have htk:(cs.take (i*sz)).length=i*sz:=by rw[cf,hcl]; omega
 refine⟨b,c,r2,t,he,hroom,q6,by rw[q7,s7]; exact hrow,fun p hp=>?_,⟨by rw[q1,s1]; exact av _,q2.trans s2,q3.trans s3,q4.trans s4⟩,.inl ⟨rfl,rfl,q7.trans s7,fun b0 h0 _=>(q5 b0 h0).trans (s5 b0 h0)⟩⟩
 rw[CF,htk,hvl];split
 ·rename_i c1;rw[q8 p (.inl c1),s8 p (.inl aH),bG c1];have hp1:p<cs.length:=aH;rw[hat p _ (ai hp1),ai hp1]
 ·rename_i c1;split
  ·have:=q9 (p-i*sz) aH;rwa[dx aH] at this
  ·rw[q8 p (.inr aH)];have:=s9 (p-(i+1)*sz) aH;rw[dx aH] at this;rw[this]; congr 1; omega
def Tp(hroom:n+1<=c)(hcl:cs.length=n*sz)(hvl:vs.length=sz)(hw:w.heap[b]?=some (.cells row t (0,0)))(hrow:c*sz<=row.size)(hat:∀(p:Nat)(v:Value),cs[p]?=some v->row[p]?=some v)
  (he:e = .returned (.slice (some ⟨b,0,none⟩) (n+1) c)) (hw':w'=w.setCells b (n*sz) vs):xU sz w b row t n n cs vs e w':=by
 have a2:(n+1)*sz=n*sz+sz:=by rw[bP,fM]
 have a4:(n+1)*sz<=row.size:=aY (bd _ hroom) hrow;rw[oy] at hw';obtain⟨q1,q2,q3,q4,q5,r2,q6,q7,q8,q9⟩:=mu (t:=t) vs w (n*sz) row hw aH;rw[<-hw'] at q1 q2 q3 q4 q5 q6;refine⟨b,c,r2,t,he,hroom,q6,by rw[q7]; exact hrow,fun p hp=>?_,⟨by rw[q1]; exact av _,q2,q3,q4⟩,.inl ⟨rfl,rfl,q7,fun b0 h0 _=>q5 b0 h0⟩⟩
 rw[<-hcl,bE,nI,dz];rcases bA p cs.length with c1|c1
 ·rw[q8 p (.inl aH),aO c1,hat p _ (ai c1),ai c1]
 ·rw[bj c1];have:=q9 (p-n*sz) aH;rw[dx aH] at this;rw[this,hcl]
def z6{z:Value}{E:TypeId}(hsz:0<sz)(hz:z.cells.size=sz)(hcl:cs.length=n*sz)(hvl:vs.length=sz)(hG:n+1<=c)
  (he:e = .returned (.slice (some ⟨w.heap.size,0,none⟩) (n+1) c)) (hw':w'=w.drew.alloc (.cells ((cs++vs).toArray++Builtin.zeroCells z.cells (c-(n+1))) E)):xU sz w b row t n n cs vs e w':=by
 have a2:(n+1)*sz=n*sz+sz:=by rw[bP,fM]
 have hzl:(Builtin.zeroCells z.cells (c-(n+1))).size=(c-(n+1))*sz:=by simp[Builtin.zeroCells,hz]
 have a3:c*sz=(n+1)*sz+(c-(n+1))*sz:=by rw[<-bP,dx hG]
 subst hw';refine⟨w.heap.size,c,(cs++vs).toArray++Builtin.zeroCells z.cells (c-(n+1)),E,he,hG,by rw[rY,tN]; simp,by simp[hzl,hcl,hvl]; omega,fun p hp=>?_,⟨by rw[rY,tN]; simp,rfl,rfl,rfl⟩,.inr ⟨av _,fun b0 h0=>by rw[rY,tN]; simp[fV,gJ h0]⟩⟩
 rw[cd gr,<-hcl,bE,nI,dz];simp
def Tn{z:Value}{E:TypeId}(hsz:0<sz)(hz:z.cells.size=sz)(hi:i<n)(hcl:cs.length=n*sz)(hvl:vs.length=sz)(hG:n+1<=c)
  (he:e = .returned (.slice (some ⟨w.heap.size,0,none⟩) (n+1) c))
  (hw':w'=(((w.alloc (.cells ((cs.take (i*sz)).toArray++Builtin.zeroCells z.cells (n+1-i)++Builtin.zeroCells z.cells (c-(n+1))) E)).drew.setCells w.heap.size (i*sz) vs).drew).setCells w.heap.size ((i+1)*sz) (cs.drop (i*sz))):xU sz w b row t n i cs vs e w':=by
 have a1:(i+1)*sz=i*sz+sz:=by rw[bP,fM]
 have a2:(n+1)*sz=n*sz+sz:=by rw[bP,fM]
 have a3:i*sz+sz<=n*sz:=by rw[<-a1]; exact bd _ hi
 have hz1:(Builtin.zeroCells z.cells (n+1-i)).size=(n+1-i)*sz:=by simp[Builtin.zeroCells,hz]
 have hz2:(Builtin.zeroCells z.cells (c-(n+1))).size=(c-(n+1))*sz:=by simp[Builtin.zeroCells,hz]
 have a4:c*sz=(n+1)*sz+(c-(n+1))*sz:=by rw[<-bP,dx hG]
 have a5:(n+1)*sz=i*sz+(n+1-i)*sz:=by rw[<-bP,dx aH]
 have htk:(cs.take (i*sz)).length=i*sz:=by rw[cf,hcl]; omega
 have hdl:(cs.drop (i*sz)).length=n*sz-i*sz:=by rw[hU,hcl]
 generalize hR:(cs.take (i*sz)).toArray++Builtin.zeroCells z.cells (n+1-i)++Builtin.zeroCells z.cells (c-(n+1))=ROW at hw';have hRs:ROW.size=c*sz:=by rw[<-hR]; simp only[fZ,hz1,hz2,db,htk]; omega
 have hR0:∀p,p<i*sz->ROW[p]?=cs[p]?:=fun p hp=>by
  rw[<-hR,cd (by simp only[fZ,hz1,db,htk]; omega),cd (by simp only[db,htk]; exact hp)]
  simp[bG hp]
 rw[oy,oy] at hw';have h0:((w.alloc (.cells ROW E)).drew).heap[w.heap.size]?=some (.cells ROW E (0,0)):=by rw[tN,rY]; simp
 obtain⟨s1,s2,s3,s4,s5,r1,s6,s7,s8,s9⟩:=mu (t:=E) vs _ (i*sz) ROW h0 aH;obtain⟨q1,q2,q3,q4,q5,r2,q6,q7,q8,q9⟩:=mu (t:=E) (cs.drop (i*sz)) (pz ((w.alloc (.cells ROW E)).drew) w.heap.size (i*sz) vs).drew ((i+1)*sz) r1 s6 aH;rw[<-hw'] at q1 q2 q3 q4 q5 q6;have hpush:((w.alloc (.cells ROW E)).drew).heap.size=w.heap.size+1:=by rw[tN,rY]; simp
 refine⟨w.heap.size,c,r2,E,he,hG,q6,aH,fun p hp=>?_,⟨?_,q2.trans s2,q3.trans s3,q4.trans s4⟩,.inr ⟨av _,fun b0 hb0=>?_⟩⟩
 ·rw[CF,htk,hvl];split
  ·rename_i c1;rw[q8 p (.inl aH),s8 p (.inl c1),hR0 p c1,bG c1]
  ·rename_i c1;split
   ·rw[q8 p (.inl aH)];have:=s9 (p-i*sz) aH;rwa[dx aH] at this
   ·have:=q9 (p-(i+1)*sz) aH;rw[dx aH] at this;rw[this]; congr 1; omega
 ·have e1:(pz ((w.alloc (.cells ROW E)).drew) w.heap.size (i*sz) vs).drew.heap.size=(pz ((w.alloc (.cells ROW E)).drew) w.heap.size (i*sz) vs).heap.size:=rfl;omega
 ·rw[q5 b0 aH];refine(s5 b0 aH).trans ?_;rw[tN,rY]; simp[fV,gJ hb0]
end
def tC{P:Program}{f sz bytes:Nat}(hsz:0<sz)(hby:0<bytes)
  (hI:Rp P f sz bytes) (h0:Rq P f sz)
  {args:List ag} {M:aC} {x:ag×aC} (h:lf sz bytes args M=some x):dp P f args M x:=by
 unfold lf at h;split at h
 ·rename_i id ver sz' lo hi i tk el;rw[fe] at h;split at h
  ·rename_i sz0 v0 xs hM;obtain⟨hc,h⟩:=dq h;cases h;obtain⟨rfl,rfl,rfl,rfl,hi0,hin,hel,hroom⟩:=hc;refine nN.call ?_;intro j w vs hr hG hl hv;obtain⟨u1,u2,u3,rfl⟩:=E2 hl;have h2:=(hv 1 _ u2 rfl rfl).fW;subst h2;have h3:=(hv 2 _ u3 rfl rfl).xK;have hwe:wid [el] sz':=fun y hy=>by rw[bT.1 hy]; exact hel
   obtain⟨A,vc,rfl,_,h4⟩:=nZ h3 hwe;obtain⟨vb,voff,rfl,us,hrl,hul,hone,hcell⟩:=h4.resolve_left dw;obtain⟨_,hid,_,g⟩:=(hv 0 _ u1 rfl rfl).nh;obtain⟨e1,_,_,⟨rfl,l3,B,rfl⟩|⟨b,cap,row,t0,l3,l4,l5,l6,l7⟩⟩:=(g sz0 v0 xs hM).2 rfl
   ·subst e1;have hm0:i=0:=by simp at hin; omega
    subst hm0;have hvl:us.length=sz0:=by simpa using hul
    refine(h0 B vb voff vc us w #[] hvl (fun p v hp=>(hcell p v hp).1) hone).mono ?_
    rintro e w' ⟨b',cap',row',t',rfl,d1,d2,d3,d4,q,d5⟩
    have hbk:w.heap.size<=b'/\∀b0,b0<w.heap.size->w'.heap[b0]?=w.heap[b0]?:=by
     rcases d5 with ⟨rfl,_,_,d7⟩|d5
     ·exact⟨av _,fun b0 hb0=>d7 b0 (gJ hb0) hb0⟩
     ·exact d5
    have hrel:=Rel.vg (ver':=v0+1) (xs':=[el]) hM hr q hbk.2 hbk.1 (lt_of_block d2) aH (fun j' M' hx=>mF d2 hwe (hrl.mono hx.iv) (fun p hp=>by have:=d4 p aH; simpa using this))
    have hext:=Ext.vg (j:=j) (ver':=v0+1) (xs':=[el]) hM q hbk.2 hbk.1 aH;rw[fH];refine⟨_,_,rfl,by simpa using hrel,by simpa using hext,.cE (.inl ⟨b',0,cap',rfl,by simpa using d1⟩) (by simpa using hid) (fun bx hbx=>by rw[ei (aN hM)] at hbx; cases hbx; rfl) fun sz' v' ys hx=>?_⟩
    rw[ei (aN hM)] at hx; injection hx with hx; injection hx with e1 e2 e3
    subst e1; subst e2; subst e3;exact⟨av _,fun _=>⟨rfl,cI _,dw,.inr ⟨b',cap',row',t',by simp[gH],dw,by simpa using d1,d2,by rw[aI]; exact d3⟩⟩⟩
   subst e1; subst l4;obtain⟨b',row',t',k1,k2,k3,k4,k5⟩:=hr.w9 hM l3;rw[l3] at k1; cases k1;rw[l6] at k2; injection k2 with k2; injection k2 with k2 k2'
   subst k2; subst k2';have hrow:=xZ (b:=b) k3 k4 k5;rw[bO] at l5;rw[aI] at l7;generalize hcs:row.toList.take (xs.length*sz0)=cs at hrow;have hcl:cs.length=xs.length*sz0:=by rw[<-hcs]; simp; omega
   have hat:∀p v,cs[p]?=some v->row[p]?=some v:=fun p v hp=>by
    have cQ:p<xs.length*sz0:=by rw[<-hcl]; exact aN hp
    rw[<-hcs,bG cQ] at hp; simpa using hp
   obtain⟨m,rfl⟩:∃m:Nat,i=m:=⟨i.toNat,(oH (by assumption)).symm⟩
   simp only[eN] at hin ⊢;unfold cB at hroom;have hbig:xs.length+1<=2 ^ 44:=aY (fL _ hby) hroom;have hvl:us.length=sz0:=by simpa using hul
   have hvb:vb≠b:=by
    rintro rfl;obtain⟨s,n,hs1,_⟩:=(hcell 0 _ (ai aH)).2.ids id hid l3;rw[hM] at hs1; cases hs1
   rw[bO,jG];refine(hI b xs.length cap m vb voff vc cs us w row t0 hin l5 aH aH hvb hcl hvl l6 l7 hat (fun p v hp=>(hcell p v hp).1) (fun v hv=>?_) hone).mono ?_
   ·obtain⟨p,hp⟩:=bV hv;have hp':p<(kc xs).length:=by rw[hrow.1]; exact aN hp
    exact fP.one (hrow.2 p _ v (ai hp') hp)
   ·rintro e w' ⟨b',cap',row',t',rfl,d1,d2,d3,d4,q,d5⟩
    have hwd:wid (xs.take m++el::xs.drop m) sz0:=nD (vY k4) (fun y hy=>by
     rcases bH.1 hy with rfl|hy
     ·exact hel
     ·exact vX k4 y hy)
    have jq:RL w (nM j M w) (kc (xs.take m++el::xs.drop m)) (cs.take (m*sz0)++(us++cs.drop (m*sz0))):=by
     rw[oX,oY,sb m k4,uf m k4];have hrl':RL w (nM j M w) el.cells us:=by simpa[kc] using hrl
     exact(hrow.take _).append (hrl'.append (hrow.drop _))
    have dN:(xs.take m++el::xs.drop m).length=xs.length+1:=gr;have hpl:(cs.take (m*sz0)++(us++cs.drop (m*sz0))).length=(xs.length+1)*sz0:=by rw[<-jq.1,iT hwd,dN]
    rw[fH];rcases d5 with ⟨rfl,rfl,d6,d7⟩|⟨d6,d7⟩
    ·have hput:=xY (ver':=v0+1) (xs':=xs.take m++el::xs.drop m) hr hM l3 q d7 l6 d2 d6 aH (fun h=>aH) hwd jq (fun p hp=>d4 p (by rw[<-hpl]; exact hp))
     refine⟨_,j,rfl,hput.1,hput.2,.cE (.inl ⟨b',0,cap',rfl,aH⟩) (by simpa using hid) (fun bx hbx=>by rw[ei (aN hM)] at hbx; cases hbx; rfl) fun sz' v' ys hx=>?_⟩
     rw[ei (aN hM)] at hx; injection hx with hx; injection hx with e1 e2 e3
     subst e1; subst e2; subst e3;exact⟨av _,fun _=>⟨rfl,cI _,aH,.inr ⟨b',cap',row',t',l3,dw,aH,d2,by rw[aI]; exact d3⟩⟩⟩
    ·have hrel:=Rel.vg (ver':=v0+1) (xs':=xs.take m++el::xs.drop m) hM hr q d7 d6 (lt_of_block d2) aH (fun j' M' hx=>mF d2 hwd (jq.mono hx.iv) (fun p hp=>d4 p (by rw[<-hpl]; exact hp)))
     have hext:=Ext.vg (j:=j) (ver':=v0+1) (xs':=xs.take m++el::xs.drop m) hM q d7 d6 aH;refine⟨_,_,rfl,hrel,hext,.cE (.inl ⟨b',0,cap',rfl,aH⟩) (by simpa using hid) (fun bx hbx=>by rw[ei (aN hM)] at hbx; cases hbx; rfl) fun sz' v' ys hx=>?_⟩
     rw[ei (aN hM)] at hx; injection hx with hx; injection hx with e1 e2 e3
     subst e1; subst e2; subst e3;exact⟨av _,fun _=>⟨rfl,cI _,aH,.inr ⟨b',cap',row',t',by simp[gH],dw,aH,d2,by rw[aI]; exact d3⟩⟩⟩
  ·cases h
 ·rename_i i tk el;obtain⟨hc,h⟩:=dq h;cases h;obtain⟨rfl,hel⟩:=hc;refine nN.call ?_;intro j w vs hr hG hl hv;obtain⟨u1,u2,u3,rfl⟩:=E2 hl;have h2:=(hv 1 _ u2 rfl rfl).fW;subst h2;have h3:=(hv 2 _ u3 rfl rfl).xK;have hwe:wid [el] sz:=fun y hy=>by rw[bT.1 hy]; exact hel
  obtain⟨A,vc,rfl,_,h4⟩:=nZ h3 hwe;obtain⟨vb,voff,rfl,us,hrl,hul,hone,hcell⟩:=h4.resolve_left dw;obtain⟨B,rfl⟩:=(hv 0 _ u1 rfl rfl).Dv;have hvl:us.length=sz:=by simpa using hul
  refine(h0 B vb voff vc us w #[] hvl (fun p v hp=>(hcell p v hp).1) hone).mono ?_
  rintro e w' ⟨b',cap',row',t',rfl,d1,d2,d3,d4,q,d5⟩
  have hbk:w.heap.size<=b'/\∀b0,b0<w.heap.size->w'.heap[b0]?=w.heap[b0]?:=by
   rcases d5 with ⟨rfl,_,_,d7⟩|d5
   ·exact⟨av _,fun b0 hb0=>d7 b0 (gJ hb0) hb0⟩
   ·exact d5
  have hob:∀b,some b'=some b->w.heap.size<=b/\b<w'.heap.size:=fun b h=>by cases h; exact⟨hbk.1,lt_of_block d2⟩
  have ext:Ext j M w (gH j M.length (some b')) (M++[.arr sz 0 [el]]) w':=Ext.push (fun b h=>(hob b h).1) q hbk.2
  refine⟨_,gH j M.length (some b'),rfl,hr.push hob q hbk.2 (fun h=>by cases h) (fun sz n b h _=>by cases h) (fun sz0 v0 xs0 he=>?_),ext,?_⟩
  ·injection he with e1 e2 e3
   subst e1; subst e3;refine .inr ⟨b',row',t',rfl,d2,by simp at d1 d3 ⊢; exact aY (Nat.le_mul_of_pos_left _ aH) d3,hwe,fun j' M' hx q x k c hx' hk=>?_⟩
   obtain⟨vs,t,a1,a2,a3,a4⟩:=mF (j':=j') (M':=M') d2 hwe (hrl.mono hx.iv) (fun p hp=>by have:=d4 p aH; simpa using this)
   rw[d2] at a1; injection a1 with a1; injection a1 with a1 a1'
   subst a1;exact a4 q x k c hx' hk
  ·refine .cE (.inl ⟨b',0,cap',rfl,aH⟩) dw (fun bx hbx=>by rw[kh] at hbx; cases hbx; rfl) fun sz' v' xs hx=>?_
   rw[kh] at hx; injection hx with hx; injection hx with e1 e2 e3
   subst e1; subst e2; subst e3;exact⟨av _,fun _=>⟨rfl,cI _,av _,.inr ⟨b',cap',row',t',by simp[gH],dw,aH,d2,by rw[aI]; exact d3⟩⟩⟩
 ·cases h
end Go.Abs
namespace Go.Proofs.YteoamaffclmdbaaGreatDoor
open Go Go.Abs
open Go.RowKit Go.Lib
def GV{P:Program}(w:World){o:Oper}{a:Act}{K:Act->World->Prop}{Q:Exit->Act->World->Prop}(d s:Operand)(t t':TypeId)
  (ho:o.op = .call { callee := .builtin .copy,args := #[d,s],argTypes := #[t,t'] }) (v u:Value) (hd:a.eval d=v) (hs:a.eval s=u) {v':Value} {w':World}
  (hr:(Builtin.copy_ #[t,t'] o.type #[v,u]).run P w = .ok v' w') (h:K (a.put o.dst v') w'):o.wp P a w K Q:=by
 unfold Oper.wp execOp;simp only[ho,resolve,invoke,builtin,Sem.run_bind,Sem.run_pure,Result.andThen_ok,List.map_toArray,aK,aV,hd,hs,hr];exact h
def vp{P:Program}(w:World){ops:Array Oper}{rest:List Oper}{o:Oper}{a:Act}{Q:Exit->Act->World->Prop}(hgd:o.guard=none)(d s:Operand)(t t':TypeId)
  (ho:o.op = .call { callee := .builtin .copy,args := #[d,s],argTypes := #[t,t'] }) (v u:Value) (hd:a.eval d=v) (hs:a.eval s=u) {v':Value} {w':World}
  (hr:(Builtin.copy_ #[t,t'] o.type #[v,u]).run P w = .ok v' w') (h:wpList P ops Q rest (a.put o.dst v') w'):wpList P ops Q (o::rest) a w :=
 wpList_plain hgd fun _ hK=>GV w d s t t' ho v u hd hs hr (hK _ _ h)
def CD{P:Program}{ops:Array Oper}{o:Oper}{a:Act}{w:World}{K:Act->World->Prop}{Q:Exit->Act->World->Prop}{E:Prop}
  (hg:o.guard=none) (d x:Operand) (dT sT:TypeId) (hop:o.op=Op.call { callee:=Callee.builtin Builtin.copy,args := #[d,x],argTypes := #[dT,sT] })
  (v u:Value) (hd:a.eval d=v) (hx:a.eval x=u) {v':Value} {w':World} (hr:(Builtin.copy_ #[dT,sT] o.type #[v,u]).run P w = .ok v' w') (hK:K (a.put o.dst v') w') :
  if Region.wanted o (yielded ops a.tmps) then Oper.wp P o a w K Q else E:=by
 rw[aZ (show Region.wanted o (yielded ops a.tmps)=true by simp[Region.wanted,hg])]
 exact GV w d x dT sT hop v u hd hx hr hK
def Fq{P:Program}{ops:Array Oper}{o:Oper}{a:Act}{w:World}{K:Act->World->Prop}{Q:Exit->Act->World->Prop}{E:Prop}
  (hg:o.guard=none) (d x:Operand) (dT sT:TypeId) (hop:o.op=Op.call { callee:=Callee.builtin Builtin.append,args := #[d,x],argTypes := #[dT,sT] })
  (v u:Value) (hd:a.eval d=v) (hx:a.eval x=u) {v':Value} {w':World} (hr:(Builtin.append_ #[dT,sT] o.type #[v,u]).run P w = .ok v' w') (hK:K (a.put o.dst v') w') :
  if Region.wanted o (yielded ops a.tmps) then Oper.wp P o a w K Q else E:=by
 rw[aZ (show Region.wanted o (yielded ops a.tmps)=true by simp[Region.wanted,hg])]
 exact wp_append_run w d x dT sT hop v u hd hx v' w' hr hK
section
variable {P:Program} {S E:TypeId} {k by' f fo:Nat} {z:Value}
def ym(w:World)(dT sT ty elem:TypeId)(k b o dLen dCap:Nat)(a:Addr)(sLen sCap:Nat)(cs:List Value)(m:Nat)
  (hu:P.underlying dT=some (.slice elem)) (hs:(P.info? elem).map (·.size)=some k) (hm:m=Nat.min sLen dLen) (hn:cs.length=m*k)
  (hsrc:∀j v,cs[j]?=some v->w.cell? (a.add j)=some v) (hc:∀j,j<cs.length->(w.cell? ⟨b,o+j,none⟩).isSome=true) (hf:∀j,j<cs.length->w.frozen? ⟨b,o+j,none⟩=false) (h1:∀v∈cs,v.oneCell'=true) :
  (Builtin.copy_ #[dT,sT] ty #[.slice (some ⟨b,o,none⟩) dLen dCap,.slice (some a) sLen sCap]).run P w = .ok (goInt m) (w.setCells b o cs):=by
 have hl:=run_loadCells_list (P:=P) w a cs hsrc;have hst:=run_storeCells_cells (P:=P) b o cs 0 w (by simpa using hc) (by simpa using hf) h1
 cases hq:P.info? elem with
 |none=>simp[hq] at hs
 |some i =>
  have hi:i.size=k:=by simpa[hq] using hs
  simp only[dj] at hst;rw[hn] at hl;subst hm;simp[Builtin.copy_,run_underlying hu,Builtin.lenOf,Builtin.firstCells,sizeOf,typeInfo,hq,hi,hl,hst]
def EM(w:World)(tS tR e:TypeId)(ht:P.underlying tS=some (.slice e))(size:Nat)(hz:∀w,(Go.sizeOf e).run P w = .ok size w)
  (a b:Addr) (la ca lb cb:Nat) (hne:a.block≠b.block) (tA tB:TypeId) (kA:Nat) (vs:Array Value) (hsa:w.shape? a.block=some (tA,kA+1)) (hb:w.heap[b.block]?=some (.cells vs tB (0,0))) :
  (Extern.SlicesOverlaps.overlaps #[tS,tS] #[tR] #[.slice (some a) la ca,.slice (some b) lb cb]).run P w = .ok (.bool false) w:=by
 have hnb:(a.block != b.block)=true:=by simpa using hne
 have hnb':(a.block==b.block)=false:=by simpa using hne
 have hsb:w.shape? b.block=some (tB,vs.size):=by simp[World.shape?,hb]
 have hfb:∀o s,w.frozen? ⟨b.block,o,s⟩=false:=fun o s=>by simp[World.frozen?,hb]
 have hfb':w.frozen? b=false:=by simp[World.frozen?,hb]
 rw[show Extern.SlicesOverlaps.overlaps #[tS,tS] #[tR] #[.slice (some a) la ca,.slice (some b) lb cb]=(underlying tS >>= _) from rfl]
 by_cases h0:la=0\/lb=0\/size=0
 ·simp[run_underlying ht,hz,h0]
 ·cases hfa:w.frozen? a with
  |true=>simp[run_underlying ht,hz,h0,hnb,hnb',frozen,noView,viewAt,mayBeOne,stringish,shape,Sem.run,hsa,hsb,hfa,hfb,hfb']
  |false =>
   cases hfe:w.frozen? { block:=a.block,off:=kA+1 } <;>
   simp[run_underlying ht,hz,h0,hnb,hnb',frozen,noView,viewAt,mayBeOne,stringish,shape,Sem.run,hsa,hsb,hfa,hfb,hfb',hfe]
def CU(w:World)(t e ty:TypeId)(ht:P.underlying t=some (.slice e)){i:TypeInfo}(hi:P.info? e=some i){z:Value}(hz:i.zero=some z)(b o n c:Nat)(hn:0<n)
  (zs:List Value) (hzs:zs=(Builtin.zeroCells z.cells n).toList) (hc:∀j,j<zs.length->(w.cell? ⟨b,o+j,none⟩).isSome=true) (hf:∀j,j<zs.length->w.frozen? ⟨b,o+j,none⟩=false) (h1:∀v∈zs,v.oneCell'=true) :
  (Builtin.clear_ #[t] ty #[.slice (some ⟨b,o,none⟩) n c]).run P w = .ok (.tuple #[]) (w.setCells b o zs):=by
 have hst:=run_storeCells_cells (P:=P) b o zs 0 w (by simpa using hc) (by simpa using hf) h1
 simp only[dj] at hst;rw[hzs] at hst;obtain⟨m,rfl⟩:∃m,n=m+1:=⟨n-1,aH⟩;rw[hzs];simp[Builtin.clear_,run_underlying ht,zeroValue,typeInfo,hi,hz,hst]
def qQ(b:Nat)(vs:List Value)(o:Nat)(w:World)(h:∀j,j<vs.length->(w.cell? ⟨b,o+j,none⟩).isSome=true)(k:Nat)(hk:(w.cell? ⟨b,k,none⟩).isSome=true):((w.setCells b o vs).cell? ⟨b,k,none⟩).isSome=true:=by
 by_cases hin:o<=k/\k<o+vs.length
 ·have:=World.cell?_setCells_in b vs o w h (k-o) aH;rw[show o+(k-o)=k by omega] at this
  rw[this];simp
 ·rw[World.cell?_setCells_out b vs o w ⟨b,k,none⟩ (fun _ _=>by show k<o\/o+vs.length<=k; omega)]
  exact hk
structure El(P:Program)(S E:TypeId)(k by':Nat)(z:Value):Prop where
 u:P.underlying S=some (.slice E)
 i:∃i0,P.info? E=some i0/\i0.size=k/\i0.zero=some z/\i0.bytes=by'
 c:z.cells.size=k
 o:∀v∈z.cells.toList,v.oneCell'=true
 p:0<k
 b:0<by'
def El.of(hu:P.underlying S=some (.slice E))(hi:(P.info? E).map (fun i=>(i.size,i.zero,i.bytes))=some (k,some z,by'))(hc:z.cells.size=k/\z.cells.toList.all (·.oneCell')=true)(hp:0<k)(hb:0<by'):El P S E k by' z:=by
 obtain⟨i0,h1,h2⟩:=aU.1 hi;injection h2 with h2 h3
 injection h3 with h3 h4
 exact⟨hu,⟨i0,h1,h2,h3,h4⟩,hc.1,bK.1 hc.2,hp,hb⟩
def El.s(h:El P S E k by' z):(P.info? E).map (·.size)=some k:=by
 obtain⟨i0,h1,h2,_⟩:=h.i;rw[h1]; simp[h2]
def El.so(h:El P S E k by' z)(w:World):(Go.sizeOf E).run P w = .ok k w:=by
 obtain⟨i0,h1,h2,_⟩:=h.i;simp[sizeOf,typeInfo,h1,h2]
def El.q(h:El P S E k by' z):(∀(w:World)(a:Option Addr)(n c n' c':Nat),(binOp .eql S (.slice a n c) (.slice none n' c')).run P w = .ok (.bool a.isNone) w)/\∀w,Sem.run P (underlying S) w = .ok (TypeDesc.slice E) w :=
 ⟨fun w a n c n' c'=>Lib.run_eql_slice_nil w _ _ a n c n' c' h.u,run_underlying h.u⟩
def wY(P:Program)(f:Nat)(S E:TypeId):Prop:=∀(b off n c:Nat)(w:World)(K:Value->World->Prop),
 (∀ {ops:Array Oper} {rest:List Oper} {o:Oper} {a:Act} {Q:Exit->Act->World->Prop},o.guard=none->∀s x,o.op = .call { callee := .builtin .append,args := #[s,x],argTypes := #[S,S] }->a.eval s = .slice (some ⟨w.heap.size,0,none⟩) 0 0 ->
  a.eval x = .slice (some ⟨b,off,none⟩) n c->(∀v' w1,K v' w1->wpList P ops Q rest (a.put o.dst v') w1)->wpList P ops Q (o::rest) a (w.alloc (.cells #[] E))) ->
 Calls P f #[.slice (some ⟨b,off,none⟩) n c] w fun e w'=>∃v',e = .returned v'/\K v' w'
def wW(P:Program)(f:Nat)(S E:TypeId):Prop:=∀(A:Option Addr)(c:Nat)(w:World),
 (∀ty a,(Builtin.append_ #[S,S] ty #[.slice (some ⟨w.heap.size,0,none⟩) 0 0,.slice (some a) 0 c]).run P (w.alloc (.cells #[] E)) = .ok (.slice (some ⟨w.heap.size,0,none⟩) 0 0) (w.alloc (.cells #[] E))) ->
 Calls P f #[.slice A 0 c] w fun e w'=>(∃B,e = .returned (.slice B 0 0))/\(w'=w\/w'=w.alloc (.cells #[] E))
def uc(h:El P S E k by' z)(hw:wY P f S E):zD P f E k by':=by
 intro b off n c news w hl hn hbig hc h1;obtain⟨i0,g1,g2,g3,g4⟩:=h.i;refine(hw b off n c w (fun v' w'=>w'.ownsRow w.heap.size E k v' n news/\v' ≠ .slice none 0 0/\Below w.heap.size w w') ?_).mono fun e w' ⟨v',e1,e2⟩=>⟨v',e1,e2⟩
 intro ops rest o a Q hg s x ho hs hx hK;refine wpList_append_own _ hg s x S ho w.heap.size E i0 z k by' h.u g1 g3 g2 g4 h.c h.p _ _ _ hs (World.ownsRow_made w #[] 0 (av _) (cI _) dw) ⟨b,off,none⟩ n c news hx hl (fun j u hj=>?_) h1 (by rw[aI]; exact hn) (by rw[aI]; exact hbig) dw ?_
 ·rw[Addr.add_lit];exact Lib.cell?_alloc_some _ (hc j u hj)
 ·intro v' w1 hown hgrow hnil;refine hK v' w1 ⟨by simpa using hown,by simpa using hnil,?_⟩
  exact((Below.refl _ w).alloc (av _) _).grown hgrow dw (by intro k hk; simp[Value.ownBlock] at hk; omega)
def sa(h:El P S E k by' z)(hw:wW P f S E):wX P f:=by
 intro A c w;refine(hw A c w fun ty a=>?_).mono fun e w' ⟨h1,h2⟩=>⟨h1,?_⟩
 ·simp[Builtin.append_,run_underlying h.u,h.so,Builtin.lenOf,Builtin.firstCells,loadCells,loadCellsFrom,storeCells]
 ·rcases h2 with rfl|rfl
  ·exact Below.refl _ _
  ·exact(Below.refl _ w).alloc (av _) _
def Rb(P:Program)(f:Nat)(S:TypeId)(k:Nat):Prop:=∀(blk cap i j n:Nat)(A:Addr)(w W1 W2:World),(if cap=j then some (⟨blk,0,none⟩:Addr) else some ⟨blk,j*k,none⟩)=some A ->
 (∀ty,(Builtin.append_ #[S,S] ty #[.slice (some ⟨blk,0,none⟩) i cap,.slice (some A) (n-j) (cap-j)]).run P w.drew = .ok (.slice (some ⟨blk,0,none⟩) (i+(n-j)) cap) W1) ->
 (∀ty,(Builtin.clear_ #[S] ty #[.slice (some ⟨blk,(i+(n-j))*k,none⟩) (n-(i+(n-j))) (cap-(i+(n-j)))]).run P W1 = .ok (.tuple #[]) W2) ->
 n<=cap->n<=9223372036854775807->i<n->i<=cap->i<j->j<=cap->j<=n ->
 Calls P f #[.slice (some ⟨blk,0,none⟩) n cap,.int .i64 i,.int .i64 j] w fun e w'=>e = .returned (.slice (some ⟨blk,0,none⟩) (i+(n-j)) cap)/\w'=W2
def He(h:El P S E k by' z)(hw:Rb P f S k):acf P f k z.cells.toList:=by
 intro blk cap i j n cs w hl hcap hm hi hj hH;obtain⟨i0,g1,g2,g3,g4⟩:=h.i;have a1:j*k=i*k+k:=by rw[hj,mU]
 have a2:j*k<=n*k:=bd _ aH;have a3:(n-j)*k=n*k-j*k:=mD ..;have a4:(n-1)*k=n*k-k:=by rw[mD,fM]
 obtain⟨news,hnews⟩:∃news,news=cs.drop (j*k):=⟨_,rfl⟩;have dN:news.length=(n-j)*k:=by rw[hnews,hU,hl,a3]
 have hsome:∀p,p<n*k->(w.cell? ⟨blk,p,none⟩).isSome=true/\w.frozen? ⟨blk,p,none⟩=false:=fun p hp=>by
  obtain⟨h1,h2,_⟩:=hH p _ (ai aH);exact⟨by rw[h1]; rfl,h2⟩
 obtain⟨A,hA,hsrc⟩:∃A:Addr,(if cap=j then some (⟨blk,0,none⟩:Addr) else some ⟨blk,j*k,none⟩)=some A/\∀t u,news[t]?=some u->w.drew.cell? (A.add t)=some u:=by
  by_cases hc:cap=j
  ·refine⟨⟨blk,0,none⟩,by simp[hc],fun t u hu=>?_⟩
   have e0:n-j=0:=aH;have h0:news.length=0:=by rw[dN,e0,jG]
   rw[dU.1 h0] at hu;simp at hu
  ·refine⟨⟨blk,j*k,none⟩,by simp[hc],fun t u hu=>?_⟩
   rw[hnews,cS] at hu;rw[Addr.add_lit];exact(hH _ _ hu).1
 have s2:∀u∈news,u.oneCell'=true:=by
  intro u hu;rw[hnews] at hu;obtain⟨p,hp⟩:=bV (dA hu);exact(hH p u hp).2.2
 have hW1c:∀p,p<n*k->((w.drew.setCells blk (i*k) news).cell? ⟨blk,p,none⟩).isSome=true:=fun p hp =>
  qQ blk news _ w.drew (fun q hq=>(hsome (i*k+q) (by rw[dN] at hq; omega)).1) p (hsome p hp).1
 have hW1f:∀p,p<n*k->(w.drew.setCells blk (i*k) news).frozen? ⟨blk,p,none⟩=false:=fun p hp=>by
  rw[World.frozen?_setCells];exact(hsome p hp).2
 have hin:i+(n-j)=n-1:=aH;have hzl:z.cells.toList.length=k:=by simp[h.c]
 have hzz:∀q,q<z.cells.toList.length->(n-1)*k+q<n*k:=fun q hq=>by
  have:k<=n*k:=Nat.le_mul_of_pos_left _ aH;omega
 refine(hw blk cap i j n A w (w.drew.setCells blk (i*k) news) ((w.drew.setCells blk (i*k) news).setCells blk ((n-1)*k) z.cells.toList) hA (fun ty=>?_) (fun ty=>?_) hcap hm hi aH aH aH aH).mono ?_
 ·have hr:=run_append_room_cells (P:=P) w.drew S ty E i0 h.u g1 blk 0 i cap A (n-j) (cap-j) news (by rw[g2,dN]) hsrc s2 aH (fun q hq=>by rw[g2,aI]; exact(hsome _ aH).1) (fun q hq=>by rw[g2,aI]; exact(hsome _ aH).2)
  rw[g2,aI] at hr;exact hr
 ·rw[hin];exact CU _ _ _ ty h.u g1 g3 blk _ _ _ aH _ (by rw[show n-(n-1)=1 by omega,rP]; simp) (fun q hq=>hW1c _ (hzz q hq)) (fun q hq=>hW1f _ (hzz q hq)) h.o
 ·rintro e w' ⟨rfl,rfl⟩;exact⟨by rw[hin],by rw[hnews]⟩
def Dh(P:Program)(f fo:Nat)(S:TypeId)(k:Nat):Prop:=∀(b n c i vb voff vc:Nat)(vs:List Value)(w W1:World),
 (∀lb cb,(callFunc fo #[.slice (some ⟨vb,voff,none⟩) 1 vc,.slice (some ⟨b,(i+1)*k,none⟩) lb cb]).run P w = .ok (.value (.bool false)) w) ->
 (∀ty dc sc,(Builtin.copy_ #[S,S] ty #[.slice (some ⟨b,(i+1)*k,none⟩) (n-i) dc,.slice (some ⟨b,i*k,none⟩) (n+1-i) sc]).run P w.drew = .ok (goInt ((n-i:Nat):Int)) W1) ->
 (∀W:World,(∀x,W.cell? x=W1.cell? x)->(∀x,W.frozen? x=W1.frozen? x)->∀ty dc,(Builtin.copy_ #[S,S] ty #[.slice (some ⟨b,i*k,none⟩) (n+1-i) dc,.slice (some ⟨vb,voff,none⟩) 1 vc]).run P W = .ok (goInt 1) (W.setCells b (i*k) vs)) ->
 i<n->n+1<=c->n+1<=9223372036854775807->¬((i:Int)=(n:Int))->IntKind.i64.wrap ((i:Int)+1)=(i:Int)+1->(0:Int)<=(i:Int)+1->i<=n->((i:Int)+1).toNat=i+1->¬(c=i+1)->(i:Int)<=(n:Int)+1->¬(c=i) ->
 Calls P f #[.slice (some ⟨b,0,none⟩) n c,.int .i64 i,.slice (some ⟨vb,voff,none⟩) 1 vc] w fun e w'=>e = .returned (.slice (some ⟨b,0,none⟩) (n+1) c)/\w'=W1.setCells b (i*k) vs
def OQ(P:Program)(f:Nat)(S:TypeId):Prop:=∀(bS:Option Addr)(n c vb voff vc:Nat)(V:Value)(w W:World),
 (∀ty,(Builtin.append_ #[S,S] ty #[.slice bS n c,.slice (some ⟨vb,voff,none⟩) 1 vc]).run P w = .ok V W)->n<=c->n+1<=9223372036854775807->(bS=none->n=0) ->
 Calls P f #[.slice bS n c,.int .i64 n,.slice (some ⟨vb,voff,none⟩) 1 vc] w fun e w'=>e = .returned V/\w'=W
def Ia(P:Program)(f:Nat)(S E:TypeId)(k:Nat):Prop:=∀(b n c i G vb voff vc:Nat)(ROW:Array Value)(vs ds:List Value)(w:World),
 (∀ty,(Builtin.append_ #[S,3] ty #[.slice (some ⟨b,0,none⟩) i c,.int .i64 ((n:Int)+1-(i:Int))]).run P w = .ok (.slice (some ⟨w.heap.size,0,none⟩) (n+1) G) (w.drew.alloc (.cells ROW E))) ->
 (∀W:World,(∀x,W.cell? x=(w.drew.alloc (.cells ROW E)).cell? x)->(∀x,W.frozen? x=(w.drew.alloc (.cells ROW E)).frozen? x)->∀ty dc,(Builtin.copy_ #[S,S] ty #[.slice (some ⟨w.heap.size,i*k,none⟩) (n+1-i) dc,.slice (some ⟨vb,voff,none⟩) 1 vc]).run P W = .ok (goInt 1) (W.setCells w.heap.size (i*k) vs)) ->
 (∀W:World,(∀x,W.cell? x=((w.drew.alloc (.cells ROW E)).setCells w.heap.size (i*k) vs).cell? x)->(∀x,W.frozen? x=((w.drew.alloc (.cells ROW E)).setCells w.heap.size (i*k) vs).frozen? x)->∀ty dc sc,
  (Builtin.copy_ #[S,S] ty #[.slice (some ⟨w.heap.size,(i+1)*k,none⟩) (n+1-(i+1)) dc,.slice (some ⟨b,i*k,none⟩) (n-i) sc]).run P W = .ok (goInt ((n-i:Nat):Int)) (W.setCells w.heap.size ((i+1)*k) ds)) ->
 (∀x,((w.alloc (.cells ROW E)).drew).cell? x=(w.drew.alloc (.cells ROW E)).cell? x)->(∀x,((w.alloc (.cells ROW E)).drew).frozen? x=(w.drew.alloc (.cells ROW E)).frozen? x) ->
 (∀x,(((w.alloc (.cells ROW E)).drew.setCells w.heap.size (i*k) vs).drew).cell? x=((w.drew.alloc (.cells ROW E)).setCells w.heap.size (i*k) vs).cell? x) ->
 (∀x,(((w.alloc (.cells ROW E)).drew.setCells w.heap.size (i*k) vs).drew).frozen? x=((w.drew.alloc (.cells ROW E)).setCells w.heap.size (i*k) vs).frozen? x) ->
 i<n->n<=c->c<n+1->¬((i:Int)=(n:Int))->(c:Int)<(n:Int)+1->n+1<=G->G<=9223372036854775807->¬(G=i)->¬(G=i+1)->¬(c=i)->IntKind.i64.wrap ((i:Int)+1)=(i:Int)+1->(0:Int)<=(i:Int)+1->i<=n->((i:Int)+1).toNat=i+1->(i:Int)<=(n:Int)->n+1<=140737488355328 ->
 Calls P f #[.slice (some ⟨b,0,none⟩) n c,.int .i64 i,.slice (some ⟨vb,voff,none⟩) 1 vc] w fun e w'=>e = .returned (.slice (some ⟨w.heap.size,0,none⟩) (n+1) G) /\
  w'=(((w.alloc (.cells ROW E)).drew.setCells w.heap.size (i*k) vs).drew).setCells w.heap.size ((i+1)*k) ds
def XM{w:World}{vb voff:Nat}{v:Value}(h0:w.cell? ⟨vb,voff,none⟩=some v):∃tA kA,w.shape? vb=some (tA,kA+1):=by
 unfold World.cell? at h0;unfold World.shape?;split at h0
 ·rename_i cc ee ff hb;simp only[hb];simp at h0;have:=(fJ.1 h0).1;exact⟨ee,cc.size-1,gr⟩
 ·cases h0
def C4(h:El P S E k by' z)(h3:P.underlying 3=some (.int .i64))(ho:∀args w,(callFunc fo args).run P w=((Extern.SlicesOverlaps.overlaps #[S,S] #[4] args).run P w).andThen fun v w' => .ok (.value v) w')
  (hS:Dh P f fo S k) (hE:OQ P f S) (hG:Ia P f S E k):Rp P f k by':=by
 intro b n c i vb voff vc cs vs w row tB hi hnc hbig h63 hvb hcl hvl hw hrow hat hvs h1c h1v;obtain⟨i0,hi0,hzs,hz0,hzb⟩:=h.i;have hk:=h.p;have hcs:∀(p:Nat)(v:Value),cs[p]?=some v->w.cell? ⟨b,p,none⟩=some v:=fun p v hp=>by simp[World.cell?,hw,hat p v hp]
 have hfz:∀j,w.frozen? ⟨b,j,none⟩=false:=fun j=>by simp[World.frozen?,hw]
 have a1:(n+1)*k=n*k+k:=mU ..;have a2:(i+1)*k=i*k+k:=mU ..;have a3:(n-i)*k=n*k-i*k:=mD ..;have a4:i*k<=n*k:=bd _ hi;have hdl:(cs.drop (i*k)).length=(n-i)*k:=by rw[hU,hcl,a3]
 have hv0:=hvs 0 _ (ai aH);have hle:n+1<=140737488355328:=aY (fL _ h.b) hbig;have hw1:IntKind.i64.wrap ((i:Int)+1)=(i:Int)+1:=by rw[IntKind.wrap_i64]; omega
 have hmin:1=Nat.min 1 (n+1-i):=by simp only[Nat.min_def]; split<;>omega
 by_cases hroom:n+1<=c
 ·have hr0:(n+1)*k<=row.size:=aY (bd _ hroom) hrow
  have hsp:∀j,j<(n+1)*k->(w.cell? ⟨b,j,none⟩).isSome=true:=fun j hj=>by
   simp[World.cell?,hw,bg (show j<row.size by omega)]
  by_cases hin:i<n
  ·have a5:(i+1)*k<=n*k:=bd _ hin;obtain⟨tA,kA,hsa⟩:=XM hv0;refine(hS b n c i vb voff vc vs w (w.drew.setCells b ((i+1)*k) (cs.drop (i*k))) (fun lb cb=>?_) (fun ty dc sc=>?_) (fun W hWc hWf ty dc=>?_) hin hroom h63 aH hw1 aH aH aH aH aH aH).mono ?_
   ·rw[ho,EM w S 4 E h.u k h.so ⟨vb,voff,none⟩ ⟨b,(i+1)*k,none⟩ 1 vc lb cb hvb tA tB kA row hsa hw];rfl
   ·exact ym w.drew _ _ ty E k b ((i+1)*k) (n-i) dc ⟨b,i*k,none⟩ (n+1-i) sc (cs.drop (i*k)) (n-i) h.u h.s (by simp only[Nat.min_def]; split<;>omega) hdl
     (fun j v hj=>by rw[Addr.add_lit]; exact hcs (i*k+j) v (by rwa[cS] at hj))
     (fun j hj=>hsp ((i+1)*k+j) aH) (fun j hj=>hfz _) (fun v hv=>h1c v (dA hv))
   ·exact ym W _ _ ty E k b (i*k) (n+1-i) dc ⟨vb,voff,none⟩ 1 vc vs 1 h.u h.s hmin (by rw[hvl,fM])
     (fun j v hj=>by
      rw[Addr.add_lit,hWc,World.cell?_setCells_out b _ _ _ _ (fun h _=>absurd h hvb)]
      exact hvs j v hj)
     (fun j hj=>by rw[hWc]; exact qQ b _ _ w.drew (fun j hj=>hsp ((i+1)*k+j) aH) _ (hsp (i*k+j) aH))
     (fun j hj=>by rw[hWf,World.frozen?_setCells]; exact hfz _) h1v
   ·rintro e w' ⟨he,hw'⟩;exact PN hin hroom hcl hvl hw hrow hat he hw'
  ·obtain rfl:i=n:=aH;refine(hE (some ⟨b,0,none⟩) i c vb voff vc (.slice (some ⟨b,0,none⟩) (i+1) c) w (w.setCells b (i*k) vs) (fun ty=>?_) hnc h63 dw).mono ?_
   ·have hr:=run_append_room_cells (P:=P) w S ty E i0 h.u hi0 b 0 i c ⟨vb,voff,none⟩ 1 vc vs (by rw[hzs,hvl,fM]) (fun j u hj=>by rw[Addr.add_lit]; exact hvs j u hj) h1v hroom
     (fun j hj=>by rw[hzs,aI]; exact hsp _ aH) (fun j hj=>hfz _)
    rw[hzs,aI] at hr;exact hr
   ·rintro e w' ⟨he,hw'⟩;exact Tp hroom hcl hvl hw hrow hat he hw'
 ·have hGc:=grownCap_ge w (n+1) c E
  by_cases hin:i<n
  ·have a5:(i+1)*k<=n*k:=bd _ hin;have hbw:b<w.heap.size:=lt_of_block hw;have hvw:vb<w.heap.size:=block_lt_of_cell hv0;have hik:i+(n+1-i)=n+1:=aH
   have hold:(Builtin.firstCells i0.size i (.slice (some ⟨b,0,none⟩) i c)).run P w.drew = .ok (cs.take (i*k)).toArray w.drew:=by
    rw[hzs]
    exact run_firstCells_some w.drew k i ⟨b,0,none⟩ i c (cs.take (i*k)) (by rw[cf]; omega) (fun j v hj=>by
     rw[Addr.add_lit,aI];rw[fz] at hj;split at hj
     ·exact hcs j v hj
     ·cases hj)
   obtain⟨ROW,hROW⟩:∃ROW:Array Value,ROW=(cs.take (i*k)).toArray++Builtin.zeroCells z.cells (n+1-i)++Builtin.zeroCells z.cells (grownCap w (n+1) c E-(n+1)):=⟨_,rfl⟩
   have hRl:(n+1)*k<=ROW.size:=by
    have e1:(n+1-i)*k=(n+1)*k-i*k:=mD ..;rw[hROW];simp only[Builtin.zeroCells,fZ,Array.size_map,Array.size_range,h.c,db,cf,hcl];omega
   have hN:∀j,j<(n+1)*k->((w.drew.alloc (.cells ROW E)).cell? ⟨w.heap.size,j,none⟩).isSome=true:=fun j hj=>by
    rw[World.cell?_alloc_at (w:=w.drew) ROW _ w.heap.size j rfl,bg aH]; rfl
   have hNf:∀j,(w.drew.alloc (.cells ROW E)).frozen? ⟨w.heap.size,j,none⟩=false:=fun j=>World.frozen?_alloc_at (w:=w.drew) ROW _ w.heap.size j rfl
   have hG63:grownCap w (n+1) c E<=9223372036854775807:=by
    have:=grownCap_le_maxLen w (n+1) c E (by unfold maxLen; omega)
    unfold maxLen at this;omega
   refine(hG b n c i (grownCap w (n+1) c E) vb voff vc ROW vs (cs.drop (i*k)) w (fun ty=>?_) (fun W hWc hWf ty dc=>?_) (fun W hWc hWf ty dc sc=>?_) (fun _=>rfl) (fun _=>rfl) (fun _=>rfl) (fun _=>rfl)
    hin hnc aH aH aH hGc hG63 aH aH aH hw1 aH aH aH aH hle).mono ?_
   ·have hr:=Lib.run_append_grow_zeros w S 3 ty E i0 _ .i64 .i64 h.u h3 hi0 hz0 (some ⟨b,0,none⟩) i c (cs.take (i*k)) hold (n+1-i) aH aH aH aH
     (by rw[hzb]; exact aY (bd _ (by omega:n+1-i<=n+1)) aH) (by rw[hzb,hik]; exact growslice_fits aH hbig)
    rw[hik] at hr;rw[show(n:Int)+1-(i:Int)=((n+1-i:Nat):Int) by omega,hROW]
    exact hr
   ·exact ym W _ _ ty E k w.heap.size (i*k) (n+1-i) dc ⟨vb,voff,none⟩ 1 vc vs 1 h.u h.s hmin (by rw[hvl,fM])
     (fun j v hj=>by rw[Addr.add_lit,hWc,World.cell?_alloc_past (w:=w.drew) _ vb _ hvw]; exact hvs j v hj)
     (fun j hj=>by rw[hWc]; exact hN (i*k+j) aH) (fun j hj=>by rw[hWf]; exact hNf _) h1v
   ·exact ym W _ _ ty E k w.heap.size ((i+1)*k) (n+1-(i+1)) dc ⟨b,i*k,none⟩ (n-i) sc (cs.drop (i*k)) (n-i) h.u h.s (by simp only[Nat.min_def]; split<;>omega) hdl
     (fun j v hj=>by
      rw[Addr.add_lit,hWc,World.cell?_setCells_out _ _ _ _ _ (fun h _=>absurd h (by show b≠w.heap.size; omega)),World.cell?_alloc_past (w:=w.drew) _ b _ hbw]
      exact hcs (i*k+j) v (by rwa[cS] at hj))
     (fun j hj=>by rw[hWc]; exact qQ _ _ _ _ (fun t ht=>hN (i*k+t) aH) _ (hN ((i+1)*k+j) aH))
     (fun j hj=>by rw[hWf,World.frozen?_setCells]; exact hNf _) (fun v hv=>h1c v (dA hv))
   ·rintro e w' ⟨he,hw'⟩;rw[hROW] at hw';exact Tn hk h.c hin hcl hvl hGc he hw'
  ·obtain rfl:i=n:=aH;refine(hE (some ⟨b,0,none⟩) i c vb voff vc _ w _ (fun ty=>run_append_grow_src w S S ty E i0 z h.u hi0 hz0 (some ⟨b,0,none⟩) i c cs ?_ _ 1 vs ?_ aH aH (by rw[hzb]; exact growslice_fits aH hbig)) hnc h63 dw).mono ?_
   ·rw[hzs];exact run_firstCells_some w.drew k i _ i c cs hcl (fun j v hj=>by rw[Addr.add_lit,aI]; exact hcs j v hj)
   ·rw[hzs];exact Src.ofSlice w h.u ⟨vb,voff,none⟩ 1 vc vs (by rw[hvl,fM]) (fun j u hj=>by rw[Addr.add_lit]; exact hvs j u hj) h1v
   ·rintro e w' ⟨he,hw'⟩;exact z6 hk h.c hcl hvl hGc he hw'
def C5(h:El P S E k by' z)(hby:by'<=140737488355328)(hE:OQ P f S):Rq P f k:=by
 intro A vb voff vc vs w row hvl hvs h1v;obtain⟨i0,hi0,hzs,hz0,hzb⟩:=h.i;refine(hE A 0 0 vb voff vc _ w _ (fun ty=>run_append_grow_src w S S ty E i0 z h.u hi0 hz0 A 0 0 [] ?_ _ 1 vs ?_ aH aH (by rw[hzb]; exact growslice_fits aH aH)) (av _) aH (fun _=>rfl)).mono ?_
 ·rw[hzs];cases A with
  |none=>exact run_firstCells_none w.drew k 0 0 0
  |some a=>exact run_firstCells_some w.drew k 0 a 0 0 [] dw (fun j v hj=>by simp at hj)
 ·rw[hzs];exact Src.ofSlice w h.u ⟨vb,voff,none⟩ 1 vc vs (by rw[hvl,fM]) (fun j u hj=>by rw[Addr.add_lit]; exact hvs j u hj) h1v
 ·rintro e w' ⟨he,hw'⟩;exact z6 h.p h.c dw hvl (grownCap_ge w 1 0 E) he hw'
end
section
set_option maxHeartbeats 4000000
set_option maxRecDepth 1000000
def mix:Tryz.prog.follows .mixedOrders=true:=ft
def DH:El Tryz.prog 113 152 3 32 (.agg #[.string ⟨#[]⟩,.int .i64 0,.int .i64 0]) := .of underlying113 ft ⟨rfl,rfl⟩ aH aH
def LA:El Tryz.prog 28 115 6 80 (.agg #[.int .i64 0,.int .i64 0,.int .i64 0,.slice none 0 0,.slice none 0 0,.int .i64 0]) := .of underlying28 ft ⟨rfl,rfl⟩ aH aH
def LB:El Tryz.prog 36 126 3 24 (.agg #[.int .i64 0,.int .i64 0,.int .i64 0]) := .of underlying36 ft ⟨rfl,rfl⟩ aH aH
def LC:El Tryz.prog 37 129 3 24 (.agg #[.int .i64 0,.int .i64 0,.int .i64 0]) := .of underlying37 ft ⟨rfl,rfl⟩ aH aH
def Zh:El Tryz.prog 32 117 8 96 (.agg #[.int .i64 0,.int .i64 0,.int .i64 0,.int .i64 0,.int .i64 0,.slice none 0 0,.slice none 0 0,.int .i64 0]) := .of underlying32 ft ⟨rfl,rfl⟩ aH aH
def Zi:El Tryz.prog 33 123 3 24 (.agg #[.int .i64 0,.int .i64 0,.int .i64 0]) := .of underlying33 ft ⟨rfl,rfl⟩ aH aH
def Zj:El Tryz.prog 45 5 1 1 (.int .u8 0) := .of underlying45 ft ⟨rfl,rfl⟩ aH aH
def cws:wY Tryz.prog 205 113 152/\wY Tryz.prog 241 28 115/\wY Tryz.prog 215 36 126/\wY Tryz.prog 189 37 129/\wY Tryz.prog 220 32 117/\wY Tryz.prog 229 33 123/\wY Tryz.prog 160 45 5:=by
 have mixed:=mix;refine⟨?_,?_,?_,?_,?_,?_,?_⟩<;>intro b off n c w K hap
 all_goals first
 |(have t25:=underlying113; obtain⟨q22,u22⟩:=DH.q; go_enter func205,ntmps205)
 |(have t25:=underlying28; obtain⟨q22,u22⟩:=LA.q; go_enter func241,ntmps241)
 |(have t25:=underlying36; obtain⟨q22,u22⟩:=LB.q; go_enter func215,ntmps215)
 |(have t25:=underlying37; obtain⟨q22,u22⟩:=LC.q; go_enter func189,ntmps189)
 |(have t25:=underlying32; obtain⟨q22,u22⟩:=Zh.q; go_enter func220,ntmps220)
 |(have t25:=underlying33; obtain⟨q22,u22⟩:=Zi.q; go_enter func229,ntmps229)
 |(have t25:=underlying45; obtain⟨q22,u22⟩:=Zj.q; go_enter func160,ntmps160)
 all_goals (go_wp2_with (at_builtin; refine hap rfl _ _ rfl rfl rfl ?_); intro v' w1 hK; go_wp2; go_ret; exact⟨v',rfl,hK⟩)
def cns:wW Tryz.prog 205 113 152/\wW Tryz.prog 241 28 115/\wW Tryz.prog 215 36 126/\wW Tryz.prog 189 37 129/\wW Tryz.prog 220 32 117/\wW Tryz.prog 229 33 123/\wW Tryz.prog 160 45 5:=by
 have mixed:=mix;refine⟨?_,?_,?_,?_,?_,?_,?_⟩<;>intro A c w hrun
 all_goals first
 |(have t25:=underlying113; obtain⟨q22,u22⟩:=DH.q; cases A<;>go_enter func205,ntmps205)
 |(have t25:=underlying28; obtain⟨q22,u22⟩:=LA.q; cases A<;>go_enter func241,ntmps241)
 |(have t25:=underlying36; obtain⟨q22,u22⟩:=LB.q; cases A<;>go_enter func215,ntmps215)
 |(have t25:=underlying37; obtain⟨q22,u22⟩:=LC.q; cases A<;>go_enter func189,ntmps189)
 |(have t25:=underlying32; obtain⟨q22,u22⟩:=Zh.q; cases A<;>go_enter func220,ntmps220)
 |(have t25:=underlying33; obtain⟨q22,u22⟩:=Zi.q; cases A<;>go_enter func229,ntmps229)
 |(have t25:=underlying45; obtain⟨q22,u22⟩:=Zj.q; cases A<;>go_enter func160,ntmps160)
 all_goals (first
  |(go_wp2; go_ret; exact⟨⟨_,rfl⟩,.inl rfl⟩)
  |(go_wp2_with (at_builtin; refine Lib.wpList_append_run _ rfl _ _ _ _ rfl _ _ rfl rfl _ _ (hrun _ _) ?_); go_ret; exact⟨⟨_,rfl⟩,.inr rfl⟩))
def dws:Rb Tryz.prog 283 28 6/\Rb Tryz.prog 248 113 3/\Rb Tryz.prog 218 36 3/\Rb Tryz.prog 227 37 3:=by
 have mixed:=mix;refine⟨?_,?_,?_,?_⟩<;>intro blk cap i j n A w W1 W2 hA hap hcl hcap hm hi hic hij hjc hjn
 all_goals first
 |(have t25:=underlying28; go_enter func283,ntmps283)
 |(have t25:=underlying113; go_enter func248,ntmps248)
 |(have t25:=underlying36; go_enter func218,ntmps218)
 |(have t25:=underlying37; go_enter func227,ntmps227)
 all_goals (go_wp2_with fail; go_region_law_o (refine Fq rfl _ _ _ _ rfl _ _ (by simp[Act.eval,Act.put]) (by simp[Act.eval,Act.put]) (hap _) ?_); go_wp2; go_ret; exact⟨rfl,rfl⟩)
def sws:Dh Tryz.prog 242 279 28 6/\Dh Tryz.prog 243 281 113 3/\Dh Tryz.prog 214 260 36 3/\Dh Tryz.prog 228 269 37 3:=by
 have mixed:=mix;refine⟨?_,?_,?_,?_⟩<;>intro b n c i vb voff vc vs w W1 hov hcp1 hcp2 hi hroom hc63 hz2 hw1 hb1 hin htn hb2 hb3 hb4
 all_goals first
 |(have t25:=underlying28; go_enter func242,ntmps242)
 |(have t25:=underlying113; go_enter func243,ntmps243)
 |(have t25:=underlying36; go_enter func214,ntmps214)
 |(have t25:=underlying37; go_enter func228,ntmps228)
 all_goals (go_wp2_with (simp only[hov]); go_region_law_o (refine CD rfl _ _ _ _ rfl _ _ (by simp[Act.eval,Act.put]) (by simp[Act.eval,Act.put]) (hcp1 _ _ _) ?_); go_wp2_with (at_builtin; refine vp _ rfl _ _ _ _ rfl _ _ rfl rfl (hcp2 _ (fun _=>rfl) (fun _=>rfl) _ _) ?_); go_ret; exact⟨rfl,rfl⟩)
def ews:OQ Tryz.prog 242 28/\OQ Tryz.prog 243 113/\OQ Tryz.prog 214 36/\OQ Tryz.prog 228 37:=by
 have mixed:=mix;refine⟨?_,?_,?_,?_⟩<;>intro bS n c vb voff vc V w W hrun hnc hroom hnil
 all_goals first
 |(have t25:=underlying28; go_enter func242,ntmps242)
 |(have t25:=underlying113; go_enter func243,ntmps243)
 |(have t25:=underlying36; go_enter func214,ntmps214)
 |(have t25:=underlying37; go_enter func228,ntmps228)
 all_goals (cases bS with
 |none =>
  have h0:=hnil rfl;subst h0
  go_wp2_with (at_builtin; refine Lib.wpList_append_run _ rfl _ _ _ _ rfl _ _ rfl rfl _ _ (hrun _) ?_)
  go_ret
  exact⟨rfl,rfl⟩
 |some a =>
  obtain⟨ab,ao,asp⟩:=a
  go_wp2_with (at_builtin; refine Lib.wpList_append_run _ rfl _ _ _ _ rfl _ _ rfl rfl _ _ (hrun _) ?_)
  all_goals (go_ret; exact⟨rfl,rfl⟩))
def gws:Ia Tryz.prog 242 28 115 6/\Ia Tryz.prog 243 113 152 3/\Ia Tryz.prog 214 36 126 3/\Ia Tryz.prog 228 37 129 3:=by
 have mixed:=mix;refine⟨?_,?_,?_,?_⟩<;>intro b n c i G vb voff vc ROW vs ds w hrz hcpA hcpB hE1 hE2 hF1 hF2 hi hnc hroom hz2 hz3 hGn hG63 hGi hGim hci hw1 hb1 hin htn hb3 hle
 all_goals first
 |(have t25:=underlying28; go_enter func242,ntmps242)
 |(have t25:=underlying113; go_enter func243,ntmps243)
 |(have t25:=underlying36; go_enter func214,ntmps214)
 |(have t25:=underlying37; go_enter func228,ntmps228)
 all_goals (go_wp2_with (first
  |(at_builtin; refine Lib.wpList_append_run _ rfl _ _ _ _ rfl _ _ rfl rfl _ _ (hrz _) ?_)
  |(at_builtin; refine vp _ rfl _ _ _ _ rfl _ _ rfl rfl (hcpA _ hE1 hE2 _ _) ?_)
  |(at_builtin; refine vp _ rfl _ _ _ _ rfl _ _ rfl rfl (hcpB _ (fun _=>rfl) (fun _=>rfl) _ _ _) ?_)); go_region_law_o (refine CD rfl _ _ _ _ rfl (.slice (some ⟨w.heap.size,_,none⟩) (n+1-(i+1)) (G-(i+1))) (.slice (some ⟨b,_,none⟩) (n-i) (c-i)) (by simp[Act.eval,Act.put]) (by simp[Act.eval,Act.put]) (hcpB _ hF1 hF2 3 (G-(i+1)) (c-i)) ?_); go_wp2; go_ret; exact⟨rfl,rfl⟩)
end
def Pe{args:List ag}{M:aC}{x:ag×aC}(h:mO 3 32 args M=some x):dp Tryz.prog 205 args M x:=sC aH aH (uc DH cws.1) (sa DH cns.1) h
def Pg{args:List ag}{M:aC}{x:ag×aC}(h:mO 6 80 args M=some x):dp Tryz.prog 241 args M x:=sC aH aH (uc LA cws.2.1) (sa LA cns.2.1) h
def Pf{args:List ag}{M:aC}{x:ag×aC}(h:mO 3 24 args M=some x):dp Tryz.prog 215 args M x:=sC aH aH (uc LB cws.2.2.1) (sa LB cns.2.2.1) h
def Pd{args:List ag}{M:aC}{x:ag×aC}(h:mO 3 24 args M=some x):dp Tryz.prog 189 args M x:=sC aH aH (uc LC cws.2.2.2.1) (sa LC cns.2.2.2.1) h
def Lf{args:List ag}{M:aC}{x:ag×aC}(h:sv 8 96 args M=some x):dp Tryz.prog 220 args M x:=zM aH aH (uc Zh cws.2.2.2.2.1) (sa Zh cns.2.2.2.2.1) h
def Lg{args:List ag}{M:aC}{x:ag×aC}(h:sv 3 24 args M=some x):dp Tryz.prog 229 args M x:=zM aH aH (uc Zi cws.2.2.2.2.2.1) (sa Zi cns.2.2.2.2.2.1) h
def afA{args:List ag}{M:aC}{x:ag×aC}(h:pCC 1 1 args M=some x):dp Tryz.prog 160 args M x:=RZ aH aH (uc Zj cws.2.2.2.2.2.2) (sa Zj cns.2.2.2.2.2.2) h
def Pr{args:List ag}{M:aC}{x:ag×aC}(h:lJ 6 args M=some x):dp Tryz.prog 283 args M x:=tz (sz:=6) (z:=(Value.agg #[.int .i64 0,.int .i64 0,.int .i64 0,.slice none 0 0,.slice none 0 0,.int .i64 0]).cells.toList) aH rfl (He LA dws.1) h
def Pq{args:List ag}{M:aC}{x:ag×aC}(h:lJ 3 args M=some x):dp Tryz.prog 248 args M x:=tz (sz:=3) (z:=(Value.agg #[.string ⟨#[]⟩,.int .i64 0,.int .i64 0]).cells.toList) aH rfl (He DH dws.2.1) h
def Po{args:List ag}{M:aC}{x:ag×aC}(h:lJ 3 args M=some x):dp Tryz.prog 218 args M x:=tz (sz:=3) (z:=(Value.agg #[.int .i64 0,.int .i64 0,.int .i64 0]).cells.toList) aH rfl (He LB dws.2.2.1) h
def Pp{args:List ag}{M:aC}{x:ag×aC}(h:lJ 3 args M=some x):dp Tryz.prog 227 args M x:=tz (sz:=3) (z:=(Value.agg #[.int .i64 0,.int .i64 0,.int .i64 0]).cells.toList) aH rfl (He LC dws.2.2.2) h
def PR{args:List ag}{M:aC}{x:ag×aC}(h:lf 6 80 args M=some x):dp Tryz.prog 242 args M x:=tC aH aH (C4 LA underlying3 (fun args w=>run_callFunc_extern func279 ft ft ft ft args w) sws.1 ews.1 gws.1) (C5 LA aH ews.1) h
def PS{args:List ag}{M:aC}{x:ag×aC}(h:lf 3 32 args M=some x):dp Tryz.prog 243 args M x:=tC aH aH (C4 DH underlying3 (fun args w=>run_callFunc_extern func281 ft ft ft ft args w) sws.2.1 ews.2.1 gws.2.1) (C5 DH aH ews.2.1) h
def PO{args:List ag}{M:aC}{x:ag×aC}(h:lf 3 24 args M=some x):dp Tryz.prog 214 args M x:=tC aH aH (C4 LB underlying3 (fun args w=>run_callFunc_extern func260 ft ft ft ft args w) sws.2.2.1 ews.2.2.1 gws.2.2.1) (C5 LB aH ews.2.2.1) h
def PQ{args:List ag}{M:aC}{x:ag×aC}(h:lf 3 24 args M=some x):dp Tryz.prog 228 args M x:=tC aH aH (C4 LC underlying3 (fun args w=>run_callFunc_extern func269 ft ft ft ft args w) sws.2.2.2 ews.2.2.2 gws.2.2.2) (C5 LC aH ews.2.2.2) h
end Go.Proofs.YteoamaffclmdbaaGreatDoor
namespace Go.Proofs
open Go.Shelf
def Tryz.Km:Go.Shelf.Ren:=⟨fun|6=>207|15=>256|14=>255|28=>296|29=>297|20=>288|21=>289|22=>290|23=>291|24=>292|25=>293|26=>294|27=>295|46=>310|47=>311|48=>312|49=>313|50=>314|57=>331|n=>n,fun|22=>113|24=>152|25=>270|3=>3|39=>312|0=>0|53=>346|55=>77|4=>4|46=>340|45=>339|50=>261|5=>5|9=>9|66=>356|70=>360|76=>373|77=>205|n=>n,fun|n=>n⟩
def Tryz.Om:Go.Proofs.SlLaysF0.n6 Tryz.prog Tryz.Km:={
 mixed:=ft
 f6:=⟨Tryz.f207.name,mw,(tf func207)⟩
 f14:=⟨Tryz.f255.name,mw,(tf func255)⟩
 f15:=(tf func256)
 f20:=⟨Tryz.f288.name,mw,(tf func288)⟩
 f21:=⟨Tryz.f289.name,mw,(tf func289)⟩
 f22:=⟨Tryz.f290.name,mw,(tf func290)⟩
 f23:=⟨Tryz.f291.name,mw,(tf func291)⟩
 f24:=⟨Tryz.f292.name,mw,(tf func292)⟩
 f25:=⟨Tryz.f293.name,mw,(tf func293)⟩
 f26:=⟨Tryz.f294.name,mw,(tf func294)⟩
 f27:=⟨Tryz.f295.name,mw,(tf func295)⟩
 f28:=(tf func296)
 f29:=(tf func297)
 f46:=⟨Tryz.f310.name,mw,(tf func310)⟩
 f47:=(tf func311)
 f48:=(tf func312)
 f49:=⟨Tryz.f313.name,mw,(tf func313)⟩
 f50:=⟨Tryz.f314.name,mw,(tf func314)⟩
 f57:=⟨Tryz.f331.name,mw,(tf func331)⟩
 t0:=underlying0
 a0:=isAgg0
 z0:=sizeOf0
 v0:=zeroValue0
 t3:=underlying3
 a3:=isAgg3
 z3:=sizeOf3
 v3:=zeroValue3
 t4:=underlying4
 a4:=isAgg4
 z4:=sizeOf4
 v4:=zeroValue4
 t5:=underlying5
 a5:=isAgg5
 z5:=sizeOf5
 v5:=zeroValue5
 t9:=underlying9
 a9:=isAgg9
 z9:=sizeOf9
 v9:=zeroValue9
 t22:=underlying113
 a22:=isAgg113
 z22:=sizeOf113
 v22:=zeroValue113
 t25:=underlying270
 a25:=isAgg270
 z25:=sizeOf270
 v25:=zeroValue270
 t39:=underlying312
 a39:=isAgg312
 z39:=sizeOf312
 v39:=zeroValue312
 t45:=underlying339
 a45:=isAgg339
 z45:=sizeOf339
 v45:=zeroValue339
 t46:=underlying340
 a46:=isAgg340
 z46:=sizeOf340
 v46:=zeroValue340
 t50:=underlying261
 a50:=isAgg261
 z50:=sizeOf261
 v50:=zeroValue261
 t53:=underlying346
 a53:=isAgg346
 z53:=sizeOf346
 v53:=zeroValue346
 t55:=underlying77
 a55:=isAgg77
 z55:=sizeOf77
 v55:=zeroValue77
 t66:=underlying356
 a66:=isAgg356
 z66:=sizeOf356
 v66:=zeroValue356
 t70:=underlying360
 a70:=isAgg360
 z70:=sizeOf360
 v70:=zeroValue360
 t76:=underlying373
 a76:=isAgg373
 z76:=sizeOf373
 v76:=zeroValue373
 t77:=underlying205
 a77:=isAgg205
 z77:=sizeOf205
 v77:=zeroValue205 }
def Tryz.HS:Go.Shelf.Ren:=⟨fun|6=>272|15=>256|14=>301|28=>296|29=>297|20=>317|21=>318|22=>319|23=>320|24=>321|25=>322|26=>323|27=>324|46=>332|47=>311|48=>312|49=>333|50=>334|57=>337|n=>n,fun|22=>28|24=>115|25=>327|3=>3|39=>312|0=>0|53=>346|55=>77|4=>4|46=>340|45=>339|50=>261|5=>5|9=>9|66=>356|70=>360|76=>373|77=>205|n=>n,fun|n=>n⟩
def Tryz.Kq:Go.Proofs.SlLaysF0.n6 Tryz.prog Tryz.HS:={
 mixed:=ft
 f6:=⟨Tryz.f272.name,mw,(tf func272)⟩
 f14:=⟨Tryz.f301.name,mw,(tf func301)⟩
 f15:=(tf func256)
 f20:=⟨Tryz.f317.name,mw,(tf func317)⟩
 f21:=⟨Tryz.f318.name,mw,(tf func318)⟩
 f22:=⟨Tryz.f319.name,mw,(tf func319)⟩
 f23:=⟨Tryz.f320.name,mw,(tf func320)⟩
 f24:=⟨Tryz.f321.name,mw,(tf func321)⟩
 f25:=⟨Tryz.f322.name,mw,(tf func322)⟩
 f26:=⟨Tryz.f323.name,mw,(tf func323)⟩
 f27:=⟨Tryz.f324.name,mw,(tf func324)⟩
 f28:=(tf func296)
 f29:=(tf func297)
 f46:=⟨Tryz.f332.name,mw,(tf func332)⟩
 f47:=(tf func311)
 f48:=(tf func312)
 f49:=⟨Tryz.f333.name,mw,(tf func333)⟩
 f50:=⟨Tryz.f334.name,mw,(tf func334)⟩
 f57:=⟨Tryz.f337.name,mw,(tf func337)⟩
 t0:=underlying0
 a0:=isAgg0
 z0:=sizeOf0
 v0:=zeroValue0
 t3:=underlying3
 a3:=isAgg3
 z3:=sizeOf3
 v3:=zeroValue3
 t4:=underlying4
 a4:=isAgg4
 z4:=sizeOf4
 v4:=zeroValue4
 t5:=underlying5
 a5:=isAgg5
 z5:=sizeOf5
 v5:=zeroValue5
 t9:=underlying9
 a9:=isAgg9
 z9:=sizeOf9
 v9:=zeroValue9
 t22:=underlying28
 a22:=isAgg28
 z22:=sizeOf28
 v22:=zeroValue28
 t25:=underlying327
 a25:=isAgg327
 z25:=sizeOf327
 v25:=zeroValue327
 t39:=underlying312
 a39:=isAgg312
 z39:=sizeOf312
 v39:=zeroValue312
 t45:=underlying339
 a45:=isAgg339
 z45:=sizeOf339
 v45:=zeroValue339
 t46:=underlying340
 a46:=isAgg340
 z46:=sizeOf340
 v46:=zeroValue340
 t50:=underlying261
 a50:=isAgg261
 z50:=sizeOf261
 v50:=zeroValue261
 t53:=underlying346
 a53:=isAgg346
 z53:=sizeOf346
 v53:=zeroValue346
 t55:=underlying77
 a55:=isAgg77
 z55:=sizeOf77
 v55:=zeroValue77
 t66:=underlying356
 a66:=isAgg356
 z66:=sizeOf356
 v66:=zeroValue356
 t70:=underlying360
 a70:=isAgg360
 z70:=sizeOf360
 v70:=zeroValue360
 t76:=underlying373
 a76:=isAgg373
 z76:=sizeOf373
 v76:=zeroValue373
 t77:=underlying205
 a77:=isAgg205
 z77:=sizeOf205
 v77:=zeroValue205 }
def Tryz.Lj:Go.Shelf.Ren:=⟨fun|5=>209|7=>257|n=>n,fun|22=>3|3=>3|4=>4|n=>n,fun|n=>n⟩
def Tryz.R2:Go.Proofs.SlLaysC2.n5 Tryz.prog Tryz.Lj:={
 mixed:=ft
 f5:=⟨Tryz.f209.name,mw,(tf func209)⟩
 f7:=⟨Tryz.f257.name,mw,(tf func257)⟩
 t3:=underlying3
 a3:=isAgg3
 z3:=sizeOf3
 v3:=zeroValue3
 t4:=underlying4
 a4:=isAgg4
 z4:=sizeOf4
 v4:=zeroValue4
 t22:=underlying3
 a22:=isAgg3
 z22:=sizeOf3
 v22:=zeroValue3 }
end Go.Proofs
namespace Go.Proofs.YteoamaffclmdbaaGreatDoor
open Go Go.Shelf Go.RowKit Go.Lib Go.Sort
set_option maxHeartbeats 1000000 in
def Lh(v0 v1 u0 u1:Value)(x y:Int)(W:World):Calls Tryz.prog 208 #[.agg #[v0,v1,.int .i64 x],.agg #[u0,u1,.int .i64 y]] W fun e w'=>e = .returned (.int .i64 (Lib.compareInt x y))/\∃q os',w'=grow (W.drewN q) os':=by
 have hcon:=fun W'=>AnyG.cmp_Compare_int Tryz.R2 x y W'
 change ∀W',Calls Tryz.prog 209 _ _ _ at hcon;generalize Lib.compareInt x y=r at hcon ⊢
 go_enter func208,ntmps208
 go_wp2_with (go_at_call 209; refine(hcon _).mono ?_; rintro e w' ⟨rfl,rfl⟩)
 go_ret
 exact⟨rfl,0,_,by rw[alloc_eq_grow,alloc_eq_grow,grow_grow]; rfl⟩
set_option maxHeartbeats 1000000 in
def Li(v1 v2 v3 v4 v5 u1 u2 u3 u4 u5:Value)(x y:Int)(W:World):Calls Tryz.prog 273 #[.agg #[.int .i64 x,v1,v2,v3,v4,v5],.agg #[.int .i64 y,u1,u2,u3,u4,u5]] W fun e w'=>e = .returned (.int .i64 (Lib.compareInt x y))/\∃q os',w'=grow (W.drewN q) os':=by
 have hcon:=fun W'=>AnyG.cmp_Compare_int Tryz.R2 x y W'
 change ∀W',Calls Tryz.prog 209 _ _ _ at hcon;generalize Lib.compareInt x y=r at hcon ⊢
 go_enter func273,ntmps273
 go_wp2_with (go_at_call 209; refine(hcon _).mono ?_; rintro e w' ⟨rfl,rfl⟩)
 go_ret
 exact⟨rfl,0,_,by rw[alloc_eq_grow,alloc_eq_grow,grow_grow]; rfl⟩
structure EL(sz p:Nat) where
 l:List Value
 hl:l.length=sz
 h1:∀v∈l,v.oneCell'=true
 n:Int
 hn:l[p]?=some (.int .i64 n)
def cfE{sz p:Nat}(a b:EL sz p):Int:=Lib.compareInt a.n b.n
def ltE{sz p:Nat}(x y:EL sz p):ltOf cfE x y=decide (x.n<y.n):=by
 unfold ltOf cfE Lib.compareInt
 by_cases h1:x.n<y.n
 ·simp[h1]
 ·by_cases h2:y.n<x.n<;>simp[h1,h2]
def aoL{sz p:Nat}:SWO (ltOf (cfE (sz:=sz) (p:=p))) where
 irrefl x:=by rw[ltE]; simp
 trans x y z h1 h2:=by rw[ltE] at *; simp at *; omega
 ntrans x y z h1 h2:=by rw[ltE] at *; simp at *; omega
def Ll[Inhabited (EL 3 2)](blk off size:Nat)(w:World):CmpLays Tryz.prog 208 #[] (EL.l (sz:=3) (p:=2)) 3 cfE blk off size w:=fun _ _ _ _ x y=>by
 obtain⟨l,hl,h1,n,hn⟩:=x;obtain⟨l',hl',h1',n',hn'⟩:=y
 match l,hl,hn,l',hl',hn' with
 | [a,b,c],_,hn,[a',b',c'],_,hn' =>
  cases hn;cases hn';exact Lh a b a' b' n n' _
def Lm[Inhabited (EL 6 0)](blk off size:Nat)(w:World):CmpLays Tryz.prog 273 #[] (EL.l (sz:=6) (p:=0)) 6 cfE blk off size w:=fun _ _ _ _ x y=>by
 obtain⟨l,hl,h1,n,hn⟩:=x;obtain⟨l',hl',h1',n',hn'⟩:=y
 match l,hl,hn,l',hl',hn' with
 | [a,b,c,d,e,f],_,hn,[a',b',c',d',e',f'],_,hn' =>
  cases hn;cases hn';exact Li b c d e f b' c' d' e' f' n n' _
end Go.Proofs.YteoamaffclmdbaaGreatDoor
namespace Go.Abs
open Go
def ZW(p:Nat)(x:ag):Option Int:=match x.cells[p]? with
 |some (.int .i64 n)=>some n
 |_=>none
def um(p:Nat)(x:ag):Int:=(ZW p x).getD 0
def D3(p:Nat)(x:ag):List ag->List ag
 | []=>[x]
 |y::r=>if um p x<um p y then x::y::r else y::D3 p x r
def rV(p:Nat):List ag->List ag
 | []=>[]
 |x::r=>D3 p x (rV p r)
def Bl(p:Nat)(x:ag):∀l,(D3 p x l).Perm (x::l)
 | [] => .refl _
 |y::r=>by
  rw[D3];split
  ·exact .refl _
  ·exact((Bl p x r).cons y).trans (.swap x y r)
def uC(p:Nat):∀l,(rV p l).Perm l
 | [] => .refl _
 |x::r=>(Bl p x _).trans ((uC p r).cons x)
def NA(p:Nat)(x:ag):∀l:List ag,l.Pairwise (fun a b=>um p a<=um p b)->(D3 p x l).Pairwise fun a b=>um p a<=um p b
 | [],_=>by simp[D3]
 |y::r,h=>by
  obtain⟨h1,h2⟩:=du.1 h;rw[D3];split
  ·rename_i cQ;refine du.2 ⟨fun b hb=>?_,h⟩
   rcases bH.1 hb with rfl|hb
   ·omega
   ·have:=h1 b hb; omega
  ·rename_i hge;refine du.2 ⟨fun b hb=>?_,NA p x r h2⟩
   rcases bH.1 ((Bl p x r).mem_iff.1 hb) with rfl|hb
   ·omega
   ·exact h1 b hb
def Kn(p:Nat):∀l,(rV p l).Pairwise fun a b=>um p a<=um p b
 | [] => .nil
 |x::r=>NA p x _ (Kn p r)
def Iy:∀ {a b:List Int},a.Pairwise (· < ·)->b.Pairwise (· < ·)->(∀m,m∈a↔m∈b)->a=b
 | [],[],_,_,_=>rfl
 | [],y::b,_,_,h=>by have:=(h y).2 bD; cases this
 |x::a,[],_,_,h=>by have:=(h x).1 bD; cases this
 |x::a,y::b,ha,hb,h=>by
  obtain⟨a1,a2⟩:=du.1 ha;obtain⟨b1,b2⟩:=du.1 hb
  have hxy:x=y:=by
   rcases bH.1 ((h x).1 bD) with h1|h1
   ·exact h1
   ·rcases bH.1 ((h y).2 bD) with h2|h2
    ·exact h2.symm
    ·have:=b1 x h1; have:=a1 y h2; omega
  subst hxy;rw[Iy a2 b2 (fun m=>?_)]
  constructor
  ·intro hm;rcases bH.1 ((h m).1 (bu _ hm)) with h1|h1
   ·subst h1; have:=a1 m hm; omega
   ·exact h1
  ·intro hm;rcases bH.1 ((h m).2 (bu _ hm)) with h1|h1
   ·subst h1; have:=b1 m hm; omega
   ·exact h1
def xw{l:List Int}(h:l.Pairwise (· <= ·))(hn:l.Nodup):l.Pairwise (· < ·):=by
 have:=List.Pairwise.and h hn;exact this.imp fun {a b} hab=>by have:=hab.1; have:=hab.2; omega
def WI{l:List Int}(h:l.Nodup){i j:Nat}{a:Int}(hi:l[i]?=some a)(hj:l[j]?=some a):i=j:=by
 have hp:=cn.1 h;obtain⟨h1,e1⟩:=aj.1 hi;obtain⟨h2,e2⟩:=aj.1 hj;rcases ik i j with hh|hh|hh
 ·exact absurd (e1.trans e2.symm) (hp i j h1 h2 hh)
 ·exact hh
 ·exact absurd (e2.trans e1.symm) (hp j i h2 h1 hh)
def MA{α:Type}{p:Nat}{d d':List α}{xs:List ag}(key:α->Int)(dN:d.length=xs.length)(hkey:∀(i:Nat)(a:α)(x:ag),d[i]?=some a->xs[i]?=some x->key a=um p x)(hnd:(xs.map (um p)).Nodup)
  (hperm:d'.Perm d) (hs:d'.Pairwise fun a b=>key a<=key b) {q:Nat} {y:ag} (hy:(rV p xs)[q]?=some y):∃(i:Nat) (a:α),d'[q]?=some a/\d[i]?=some a/\xs[i]?=some y:=by
 have hmap:d.map key=xs.map (um p):=by
  apply ct;intro i;rw[aX,aX];rcases bA i d.length with h|h
  ·have h':i<xs.length:=aH;rw[ai h,ai h'];simp only[ep];rw[hkey i _ _ (ai h) (ai h')]
  ·rw[fj h,fj aH]; rfl
 have p1:((rV p xs).map (um p)).Perm (xs.map (um p)):=(uC p xs).map _;have p2:(d'.map key).Perm (xs.map (um p)):=by rw[<-hmap]; exact hperm.map _
 have k1:((rV p xs).map (um p)).Pairwise (· < ·):=xw (jX.2 (Kn p xs)) (p1.nodup_iff.2 hnd)
 have k2:(d'.map key).Pairwise (· < ·):=xw (jX.2 hs) (p2.nodup_iff.2 hnd)
 have heq:=Iy k1 k2 (fun m=>by rw[p1.mem_iff,p2.mem_iff])
 have h1:(d'.map key)[q]?=some (um p y):=by rw[<-heq,aX,hy]; rfl
 rw[aX,aU] at h1;obtain⟨a,ha,hak⟩:=h1;obtain⟨i,hi⟩:=bV (hperm.mem_iff.1 (aJ ha));have hil:=aN hi;obtain⟨j,hj⟩:=bV ((uC p xs).mem_iff.1 (aJ hy));have hx:=ai (show i<xs.length by omega)
 have hk:=hkey i a _ hi hx;have:i=j:=WI hnd (i:=i) (j:=j) (a:=um p y) (by rw[aX,hx]; simp only[ep]; rw[<-hk,hak]) (by rw[aX,hj]; rfl)
 subst this;exact⟨i,a,ha,hi,hj⟩
noncomputable def wL(sz p g:Nat):List ag->aC->Option (ag×aC)
 | [.slice _ xs,.func g' cs],M=>match xs,cs with
  | [],[]=>if g'=g then some (.tuple [],M) else none
  |_,_=>none
 | [.cE id ver sz' lo hi,.func g' cs],M=>match nth M id,cs with
  |some (.arr sz0 v xs),[]=>cu (v=ver/\sz'=sz/\lo=0/\hi<=xs.length/\g'=g/\hi<=1099511627776/\(∀x,x∈xs.take hi->(ZW p x).isSome=true)/\((xs.take hi).map (um p)).Nodup)
    (some (.tuple [],jo M id (.arr sz0 v (rV p (xs.take hi)++xs.drop hi))))
  |_,_=>none
 |_,_=>none
end Go.Abs
namespace Go.Proofs.YteoamaffclmdbaaGreatDoor
open Go Go.Abs Go.Shelf Go.RowKit Go.Sort
def EU{sz p g f:Nat}(hp:p<sz)
  (h0:∀(A:Option Addr)(cap:Nat)(fv:Value)(w:World),Calls Tryz.prog f #[.slice A 0 cap,fv] w fun e w'=>e = .returned (.tuple #[])/\w'=w)
  (hS:∀ [Inhabited (EL sz p)] (blk cap:Nat) (d:Array (EL sz p)) (w:World),HoldsK EL.l sz w blk 0 d->blk<w.heap.size->d.size<4611686018427387904 ->
   Calls Tryz.prog f #[.slice (some ⟨blk,0,none⟩) d.size cap,.func (.func g) #[] #[]] w fun e w'=>e = .returned (.tuple #[])/\∃d' n os,PermIn 0 d.size d d'/\SortedIn (ltOf cfE) 0 d.size d'/\w'=sortWorldK EL.l sz w blk 0 n d' os)
  {args:List ag} {M:aC} {x:ag×aC} (h:wL sz p g args M=some x):dp Tryz.prog f args M x:=by
 unfold wL at h;split at h
 ·rename_i tk xs g' cs;split at h
  ·split at h
   ·rename_i hg;subst hg;cases h;refine nN.call ?_;intro j w vs hr hG hl hv;obtain⟨l⟩:=vs
    match l,hl with
    | [u1,u2],_ =>
     obtain⟨A,cap,b,off,sz0,vs,e1,_⟩:=(hv 0 _ u1 rfl rfl).er.er;subst e1;refine(h0 A cap u2 w).mono ?_;rintro e w' ⟨rfl,rfl⟩;exact⟨_,j,rfl,hr,Ext.refl _ _ _,.tuple rfl fun i c v hi=>by cases hi⟩
   ·cases h
  ·cases h
 ·rename_i ix ver sz' lo hi g' cs;rw[fe] at h;split at h
  ·rename_i sz0 v0 xs hM;obtain⟨⟨rfl,rfl,rfl,hhi,rfl,hbig,hk,hnd⟩,h1⟩:=dq h;cases h1;refine nN.call ?_;intro j w vs hr hG hl hv;obtain⟨l⟩:=vs
   match l,hl with
   | [u1,u2],_ =>
    have ha:=hv 0 _ u1 rfl rfl;obtain⟨us,hu2,hul,_⟩:=(hv 1 _ u2 rfl rfl).rC;have hu0:us = #[]:=Array.eq_empty_of_size_eq_zero (by simpa using hul.symm)
    subst hu0;rw[hu2];rcases gY hi with h00|hpos
    ·subst h00;obtain⟨A,cap,e1⟩:=ha.zG;rw[e1];refine(h0 A cap _ w).mono ?_;rintro e w' ⟨rfl,rfl⟩
     have he:jo M ix (.arr sz0 v0 (rV p (xs.take 0)++xs.drop 0))=M:=by
      rw[fH];apply ct;intro q
      by_cases e:ix=q
      ·subst e; rw[ei (aN hM),hM]; rfl
      ·rw[cX e]
     rw[he];exact⟨_,j,rfl,hr,Ext.refl _ _ _,.tuple rfl fun i c v hi=>by cases hi⟩
    ·obtain⟨_,hid,_,gg⟩:=ha.nh;obtain⟨e1,_,_,⟨hx,_⟩|⟨b,cap,row,t0,l3,l4,l5,l6,l7⟩⟩:=(gg sz0 v0 xs hM).2 rfl
     ·subst hx; simp at hhi; omega
     subst e1;obtain⟨b',row0,t',k1,k2,k3,k4,k5⟩:=hr.w9 hM l3;rw[l3] at k1; cases k1;rw[l6] at k2; injection k2 with k2; injection k2 with k2 k2'
     subst k2; subst k2';have hrow:hi*sz0<=row.size:=aY (bd _ hhi) k3
     -- the elements
     have hidx:∀q k,q<hi->k<sz0->q*sz0+k<hi*sz0:=fun q k hq hk'=>by
      have:(q+1)*sz0<=hi*sz0:=bd _ hq;rw[mU] at this; omega
     have hel:∀q,q<hi->∃a:EL sz0 p,(∀k,k<sz0->a.l[k]?=row[q*sz0+k]?)/\∀x,xs[q]?=some x->a.n=um p x:=by
      intro q hq;have hxq:xs[q]?=some (xs[q]'(by omega)):=ai aH
      have hwq:=k4 _ (aJ hxq)
      have hcell:∀k,k<sz0->∃u,row[q*sz0+k]?=some u/\∃c,(xs[q]'(by omega)).cells[k]?=some c/\fP w (nM j M w) c u:=fun k hk'=>by
       have hc:=ai (l:=(xs[q]'(by omega)).cells) (i:=k) aH
       obtain⟨u,h1,h2⟩:=k5 q _ k _ hxq hc;exact⟨u,h1,_,hc,h2⟩
      have hkx:=hk _ (aJ (show(xs.take hi)[q]?=_ by rw[bG hq]; exact hxq))
      have dN:((row.toList.drop (q*sz0)).take sz0).length=sz0:=by
       have:=hidx q (sz0-1) hq aH;simp; omega
      have hget:∀k,k<sz0->((row.toList.drop (q*sz0)).take sz0)[k]?=row[q*sz0+k]?:=fun k hk'=>by
       rw[bG hk',cS]; simp
      obtain⟨u,hu1,c,hc1,hc2⟩:=hcell p hp
      obtain⟨n,hn⟩:∃n,c = .int .i64 n:=by
       unfold ZW at hkx;rw[hc1] at hkx;split at hkx
       ·rename_i hh; injection hh with hh; exact⟨_,hh⟩
       ·cases hkx
      subst hn;have hu:=(gk.plain (j:=j) (M:=M) hc2).fW;subst hu;refine⟨⟨(row.toList.drop (q*sz0)).take sz0,dN,fun v hv=>?_,n,by rw[hget p hp]; exact hu1⟩,hget,fun x hx=>?_⟩
      ·obtain⟨k,hk'⟩:=bV hv;have hkl:k<sz0:=by rw[<-dN]; exact aN hk'
       obtain⟨u,h1,c,_,h3⟩:=hcell k hkl;rw[hget k hkl,h1] at hk'; cases hk';exact h3.one
      ·rw[hxq] at hx; cases hx;simp[um,ZW,hc1]
     obtain⟨d,hdl,hd⟩:∃d:List (EL sz0 p),d.length=hi/\∀q a,d[q]?=some a->(∀k,k<sz0->a.l[k]?=row[q*sz0+k]?)/\∀x,xs[q]?=some x->a.n=um p x:=by
      refine⟨(List.finRange hi).map fun q=>(hel q.1 q.2).choose,dw,fun q a ha=>?_⟩
      rw[aX,aU] at ha;obtain⟨i,hi',rfl⟩:=ha;have hq:q<hi:=by have:=aN hi'; simpa using this
      have:i=⟨q,hq⟩:=by
       have h1:=(aj.1 hi').2;rw[<-h1]; simp
      subst this;exact(hel q hq).choose_spec
     haveI:Inhabited (EL sz0 p):=⟨(hel 0 hpos).choose⟩
     have hget! : ∀q,q<hi->d[q]?=some d.toArray[q]! := fun q hq=>by
      rw[ai aH,mV d.toArray q (by simpa[hdl] using hq)]
      simp
     have hfl:∀t,t<hi*sz0->row[t]?=some (d.toArray[t / sz0]!.l[t % sz0]!):=fun t ht=>by
      have hq:t / sz0<hi:=(kX aH).2 ht;have hm:t % sz0<sz0:=nA _ aH;have h1:=(hd _ _ (hget! _ hq)).1 _ hm;rw[Nat.div_add_mod'] at h1;rw[<-h1];have h2:t % sz0<d.toArray[t / sz0]!.l.length:=by rw[(d.toArray[t / sz0]!).hl]; exact hm
      rw[ai h2,mV (d.toArray[t / sz0]!.l) (t % sz0) h2]
     have hH:HoldsK EL.l sz0 w b 0 d.toArray:=fun t ht=>by
      simp only[size_flatK,db,hdl] at ht;rw[get_flatK _ _ _ _ (by simpa[hdl] using ht)]
      refine⟨?_,?_⟩
      ·simp only[aI,World.cell?,l6,id];exact hfl t ht
      ·simp[World.frozen?,l6]
     rw[l4,bO,jG];have hcall:=hS b cap d.toArray w hH (lt_of_block l6) (by simp[hdl]; omega)
     simp only[db,hdl] at hcall;refine hcall.mono ?_;rintro e1 w' ⟨rfl,d',n,os,hperm,hsort,rfl⟩;obtain⟨hs1,_,hs3⟩:=hperm;simp only[db,hdl] at hs1
     have hperm':d'.toList.Perm d:=by
      have e1:(d'.extract 0 hi).toList=d'.toList:=by rw[<-hs1]; simp
      have e2:(d.toArray.extract 0 hi).toList=d:=by rw[<-hdl]; simp
      rw[e1,e2] at hs3; exact hs3
     have hpw:d'.toList.Pairwise fun a b=>a.n<=b.n:=by
      rw[cn];intro i k hi1 hk1 hik;have hk2:k<d'.size:=by simpa using hk1
      have:=hsort i k (cI _) hik aH;rw[ltE,mV d' k hk2,mV d' i aH] at this;simp at this ⊢;omega
     have hmatch:∀(q:Nat)(y:ag),(rV p (xs.take hi))[q]?=some y->∃(i:Nat) (a:EL sz0 p),d'.toList[q]?=some a/\d[i]?=some a/\(xs.take hi)[i]?=some y:=fun q y hy =>
      MA (fun a:EL sz0 p=>a.n) (by simp[hdl]; omega) (fun i a x h1 h2=>(hd i a h1).2 x (by
       have cQ:i<hi:=by have:=aN h2; simp at this; omega
       rwa[bG cQ] at h2)) hnd hperm' hpw hy
     -- the world behind
     have hbk:(sortWorldK EL.l sz0 w b 0 n d' os).heap[b]?=some (.cells (Go.Sort.putCells id 0 (flatK EL.l sz0 d') row) t0 (0,0)):=by
      have cQ:=lt_of_block l6
      show((w.heap.modify b (onCells (Go.Sort.putCells id 0 (flatK EL.l sz0 d'))))++os)[b]?=_
      rw[cd (by simpa using cQ),gU,aZ rfl,l6]
      rfl
     have hq:Quiet w (sortWorldK EL.l sz0 w b 0 n d' os):=⟨by show w.heap.size<=((w.heap.modify b _)++os).size; simp,rfl,rfl,rfl⟩
     have hoth:∀b',b'≠b->b'<w.heap.size->(sortWorldK EL.l sz0 w b 0 n d' os).heap[b']?=w.heap[b']?:=fun b' hne cQ=>by
      show((w.heap.modify b _)++os)[b']?=_
      rw[cd (by simpa using cQ),gU,aQ (eX hne)]
     have hsl:(rV p (xs.take hi)).length=hi:=by rw[(uC p _).length_eq]; simp; omega
     have hwd:wid (rV p (xs.take hi)++xs.drop hi) sz0:=nD (fun x hx=>k4 x (dB ((uC p _).mem_iff.1 hx))) (vX k4)
     have hcells:∀t,t<hi*sz0->(Go.Sort.putCells id 0 (flatK EL.l sz0 d') row)[t]?=some (d'[t / sz0]!.l[t % sz0]!):=fun t ht=>by
      unfold Go.Sort.putCells;rw[Array.getElem?_mapIdx,bg (show t<row.size by omega)]
      simp only[ep,size_flatK,hs1,aI,bO,cI,true_and,ht,aF,id];rw[get_flatK _ _ _ _ (by rw[hs1]; exact ht)]
     have hrl:RL w (nM j M w) (kc (rV p (xs.take hi)++xs.drop hi)) ((Go.Sort.putCells id 0 (flatK EL.l sz0 d') row).toList.take (xs.length*sz0)):=by
      have hpsz:(Go.Sort.putCells id 0 (flatK EL.l sz0 d') row).size=row.size:=by simp[Go.Sort.putCells]
      refine xZ (b:=b) (by rw[hpsz]; simpa[hsl,dx hhi] using k3) hwd (fun q x k c hx hkc=>?_) |> fun h=>by
       have e:(rV p (xs.take hi)++xs.drop hi).length=xs.length:=by simp[hsl]; omega
       rwa[e] at h
      have hkl:k<sz0:=by rw[<-hwd x (aJ hx)]; exact aN hkc
      rcases bA q hi with hq'|hq'
      ·rw[aO (by rw[hsl]; exact hq')] at hx
       obtain⟨i,a,h1,h2,h3⟩:=hmatch q x hx;have hi':i<hi:=by have:=aN h3; simp at this; omega
       rw[bG hi'] at h3;obtain⟨u,g1,g2⟩:=k5 i x k c h3 hkc;refine⟨u,?_,g2⟩;rw[hcells _ (hidx q k hq' hkl)];have hdv:(q*sz0+k) / sz0=q:=by rw[Nat.mul_comm,Nat.mul_add_div aH,Nat.div_eq_of_lt hkl]; rfl
       have hmd:(q*sz0+k) % sz0=k:=by rw[Nat.mul_comm,Nat.mul_add_mod,nK hkl]
       rw[hdv,hmd]
       have ha':d'[q]! = a:=by
        have hq2:q<d'.size:=aH;rw[mV d' q hq2];simpa[bg hq2] using h1
       rw[ha',<-g1,<-(hd i a h2).1 k hkl];have:k<a.l.length:=by rw[a.hl]; exact hkl
       rw[ai this,mV a.l k this]
      ·rw[bj (by rw[hsl]; exact hq'),hsl,cS,dx hq'] at hx
       obtain⟨u,g1,g2⟩:=k5 q x k c hx hkc;refine⟨u,?_,g2⟩;unfold Go.Sort.putCells;have hge:hi*sz0<=q*sz0+k:=aY (bd _ hq') (ko _ _);rw[Array.getElem?_mapIdx,g1];simp only[ep,size_flatK,hs1,aI];rw[aQ aH]
     rw[fH]
     have hput:=xY (ver':=v0) (xs':=rV p (xs.take hi)++xs.drop hi) hr hM l3 hq hoth l6 hbk (by simp[Go.Sort.putCells]) (av _) (fun _=>by simp[hsl]; omega) hwd hrl (fun t ht=>by
      rw[bG (by simp at ht; omega)]; simp)
     exact⟨_,j,rfl,hput.1,hput.2,.tuple rfl fun i c v hi=>by cases hi⟩
  ·cases h
 ·cases h
def XT{args:List ag}{M:aC}{x:ag×aC}(h:wL 3 2 208 args M=some x):dp Tryz.prog 207 args M x :=
 EU aH (fun A cap fv w=>AnyF.slices_SortFunc_none Tryz.Om A cap fv w)
  (fun blk cap d w hH hb hs=>(AnyQ.slices_SortFunc Tryz.Om 3 isAgg152 sizeOf152 EL.l (fun x=>x.hl) (fun x=>x.h1) cfE aoL 208 #[] blk 0 cap d w (enters_of func208 ft rfl) (Ll blk 0 d.size w) hH hb hs)) h
def XU{args:List ag}{M:aC}{x:ag×aC}(h:wL 6 0 273 args M=some x):dp Tryz.prog 272 args M x :=
 EU aH (fun A cap fv w=>AnyF.slices_SortFunc_none Tryz.Kq A cap fv w)
  (fun blk cap d w hH hb hs=>(AnyQ.slices_SortFunc Tryz.Kq 6 isAgg115 sizeOf115 EL.l (fun x=>x.hl) (fun x=>x.h1) cfE aoL 273 #[] blk 0 cap d w (enters_of func273 ft rfl) (Lm blk 0 d.size w) hH hb hs)) h
end Go.Proofs.YteoamaffclmdbaaGreatDoor
namespace Go.Proofs.YteoamaffclmdbaaGreatDoor
open Go Go.Abs
noncomputable def sM(sz:Nat)(args:List ag)(M:aC):Option (ag×aC):=bJ (lJ sz args M) fun x=>some (x.1.rz x.2,qE x.2 x.1.ids)
def FU{P:Program}{f:Nat}{args:List ag}{M:aC}{x:ag×aC}(h:dp P f args M x)(hx:x.1.jr=false):dp P f args M (x.1.rz x.2,qE x.2 x.1.ids):=by
 intro j w vs h1 h2 h3 h4;refine(h j w vs h1 h2 h3 h4).mono ?_;intro e w' hc;obtain⟨v,rfl,j',g1,g2,g3⟩:=hc.ret hx;obtain⟨f1,f2,f3,f4⟩:=zW x.1.ids g1;exact .inl ⟨v,rfl,j',f2,g2.trans f1,g3.rz g1 f1 f2 f3 f4⟩
def J1{sz:Nat}{args:List ag}{M:aC}{x:ag×aC}(h:lJ sz args M=some x):x.1.jr=false:=by
 unfold lJ at h;split at h
 ·split at h
  ·obtain⟨_,h⟩:=dq h;cases h; rfl
  ·cases h
 ·cases h
def DD{P:Program}{f sz:Nat}(hd:∀ {args:List ag} {M:aC} {x:ag×aC},lJ sz args M=some x->dp P f args M x)
  {args:List ag} {M:aC} {x:ag×aC} (h:sM sz args M=some x):dp P f args M x:=by
 obtain⟨y,h1,h2⟩:=bm h;cases h2;exact FU (hd h1) (J1 h1)
def Lr{args:List ag}{M:aC}{x:ag×aC}(h:sM 3 args M=some x):dp Tryz.prog 218 args M x:=DD Po h
def Ls{args:List ag}{M:aC}{x:ag×aC}(h:sM 3 args M=some x):dp Tryz.prog 227 args M x:=DD Pp h
section
open Go.RowKit
set_option maxHeartbeats 1000000 in
set_option maxRecDepth 100000 in
def Lo(a b:ByteArray)(w:World) :
  Calls Tryz.prog 286 #[.string a,.string b] w fun e w'=>e = .returned (.int .i64 (Lib.compareBytes a.data.toList b.data.toList))/\w'=w:=by
 go_enter func286,ntmps286
 go_wp2
 rw[run_callFunc_extern func309 ft ft ft (e:=Extern.BytealgCompare.compare) ft,Lib.run_compareString];simp only[Result.andThen];rw[Oper.upon_value]
 go_wp2
 go_ret
 exact⟨rfl,rfl⟩
noncomputable def Aj:List ag->aC->Option (ag×aC)
 | [.str a,.str b],M=>some (.int .i64 (Lib.compareBytes a b),M)
 |_,_=>none
def IU{args:List ag}{M:aC}{x:ag×aC}(h:Aj args M=some x):dp Tryz.prog 286 args M x:=by
 unfold Aj at h;split at h
 ·rename_i a b;cases h;refine nN.call ?_;intro j w vs hr hG hl hv;obtain⟨l⟩:=vs
  match l,hl with
  | [u1,u2],_ =>
   have h1:=(hv 0 _ u1 rfl rfl).kH;have h2:=(hv 1 _ u2 rfl rfl).kH;subst h1; subst h2;refine(Lo (bs a) (bs b) w).mono ?_;rintro e w' ⟨rfl,rfl⟩;exact⟨_,j,rfl,hr,.refl _ _ _,.plain (.int _ _)⟩
 ·cases h
end
end Go.Proofs.YteoamaffclmdbaaGreatDoor
namespace Go.Proofs
open Go.Shelf
def Tryz.Cm:Go.Shelf.Ren:=⟨fun|156=>277|165=>304|166=>305|169=>306|240=>327|241=>328|276=>335|277=>336|n=>n,fun|31=>44|9=>9|3=>3|4=>4|0=>0|20=>20|72=>352|76=>353|70=>350|37=>45|75=>99|127=>370|164=>170|5=>5|80=>355|n=>n,fun|n=>n⟩
def Tryz.NH:Go.Proofs.Lays.n156 Tryz.prog Tryz.Cm:={
 mixed:=ft
 f156:=(tf func277)
 f165:=(tf func304)
 f166:=(tf func305)
 f169:=(tf func306)
 f240:=(tf func327)
 f241:=(tf func328)
 f276:=(tf func335)
 f277:=(tf func336)
 t0:=underlying0
 a0:=isAgg0
 z0:=sizeOf0
 v0:=zeroValue0
 t3:=underlying3
 a3:=isAgg3
 z3:=sizeOf3
 v3:=zeroValue3
 t4:=underlying4
 a4:=isAgg4
 z4:=sizeOf4
 v4:=zeroValue4
 t9:=underlying9
 a9:=isAgg9
 z9:=sizeOf9
 v9:=zeroValue9
 t20:=underlying20
 a20:=isAgg20
 z20:=sizeOf20
 v20:=zeroValue20
 t31:=underlying44
 a31:=isAgg44
 z31:=sizeOf44
 v31:=zeroValue44
 t37:=underlying45
 a37:=isAgg45
 z37:=sizeOf45
 v37:=zeroValue45
 t70:=underlying350
 a70:=isAgg350
 z70:=sizeOf350
 v70:=zeroValue350
 t72:=underlying352
 a72:=isAgg352
 z72:=sizeOf352
 v72:=zeroValue352
 t75:=underlying99
 a75:=isAgg99
 z75:=sizeOf99
 v75:=zeroValue99
 t76:=underlying353
 a76:=isAgg353
 z76:=sizeOf353
 v76:=zeroValue353
 t127:=underlying370
 a127:=isAgg370
 z127:=sizeOf370
 v127:=zeroValue370
 t164:=underlying170
 a164:=isAgg170
 z164:=sizeOf170
 v164:=zeroValue170 }
def Tryz.uN:Builder.Extra Tryz.prog Tryz.Cm:={
 sizeBuilder:=ft
 liesBuilder:=ft
 t5:=underlying5
 a5:=isAgg5
 z5:=sizeOf5
 v5:=zeroValue5
 infoByte:=ft
 cellsByte:=ft
 sizeByte:=ft
 neB5:=by decide }
open Go.RowKit in
def Tryz.strings_Join_none(a:Option Addr)(c:Nat)(sep:ByteArray)(w:World) :
  Calls Tryz.prog 277 #[.slice a 0 c,.string sep] w fun e w'=>e = .returned (.string ⟨#[]⟩)/\w'=w:=Any.strings_Join_none Tryz.NH Tryz.uN a c sep w
open Go.RowKit in
def Tryz.strings_Join(bk o c:Nat)(xs:List ByteArray)(sep:ByteArray)(w:World)(hcells:∀(j:Nat) x,xs[j]?=some x->w.cell? ⟨bk,o+j,none⟩=some (.string x))(hbk:bk<w.heap.size)(hN:xs.length<=140737488355328)(hcap:xs.length<=c)(dN:(Lib.join (xs.map (·.data.toList)) sep.data.toList).length<=140737488355328) :
  Calls Tryz.prog 277 #[.slice (some ⟨bk,o,none⟩) xs.length c,.string sep] w fun e w'=>e = .returned (.string ⟨(Lib.join (xs.map (·.data.toList)) sep.data.toList).toArray⟩)/\Below w.heap.size w w':=Any.strings_Join Tryz.NH Tryz.uN bk o c xs sep w hcells hbk hN hcap dN
def Tryz.JI:Go.Shelf.Ren:=⟨fun|137=>276|217=>303|266=>326|n=>n,fun|9=>9|5=>5|3=>3|n=>n,fun|n=>n⟩
def Tryz.Z0:Go.Proofs.Lays.n137 Tryz.prog Tryz.JI:={
 mixed:=ft
 f137:=(tf func276)
 f217:=(tf func303)
 f266:=(tf func326)
 t3:=underlying3
 a3:=isAgg3
 z3:=sizeOf3
 v3:=zeroValue3
 t5:=underlying5
 a5:=isAgg5
 z5:=sizeOf5
 v5:=zeroValue5
 t9:=underlying9
 a9:=isAgg9
 z9:=sizeOf9
 v9:=zeroValue9 }
open Go.RowKit in
def Tryz.strings_IndexByte(s:ByteArray)(c:Int)(w:World) :
  Calls Tryz.prog 276 #[.string s,.int .u8 c] w fun e w'=>e = .returned (.int .i64 (Lib.indexByte s.data.toList c.toNat.toUInt8))/\w'=w:=Any.strings_IndexByte Tryz.Z0 s c w
end Go.Proofs
namespace Go.Proofs.YteoamaffclmdbaaGreatDoor
open Go Go.Abs
open Go.RowKit
def CB{P:Program}{f:Nat}{args:List ag}{M:aC}{r:ag}
  (h:∀(j:J)(w:World)(vs:Array Value),Rel j M w->sW j M w->args.length=vs.size->(∀(i:Nat)(c:ag)(v:Value),args[i]?=some c->vs[i]?=some v->gk j M w c v) ->
   Calls P f vs w fun e w'=>∃v,e = .returned v/\Below w.heap.size w w'/\gk j M w' r v):dp P f args M (r,M):=by
 refine nN.call ?_;intro j w vs hr hG hl hv;refine(h j w vs hr hG hl hv).mono ?_;rintro e w' ⟨v,rfl,hb,hrep⟩;exact⟨v,j,rfl,hr.grow hb.size hb.os hb.tape hb.output hb.block,Ext.grow hb.size hb.os hb.tape hb.output hb.block,hrep⟩
def zo:List ag->aC->Option (ag×aC)
 | [.str s,.int k c],M=>if k = .u8 then some (.int .i64 (Lib.indexByte s c.toNat.toUInt8),M) else none
 |_,_=>none
def LW{args:List ag}{M:aC}{x:ag×aC}(h:zo args M=some x):dp Tryz.prog 276 args M x:=by
 unfold zo at h;split at h
 ·rename_i s k c;split at h
  ·rename_i hk;subst hk;cases h;refine CB fun j w vs hr hG hl hv=>?_
   obtain⟨l⟩:=vs
   match l,hl with
   | [u1,u2],_ =>
    obtain rfl:=(hv 0 _ u1 rfl rfl).kH;obtain rfl:=(hv 1 _ u2 rfl rfl).fW;refine(Tryz.strings_IndexByte (bs s) c w).mono ?_;rintro e w' ⟨rfl,rfl⟩;exact⟨_,rfl,Below.refl _ _,by simp[bs]; exact .plain (.int _ _)⟩
  ·cases h
 ·cases h
def BN:List ag->Option (List (List UInt8))
 | []=>some []
 | .str s::r=>bJ (BN r) fun l=>some (s::l)
 |_=>none
def GK:∀ {xs:List ag} {l:List (List UInt8)},BN xs=some l->xs=l.map .str
 | [],l,h=>by cases h; rfl
 |x::r,l,h=>by
  unfold BN at h;split at h
  ·rename_i e; cases e
  ·rename_i s r' e;injection e with e1 e2; subst e1; subst e2
   obtain⟨l',h1,h2⟩:=bm h;cases h2;rw[GK h1]; rfl
  ·cases h
def J3:List ag->aC->Option (ag×aC)
 | [.slice _ xs,.str sep],M=>bJ (BN xs) fun l=>if l.length<=140737488355328/\(Lib.join l sep).length<=140737488355328 then some (.str (Lib.join l sep),M) else none
 |_,_=>none
def amX{args:List ag}{M:aC}{x:ag×aC}(h:J3 args M=some x):dp Tryz.prog 277 args M x:=by
 unfold J3 at h;split at h
 ·rename_i tk xs sep;obtain⟨l,hl0,h⟩:=bm h;have hxs:=GK hl0;split at h
  ·rename_i hs;cases h;refine CB fun j w vs hr hG hl hv=>?_
   obtain⟨us⟩:=vs
   match us,hl with
   | [u1,u2],_ =>
    obtain⟨A,cap,b,off,sz,vs,e1,e2,e3,e4,e5,e6⟩:=(hv 0 _ u1 rfl rfl).er.er;obtain rfl:=(hv 1 _ u2 rfl rfl).kH;subst e1;subst hxs;cases l with
    |nil =>
     refine(Tryz.strings_Join_none A cap (bs sep) w).mono ?_;rintro e w' ⟨rfl,rfl⟩;exact⟨_,rfl,Below.refl _ _,.plain (.str _)⟩
    |cons s0 l =>
     obtain rfl:=e3 dw;have hsz:sz=1:=(e4 (.str s0) dw).symm;subst hsz
     have cell:∀(q:Nat)(s:List UInt8),(s0::l)[q]?=some s->w.cell? ⟨b,off+q,none⟩=some (.string (bs s)):=fun q s hq=>by
      have hq':((s0::l).map ag.str)[q]?=some (.str s):=by rw[aX,hq]; rfl
      have k1:=e5 q _ 0 (.str s) hq' rfl;have k2:=(gk.plain (j:=j) (M:=M) (e6 q _ 0 (.str s) hq' rfl)).kH;simp only[pQ,dj] at k1 k2;rw[k1.1,k2]
     have hmap:((s0::l).map bs).map (·.data.toList)=s0::l:=by
      rw[gI]; conv=>rhs; rw[<-List.map_id (s0::l)]
      exact cT fun s _=>by simp[bs]
     have hd:(bs sep).data.toList=sep:=by simp[bs]
     have hb:b<w.heap.size:=by
      have:=cell 0 s0 rfl;rcases bA b w.heap.size with h|h
      ·exact h
      ·simp[World.cell?,im h] at this
     have hJ:=Tryz.strings_Join b off cap ((s0::l).map bs) (bs sep) w (fun q x hq=>by
      rw[aX,aU] at hq;obtain⟨s,hs,rfl⟩:=hq;exact cell q s hs) hb (by simpa using hs.1) (by simpa using e2) (by rw[hmap,hd]; exact hs.2)
     rw[hmap,hd] at hJ;have:((s0::l).map bs).length=((s0::l).map ag.str).length:=dw;rw[this] at hJ;refine hJ.mono ?_;rintro e w' ⟨rfl,hb⟩;exact⟨_,rfl,hb,.plain (.str _)⟩
  ·cases h
 ·cases h
end Go.Proofs.YteoamaffclmdbaaGreatDoor
namespace Go.Abs
open Go
def TG0:(∀B M b,ag.jy B M (.bool b)=(.bool b)/\ag.jH B M (.bool b)=(.bool b)/\ag.j4 B M (.bool b)=(.bool b)/\ag.mG B M (.bool b)=(.bool b)/\ag.jM B M (.bool b)=(.bool b)/\ag.ki B M (.bool b)=(.bool b)/\ag.kK B M (.bool b)=(.bool b)) /\
  (∀b,ag.shut (.bool b)=(.bool b)/\ag.fU (.bool b)=(.bool b)/\ag.jr (.bool b)=false/\ag.cells? (.bool b)=some [(.bool b)]/\ag.je (.bool b)=true/\ag.plainCell (.bool b)=true/\ag.plain (.bool b)=true/\ag.cells (.bool b)=[(.bool b)]/\ag.iH (.bool b)=[]/\ag.nG (.bool b)=[]/\ag.ids (.bool b)=[]) /\
  (∀M b,ag.oZ M (.bool b)=(.bool b)/\ag.rz M (.bool b)=(.bool b)) /\
  (∀B M k n,ag.jy B M (.int k n)=(.int k n)/\ag.jH B M (.int k n)=(.int k n)/\ag.j4 B M (.int k n)=(.int k n)/\ag.mG B M (.int k n)=(.int k n)/\ag.jM B M (.int k n)=(.int k n)/\ag.ki B M (.int k n)=(.int k n)/\ag.kK B M (.int k n)=(.int k n)) /\
  (∀k n,ag.shut (.int k n)=(.int k n)/\ag.fU (.int k n)=(.int k n)/\ag.jr (.int k n)=false/\ag.cells? (.int k n)=some [(.int k n)]/\ag.je (.int k n)=true/\ag.plainCell (.int k n)=true/\ag.plain (.int k n)=true/\ag.cells (.int k n)=[(.int k n)]/\ag.iH (.int k n)=[]/\ag.nG (.int k n)=[]/\ag.ids (.int k n)=[]) /\
  (∀M k n,ag.oZ M (.int k n)=(.int k n)/\ag.rz M (.int k n)=(.int k n)) /\
  (∀B M s,ag.jy B M (.str s)=(.str s)/\ag.jH B M (.str s)=(.str s)/\ag.j4 B M (.str s)=(.str s)/\ag.mG B M (.str s)=(.str s)/\ag.jM B M (.str s)=(.str s)/\ag.ki B M (.str s)=(.str s)/\ag.kK B M (.str s)=(.str s)) /\
  (∀s,ag.shut (.str s)=(.str s)/\ag.fU (.str s)=(.str s)/\ag.jr (.str s)=false/\ag.cells? (.str s)=some [(.str s)]/\ag.je (.str s)=true/\ag.plainCell (.str s)=true/\ag.plain (.str s)=true/\ag.cells (.str s)=[(.str s)]/\ag.iH (.str s)=[]/\ag.nG (.str s)=[]/\ag.ids (.str s)=[]):=by
 repeat' (first|rfl|intro _|apply And.intro)
def TG1:(∀M s,ag.oZ M (.str s)=(.str s)/\ag.rz M (.str s)=(.str s)) /\
  (∀B M id off,ag.jy B M (.ptr id off)=(if id<B then (.ptr id off) else .any)/\ag.jH B M (.ptr id off)=(if id<B then (.ptr id off) else .any)/\ag.j4 B M (.ptr id off)=(if id<B then (.ptr id off) else .any)/\ag.mG B M (.ptr id off)=(if id<B then (.ptr id off) else .any)/\ag.jM B M (.ptr id off)=(if id<B then (.ptr id off) else .any)/\ag.ki B M (.ptr id off)=(if id<B then (.ptr id off) else .any)/\ag.kK B M (.ptr id off)=(if id<B then (.ptr id off) else .any)) /\
  (∀id off,ag.shut (.ptr id off)=(.ptr id off)/\ag.fU (.ptr id off)=(.ptr id off)/\ag.jr (.ptr id off)=false/\ag.cells? (.ptr id off)=some [(.ptr id off)]/\ag.je (.ptr id off)=true/\ag.plainCell (.ptr id off)=false/\ag.plain (.ptr id off)=false/\ag.cells (.ptr id off)=[(.ptr id off)]/\ag.iH (.ptr id off)=[id]/\ag.nG (.ptr id off)=[id]/\ag.ids (.ptr id off)=[id]) /\
  (∀M id off,ag.oZ M (.ptr id off)=(.ptr id off)/\ag.rz M (.ptr id off)=(.ptr id off)) /\
  (∀B M cs,ag.jy B M (.jF cs)=(.jF cs)/\ag.jH B M (.jF cs)=(.jF cs)/\ag.j4 B M (.jF cs)=(.jF cs)/\ag.mG B M (.jF cs)=(.jF cs)/\ag.jM B M (.jF cs)=(.jF cs)/\ag.ki B M (.jF cs)=(.jF cs)/\ag.kK B M (.jF cs)=(.jF cs)) /\
  (∀cs,ag.shut (.jF cs)=(.jF cs)/\ag.fU (.jF cs)=(.jF cs)/\ag.jr (.jF cs)=false/\ag.cells? (.jF cs)=some [(.jF cs)]/\ag.je (.jF cs)=true/\ag.plainCell (.jF cs)=false/\ag.plain (.jF cs)=false/\ag.cells (.jF cs)=[(.jF cs)]/\ag.iH (.jF cs)=[]/\ag.nG (.jF cs)=[]/\ag.ids (.jF cs)=[]) /\
  (∀M cs,ag.oZ M (.jF cs)=(.jF cs)/\ag.rz M (.jF cs)=(.jF cs)) /\
  (∀B M f cs,ag.jy B M (.func f cs) = .any/\ag.jH B M (.func f cs) = .func f (cs.map (ag.jy B M))/\ag.j4 B M (.func f cs) = .func f (cs.map (ag.jy B M))/\ag.mG B M (.func f cs) = .func f (cs.map (ag.jy B M))/\ag.jM B M (.func f cs) = .func f (cs.map (ag.jy B M))/\ag.ki B M (.func f cs) = .func f (cs.map (ag.jy B M))/\ag.kK B M (.func f cs) = .func f (cs.map (ag.jy B M))):=by
 repeat' (first|rfl|intro _|apply And.intro)
def TG2:(∀f cs,ag.shut (.func f cs)=(.func f cs)/\ag.fU (.func f cs)=(.func f cs)/\ag.jr (.func f cs)=false/\ag.cells? (.func f cs)=some [(.func f cs)]/\ag.je (.func f cs)=true/\ag.plainCell (.func f cs)=false/\ag.plain (.func f cs)=false/\ag.cells (.func f cs)=[(.func f cs)]/\ag.iH (.func f cs)=[]/\ag.nG (.func f cs)=cs.flatMap ag.iH/\ag.ids (.func f cs)=cs.flatMap ag.iH) /\
  (∀M f cs,ag.oZ M (.func f cs)=(.func f cs)/\ag.rz M (.func f cs)=(.func f cs)) /\
  (∀B M id,ag.jy B M (.iy id)=(if id<B then (.iy id) else .any)/\ag.jH B M (.iy id)=(if id<B then (.iy id) else .any)/\ag.j4 B M (.iy id)=(if id<B then (.iy id) else .any)/\ag.mG B M (.iy id)=(if id<B then (.iy id) else .any)/\ag.jM B M (.iy id)=(if id<B then .iy id else match M[id]? with|some (.map ks vs)=>if vs.all ag.plain&&ks.all ag.plainCell then .kj ks vs else .any|_ => .any)/\ag.ki B M (.iy id)=(if id<B then .iy id else match M[id]? with|some (.map ks vs)=>if vs.all ag.plain&&ks.all ag.plainCell then .kj ks vs else .any|_ => .any)/\ag.kK B M (.iy id)=(if id<B then .iy id else match M[id]? with|some (.map ks vs)=>if vs.all ag.plain&&ks.all ag.plainCell then .kj ks vs else .any|_ => .any)) /\
  (∀id,ag.shut (.iy id)=(.iy id)/\ag.fU (.iy id)=(.iy id)/\ag.jr (.iy id)=false/\ag.cells? (.iy id)=some [(.iy id)]/\ag.je (.iy id)=true/\ag.plainCell (.iy id)=false/\ag.plain (.iy id)=false/\ag.cells (.iy id)=[(.iy id)]/\ag.iH (.iy id)=[id]/\ag.nG (.iy id)=[id]/\ag.ids (.iy id)=[id]) /\
  (∀M id,ag.oZ M (.iy id)=(.iy id)/\ag.rz M (.iy id)=(.iy id)) /\
  (∀B M id,ag.jy B M (.ka id)=(if id<B then (.ka id) else .any)/\ag.jH B M (.ka id)=(if id<B then (.ka id) else .any)/\ag.j4 B M (.ka id)=(if id<B then (.ka id) else .any)/\ag.mG B M (.ka id)=(if id<B then (.ka id) else .any)/\ag.jM B M (.ka id)=(if id<B then (.ka id) else .any)/\ag.ki B M (.ka id)=(if id<B then (.ka id) else .any)/\ag.kK B M (.ka id)=(if id<B then (.ka id) else .any)) /\
  (∀id,ag.shut (.ka id)=(.ka id)/\ag.fU (.ka id)=(.ka id)/\ag.jr (.ka id)=false/\ag.cells? (.ka id)=some [(.ka id)]/\ag.je (.ka id)=true/\ag.plainCell (.ka id)=false/\ag.plain (.ka id)=false/\ag.cells (.ka id)=[(.ka id)]/\ag.iH (.ka id)=[id]/\ag.nG (.ka id)=[id]/\ag.ids (.ka id)=[id]) /\
  (∀M id,ag.oZ M (.ka id)=(.ka id)/\ag.rz M (.ka id)=(.ka id)):=by
 repeat' (first|rfl|intro _|apply And.intro)
def TG3:(∀B M ks vs,ag.jy B M (.kj ks vs)=(.kj ks vs)/\ag.jH B M (.kj ks vs)=(.kj ks vs)/\ag.j4 B M (.kj ks vs)=(.kj ks vs)/\ag.mG B M (.kj ks vs)=(.kj ks vs)/\ag.jM B M (.kj ks vs)=(.kj ks vs)/\ag.ki B M (.kj ks vs)=(.kj ks vs)/\ag.kK B M (.kj ks vs)=(.kj ks vs)) /\
  (∀ks vs,ag.shut (.kj ks vs)=(.kj ks vs)/\ag.fU (.kj ks vs)=(.kj ks vs)/\ag.jr (.kj ks vs)=false/\ag.cells? (.kj ks vs)=some [(.kj ks vs)]/\ag.je (.kj ks vs)=true/\ag.plainCell (.kj ks vs)=false/\ag.plain (.kj ks vs)=false/\ag.cells (.kj ks vs)=[(.kj ks vs)]/\ag.iH (.kj ks vs)=[]/\ag.nG (.kj ks vs)=[]/\ag.ids (.kj ks vs)=[]) /\
  (∀M ks vs,ag.oZ M (.kj ks vs)=(.kj ks vs)/\ag.rz M (.kj ks vs)=(.kj ks vs)) /\
  (∀B M id ver sz lo hi,ag.jy B M (.cE id ver sz lo hi)=(if id<B then (.cE id ver sz lo hi) else match M[id]? with|some (.arr _ v xs)=>if v=ver then gv ((xs.take hi).drop lo) else .any|_ => .any)/\ag.jH B M (.cE id ver sz lo hi)=(if id<B then (.cE id ver sz lo hi) else match M[id]? with|some (.arr _ v xs)=>if v=ver then gv ((xs.take hi).drop lo) else .any|_ => .any)/\ag.j4 B M (.cE id ver sz lo hi)=(if id<B then (.cE id ver sz lo hi) else match M[id]? with|some (.arr _ v xs)=>if v=ver then gv ((xs.take hi).drop lo) else .any|_ => .any)/\ag.mG B M (.cE id ver sz lo hi)=(if id<B then (.cE id ver sz lo hi) else match M[id]? with|some (.arr _ v xs)=>if v=ver then gv ((xs.take hi).drop lo) else .any|_ => .any)/\ag.jM B M (.cE id ver sz lo hi)=(if id<B then (.cE id ver sz lo hi) else match M[id]? with|some (.arr _ v xs)=>if v=ver then gv ((xs.take hi).drop lo) else .any|_ => .any)/\ag.ki B M (.cE id ver sz lo hi)=(if id<B then (.cE id ver sz lo hi) else match M[id]? with|some (.arr _ v xs)=>if v=ver then gv ((xs.take hi).drop lo) else .any|_ => .any)/\ag.kK B M (.cE id ver sz lo hi)=(if id<B then (.cE id ver sz lo hi) else match M[id]? with|some (.arr _ v xs)=>if v=ver then gv ((xs.take hi).drop lo) else .any|_ => .any)) /\
  (∀id ver sz lo hi,ag.shut (.cE id ver sz lo hi)=(.cE id ver sz lo hi)/\ag.fU (.cE id ver sz lo hi)=(.cE id ver sz lo hi)/\ag.jr (.cE id ver sz lo hi)=false/\ag.cells? (.cE id ver sz lo hi)=some [(.cE id ver sz lo hi)]/\ag.je (.cE id ver sz lo hi)=true/\ag.plainCell (.cE id ver sz lo hi)=false/\ag.plain (.cE id ver sz lo hi)=false/\ag.cells (.cE id ver sz lo hi)=[(.cE id ver sz lo hi)]/\ag.iH (.cE id ver sz lo hi)=[id]/\ag.nG (.cE id ver sz lo hi)=[id]/\ag.ids (.cE id ver sz lo hi)=[id]) /\
  (∀B M id ver i off,ag.jy B M (.jv id ver i off)=(if id<B then (.jv id ver i off) else .any)/\ag.jH B M (.jv id ver i off)=(if id<B then (.jv id ver i off) else .any)/\ag.j4 B M (.jv id ver i off)=(if id<B then (.jv id ver i off) else .any)/\ag.mG B M (.jv id ver i off)=(if id<B then (.jv id ver i off) else .any)/\ag.jM B M (.jv id ver i off)=(if id<B then (.jv id ver i off) else .any)/\ag.ki B M (.jv id ver i off)=(if id<B then (.jv id ver i off) else .any)/\ag.kK B M (.jv id ver i off)=(if id<B then (.jv id ver i off) else .any)) /\
  (∀id ver i off,ag.shut (.jv id ver i off)=(.jv id ver i off)/\ag.fU (.jv id ver i off)=(.jv id ver i off)/\ag.jr (.jv id ver i off)=false/\ag.cells? (.jv id ver i off)=some [(.jv id ver i off)]/\ag.je (.jv id ver i off)=true/\ag.plainCell (.jv id ver i off)=false/\ag.plain (.jv id ver i off)=false/\ag.cells (.jv id ver i off)=[(.jv id ver i off)]/\ag.iH (.jv id ver i off)=[id]/\ag.nG (.jv id ver i off)=[id]/\ag.ids (.jv id ver i off)=[id]) /\
  (∀M id ver i off,ag.oZ M (.jv id ver i off)=(.jv id ver i off)/\ag.rz M (.jv id ver i off)=(.jv id ver i off)):=by
 repeat' (first|rfl|intro _|apply And.intro)
def TG4:(∀B M f fs,ag.jy B M (.rb f fs)=(.rb f fs)/\ag.jH B M (.rb f fs)=(.rb f fs)/\ag.j4 B M (.rb f fs)=(.rb f fs)/\ag.mG B M (.rb f fs)=(.rb f fs)/\ag.jM B M (.rb f fs)=(.rb f fs)/\ag.ki B M (.rb f fs)=(.rb f fs)/\ag.kK B M (.rb f fs)=(.rb f fs)) /\
  (∀f fs,ag.shut (.rb f fs)=(.rb f fs)/\ag.fU (.rb f fs)=(.rb f fs)/\ag.jr (.rb f fs)=false/\ag.cells? (.rb f fs)=some [(.rb f fs)]/\ag.je (.rb f fs)=true/\ag.plainCell (.rb f fs)=false/\ag.plain (.rb f fs)=false/\ag.cells (.rb f fs)=[(.rb f fs)]/\ag.iH (.rb f fs)=[]/\ag.nG (.rb f fs)=[]/\ag.ids (.rb f fs)=[]) /\
  (∀M f fs,ag.oZ M (.rb f fs)=(.rb f fs)/\ag.rz M (.rb f fs)=(.rb f fs)) /\
  (∀B M t id off,ag.jy B M (.kv t id off)=(if id<B then (.kv t id off) else .any)/\ag.jH B M (.kv t id off)=(if id<B then (.kv t id off) else .any)/\ag.j4 B M (.kv t id off)=(if id<B then (.kv t id off) else .any)/\ag.mG B M (.kv t id off)=(if id<B then (.kv t id off) else .any)/\ag.jM B M (.kv t id off)=(if id<B then (.kv t id off) else .any)/\ag.ki B M (.kv t id off)=(if id<B then (.kv t id off) else .any)/\ag.kK B M (.kv t id off)=(if id<B then (.kv t id off) else .any)) /\
  (∀t id off,ag.shut (.kv t id off)=(.kv t id off)/\ag.fU (.kv t id off)=(.kv t id off)/\ag.jr (.kv t id off)=false/\ag.cells? (.kv t id off)=some [(.kv t id off)]/\ag.je (.kv t id off)=true/\ag.plainCell (.kv t id off)=false/\ag.plain (.kv t id off)=false/\ag.cells (.kv t id off)=[(.kv t id off)]/\ag.iH (.kv t id off)=[id]/\ag.nG (.kv t id off)=[id]/\ag.ids (.kv t id off)=[id]) /\
  (∀M t id off,ag.oZ M (.kv t id off)=(.kv t id off)/\ag.rz M (.kv t id off)=(.kv t id off)) /\
  (∀B M v,ag.jy B M (.nH v)=(.nH v)/\ag.jH B M (.nH v)=(.nH v)/\ag.j4 B M (.nH v)=(.nH v)/\ag.mG B M (.nH v)=(.nH v)/\ag.jM B M (.nH v)=(.nH v)/\ag.ki B M (.nH v)=(.nH v)/\ag.kK B M (.nH v)=(.nH v)) /\
  (∀v,ag.shut (.nH v)=(.nH v)/\ag.fU (.nH v)=(.nH v)/\ag.jr (.nH v)=true/\ag.plainCell (.nH v)=false/\ag.plain (.nH v)=false/\ag.cells (.nH v)=[(.nH v)]/\ag.iH (.nH v)=[]/\ag.nG (.nH v)=[]/\ag.ids (.nH v)=[]):=by
 repeat' (first|rfl|intro _|apply And.intro)
def TG5:(∀M v,ag.oZ M (.nH v)=(.nH v)/\ag.rz M (.nH v)=(.nH v)) /\
  (∀B M v,ag.jy B M (.raw v)=(.raw v)/\ag.jH B M (.raw v)=(.raw v)/\ag.j4 B M (.raw v)=(.raw v)/\ag.mG B M (.raw v)=(.raw v)/\ag.jM B M (.raw v)=(.raw v)/\ag.ki B M (.raw v)=(.raw v)/\ag.kK B M (.raw v)=(.raw v)) /\
  (∀v,ag.shut (.raw v)=(.raw v)/\ag.fU (.raw v)=(.raw v)/\ag.jr (.raw v)=false/\ag.cells (.raw v)=[(.raw v)]/\ag.iH (.raw v)=[]/\ag.nG (.raw v)=[]/\ag.ids (.raw v)=[]) /\
  (∀M v,ag.oZ M (.raw v)=(.raw v)/\ag.rz M (.raw v)=(.raw v)) /\
  (∀B M,ag.jy B M .any = .any/\ag.jH B M .any = .any/\ag.j4 B M .any = .any/\ag.mG B M .any = .any/\ag.jM B M .any = .any/\ag.ki B M .any = .any/\ag.kK B M .any = .any) /\
  (ag.shut .any = .any/\ag.fU .any = .any/\ag.jr .any=false/\ag.plainCell .any=false/\ag.plain .any=false/\ag.cells .any=[.any]/\ag.iH .any=[]/\ag.nG .any=[]/\ag.ids .any=[]) /\
  (∀M,ag.oZ M .any = .any/\ag.rz M .any = .any) /\
  (∀B M xs,ag.jy B M (gv xs)=(gv xs)/\ag.jH B M (gv xs)=(gv xs)/\ag.j4 B M (gv xs)=(gv xs)/\ag.mG B M (gv xs)=(gv xs)/\ag.jM B M (gv xs) = gv xs/\ag.ki B M (gv xs) = gv xs/\ag.kK B M (gv xs) = gv xs):=by
 repeat' (first|rfl|intro _|apply And.intro)
def TG6:(∀xs,ag.shut (gv xs) = gv xs/\ag.fU (gv xs) = gv xs/\ag.jr (gv xs)=false/\ag.cells? (gv xs)=some [(gv xs)]/\ag.je (gv xs)=true/\ag.plainCell (gv xs)=true/\ag.plain (gv xs)=true/\ag.cells (gv xs)=[(gv xs)]/\ag.iH (gv xs)=[]/\ag.nG (gv xs)=[]/\ag.ids (gv xs)=[]) /\
  (∀M xs,ag.oZ M (gv xs)=(gv xs)/\ag.rz M (gv xs)=(gv xs)) /\
  (∀B M xs,ag.jy B M (.slice .c0 xs)=(.slice .c0 xs)/\ag.jH B M (.slice .c0 xs)=(.slice .c0 xs)/\ag.j4 B M (.slice .c0 xs)=(.slice .c0 xs)/\ag.mG B M (.slice .c0 xs)=(.slice .c0 xs)/\ag.jM B M (.slice .c0 xs) = gv xs/\ag.ki B M (.slice .c0 xs) = gv xs/\ag.kK B M (.slice .c0 xs) = gv xs) /\
  (∀xs,ag.shut (.slice .c0 xs) = gv xs/\ag.fU (.slice .c0 xs) = gv xs/\ag.jr (.slice .c0 xs)=false/\ag.cells? (.slice .c0 xs)=some [(.slice .c0 xs)]/\ag.je (.slice .c0 xs)=true/\ag.plainCell (.slice .c0 xs)=false/\ag.plain (.slice .c0 xs)=false/\ag.cells (.slice .c0 xs)=[(.slice .c0 xs)]/\ag.iH (.slice .c0 xs)=[]/\ag.nG (.slice .c0 xs)=[]/\ag.ids (.slice .c0 xs)=[]) /\
  (∀M xs,ag.oZ M (.slice .c0 xs)=(.slice .c0 xs)/\ag.rz M (.slice .c0 xs)=(.slice .c0 xs)) /\
  (∀B M k xs,ag.jy B M (.slice (.own k) xs)=(if k<B then (.slice (.own k) xs) else gv xs)/\ag.jH B M (.slice (.own k) xs)=(if k<B then (.slice (.own k) xs) else gv xs)/\ag.j4 B M (.slice (.own k) xs)=(if k<B then (.slice (.own k) xs) else gv xs)/\ag.mG B M (.slice (.own k) xs)=(if k<B then (.slice (.own k) xs) else gv xs)/\ag.jM B M (.slice (.own k) xs) = gv xs/\ag.ki B M (.slice (.own k) xs) = gv xs/\ag.kK B M (.slice (.own k) xs) = gv xs) /\
  (∀k xs,ag.shut (.slice (.own k) xs) = gv xs/\ag.fU (.slice (.own k) xs) = gv xs/\ag.jr (.slice (.own k) xs)=false/\ag.cells? (.slice (.own k) xs)=some [(.slice (.own k) xs)]/\ag.je (.slice (.own k) xs)=true/\ag.plainCell (.slice (.own k) xs)=false/\ag.plain (.slice (.own k) xs)=false/\ag.cells (.slice (.own k) xs)=[(.slice (.own k) xs)]/\ag.iH (.slice (.own k) xs)=[k]/\ag.nG (.slice (.own k) xs)=[k]/\ag.ids (.slice (.own k) xs)=[k]) /\
  (∀M k xs,ag.oZ M (.slice (.own k) xs)=(.slice (.own k) xs)/\ag.rz M (.slice (.own k) xs)=(.slice (.own k) xs)):=by
 repeat' (first|rfl|intro _|apply And.intro)
def TG7:(∀B M cs,ag.jy B M (.agg cs) = .any/\ag.jH B M (.agg cs) = .any/\ag.j4 B M (.agg cs) = .agg (cs.map (ag.jH B M))/\ag.mG B M (.agg cs) = .agg (cs.map (ag.jH B M))/\ag.jM B M (.agg cs) = .any/\ag.ki B M (.agg cs) = .agg (cs.map (ag.jM B M))/\ag.kK B M (.agg cs) = .agg (cs.map (ag.jM B M))) /\
  (∀cs,ag.shut (.agg cs)=(.agg cs)/\ag.fU (.agg cs) = .agg (cs.map ag.shut)/\ag.jr (.agg cs)=false/\ag.cells? (.agg cs)=some cs/\ag.je (.agg cs)=false/\ag.plainCell (.agg cs)=false/\ag.plain (.agg cs)=cs.all ag.plainCell/\ag.cells (.agg cs)=cs/\ag.iH (.agg cs)=[]/\ag.nG (.agg cs)=[]/\ag.ids (.agg cs)=cs.flatMap ag.nG) /\
  (∀M cs,ag.oZ M (.agg cs)=(.agg cs)/\ag.rz M (.agg cs) = .agg (cs.map (ag.oZ M))) /\
  (∀B M cs,ag.jy B M (.tuple cs) = .any/\ag.jH B M (.tuple cs) = .any/\ag.j4 B M (.tuple cs) = .any/\ag.mG B M (.tuple cs) = .tuple (cs.map (ag.j4 B M))/\ag.jM B M (.tuple cs) = .any/\ag.ki B M (.tuple cs) = .any/\ag.kK B M (.tuple cs) = .tuple (cs.map (ag.ki B M))) /\
  (∀cs,ag.shut (.tuple cs)=(.tuple cs)/\ag.fU (.tuple cs)=(.tuple cs)/\ag.jr (.tuple cs)=false/\ag.plainCell (.tuple cs)=false/\ag.plain (.tuple cs)=false/\ag.cells (.tuple cs)=[(.tuple cs)]/\ag.iH (.tuple cs)=[]/\ag.nG (.tuple cs)=[]/\ag.ids (.tuple cs)=[]) /\
  (∀M cs,ag.oZ M (.tuple cs)=(.tuple cs)/\ag.rz M (.tuple cs)=(.tuple cs)):=by
 repeat' (first|rfl|intro _|apply And.intro)
def bB{C:eL}{fn:List sV}{bS:Nat}{k:List K}{t:Bool}{x y:cG}{bp:Env}{M:aC}{r:Option (ag×aC)}
  (h1:t=true->eS C fn bS k x bp M=r) (h2:t=false->eS C fn bS k y bp M=r):dZ C fn bS k (.bool t) x y bp M=r:=by
 cases t
 ·exact h2 rfl
 ·exact h1 rfl
def bW{C:eL}{fn:List sV}{bS:Nat}{k:List K}{live:List Nat}{t w:Bool}{o:dg}{l:List dg}{bp:Env}{M:aC}{r:Option (ag×aC)}
  (h1:t=w->lx C fn bS k live o.lets o.dst l bp (qv C o bp M)=r) (h2:t = !w->fI C fn bS k live l (rH bp o.dst (.tuple [])) M=r):gK C fn bS k live (.bool t) w o l bp M=r:=by
 cases t<;>cases w
 ·exact h1 rfl
 ·exact h2 rfl
 ·exact h2 rfl
 ·exact h1 rfl
def dM{C:eL}{fn:List sV}{bS:Nat}{k:List K}{live:List Nat}{c:Bool}{d:Option Nat}{l:List dg}{bp:Env}{t:Bool}{x y r:Option (ag×aC)}
  (h1:t=true->lx C fn bS k live c d l bp x=r) (h2:t=false->lx C fn bS k live c d l bp y=r):lx C fn bS k live c d l bp (Bz t x y)=r:=by
 cases t
 ·exact h2 rfl
 ·exact h1 rfl
def tG{a b:Nat}(h:a<=1000000)(hb:b<=1000):cB a b=True:=by
 have:a*b<=1000000*1000:=Nat.mul_le_mul h hb;simp only[fT,jx];unfold cB;omega
def qV{a b:Nat}(h:a<=1000000:=by omega)(hb:b<=1000:=by omega):cB a b=True:=tG h hb
def sL{p:Prop}(h:p:=by omega):p=True:=eq_true h
def Yp{p:Prop}(h:¬p:=by omega):p=False:=eq_false h
def acd(x:ag)(n:Nat):wid [x] n=(x.cells.length=n):=by simp[wid]
def aca(a b:List ag)(n:Nat):wid (a++b) n=(wid a n/\wid b n):=by
 simp only[fT];exact⟨fun h=>⟨fun x hx=>h x (fu _ hx),fun x hx=>h x (iE _ hx)⟩,fun h x hx=>(bo.1 hx).elim (h.1 x) (h.2 x)⟩
def acb(n:Nat):wid [] n=True:=by simp[wid]
def abn(m:Nat):((m:Int)<0)=False:=dw
def gx{n:Int}(h0 : -9223372036854775808<=n)(h1:n<=9223372036854775807):IntKind.i64.wrap n=n:=by rw[IntKind.wrap_i64]; omega
def CX{C:eL}{f:Nat}{vs:List ag}{r:ag}(h:C f vs []=some (r,[]))(h1:vs.all ag.flat=true)(h2:vs.flatMap ag.ids=[])(h3:r.wH=true)
  (h4:vs.map (ag.pv (iw []))=vs) (h5:r.Ax (wC [])=r) (M:aC):aR C f vs M=some (r,M):=by
 have e0:reach M []=[]:=rfl;have e1:kE M []=[]:=rfl;have e2:(vs.map (ag.pv (iw [])))=vs:=h4;unfold aR;rw[aZ h1,h2,e0];simp only[j7,bN];rw[aZ e1,e2,h];simp[h3,h5,mc]
def cO{C:eL}{f:Nat}{vs:List ag}{r:ag}(h:C f vs []=some (r,[]))(M:aC)(h1:vs.all ag.flat=true:=by exact rfl)(h2:vs.flatMap ag.ids=[]:=by exact rfl)(h3:r.wH=true:=by exact rfl)(h4:vs.map (ag.pv (iw []))=vs:=by exact rfl)(h5:r.Ax (wC [])=r:=by exact rfl):aR C f vs M=some (r,M):=CX h h1 h2 h3 h4 h5 M
def cP{C:eL}{f:Nat}{vs:List ag}{r:ag}(h:C f vs []=some (r,[]))(h1:vs.all ag.flat=true:=by exact rfl)(h2:vs.flatMap ag.ids=[]:=by exact rfl)(h3:r.wH=true:=by exact rfl)(h4:vs.map (ag.pv (iw []))=vs:=by exact rfl)(h5:r.Ax (wC [])=r:=by exact rfl)(M:aC):aR C f vs M=some (r,M):=CX h h1 h2 h3 h4 h5 M
def HP{M:aC}{p:Nat}{b:cV}(h:nth M p=some b):∀b',nth (jo M p b') p=some b':=by
 intro b';rw[fe] at h ⊢;rw[fH];exact ei (aN h)
def tx{C:eL}{f p:Nat}{vs:List ag}{r:ag}{M:aC}{cs cs':List ag}(hM:nth M p=some (.cells cs))(h:C f (.ptr 0 0::vs) [.cells cs]=some (r,[.cells cs']))(h1:vs.all ag.flat=true)(h2:vs.flatMap ag.ids=[])(h3:r.wH=true)
  (h4:vs.map (ag.pv (iw [p]))=vs) (h5:r.Ax (wC [p])=r) (h6:cs.all ag.vH=true) (h7:cs.flatMap ag.nG=[]) (h8:cs.map (ag.si (iw [p]))=cs) (h9:cs'.all ag.vH=true) (h10:cs'.map (ag.si (wC [p]))=cs') :
  aR C f (.ptr p 0::vs) M=some (r,jo M p (.cells cs')):=by
 have hids:(ag.ptr p 0::vs).flatMap ag.ids=[p]:=by simp[ag.ids,ag.nG,ag.iH,h2]
 have hi:qy M [p]=[]:=by simp[qy,hM,cV.ids,h7]
 have e0:kE M [p]=[p]:=by simp[kE,hi,ke]
 have e1:reach M [p]=[p]:=by
  have ea:ke [] [p]=[p]:=rfl;simp only[reach,ea,e0]
 have hfl:(ag.ptr p 0::vs).all ag.flat=true:=by simp only[kN,h1,gd]; rfl
 unfold aR;rw[aZ hfl,hids,e1];have hpk:j7 M (iw [p]) [p]=some [.cells cs]:=by simp[j7,hM,cV.flat,h6,cV.pv,h8]
 rw[hpk];simp only[bN];rw[aZ e0]
 have hrn:(ag.ptr p 0::vs).map (ag.pv (iw [p])) = .ptr 0 0::vs:=by
  simp only[aK,h4];simp[ag.pv,ag.si,ag.uw,iw]
 rw[hrn,h];simp only[bN];rw[aZ ⟨rfl,h3,by simp[cV.flat,h9]⟩,h5]
 simp only[mc,cV.pv,h10]
def max_lt(n:Nat)(h:n<=9223372036854775807):(IntKind.i64.max<(n:Int))=False:=by
 have:IntKind.i64.max=9223372036854775807:=rfl;simp only[fT,iff_false,this]; omega
def sj{α β:Type}(f:α->β)(l:List α):(l.map f).take l.length=l.map f:=bt dw
def EVT:=u8w @Sq @Sn @Zw @Zx @Pz @Sm @LI @Xd (u8w @Qs @Qt @WK @abp @P5 @Mb @L9 @Mc (u8w @Zv @LQ.eq_1 @Ma @Md @amJ @amG @amI @amH (u8w @amK @ZE @ZD @ahs @JH @L1 @L0 @Ht (u8w @JF @V1 @Fo @Hu @ZX @Hw @JG @V2 (u8w @Fp @Hv @Qw.eq_1 @Qv.eq_1 @ahr @aK.{0,0} @aV.{0,0} @bN (u8w @vO @qm @dj @aI @au.{0} @az.{0} @kN.{0} @List.all_nil.{0} (u8w @jS @List.take_zero.{0} @aP.{0} @List.take_succ_cons.{0} @oL.{0} @ly.{0} @List.drop_nil.{0} @nR.{0} (u8w @dz.{0} @aG.{0} @av @jw @nc @not_false_eq_true @Nat.one_ne_zero @Nat.zero_ne_one (u8w @jL @ia @ec.{0,0} @cz.{0,0} @eN @aX.{0,0} @ep.{0,0} @Mp (u8w @jA @decide_true @decide_false @BEq.rfl.{0} @lZ.{0} @cv @dH @abn (u8w @acd @acb @and_true @true_and @gd @aA.{0} @p8.{0} @gt_iff_lt.{0} (u8w @aca @lY.{0} @true_or @or_true @List.cons_prefix_cons.{0} @List.nil_prefix.{0} @List.cons_ne_nil.{0} @mZ.{0,0} (u8w @List.flatMap_nil.{0,0} @max_lt @TG0 @TG1 @TG2 @TG3 @TG4 @TG5 (bR @TG6 @TG7))))))))))))))
def EVD:=u8w @finish.eq_1 @te.eq_1 @te.eq_2 @EI.eq_1 @EI.eq_2 @EI.eq_3 @one.eq_1 @one.eq_2 (u8w @qv.eq_1 @eo.eq_1 @eo.eq_2 @eo.eq_3 @eo.eq_4 @eo.eq_5 @eo.eq_6 @eo.eq_7 (u8w @eo.eq_8 @eo.eq_9 @eo.eq_10 @eo.eq_11 @eo.eq_12 @eo.eq_13 @eo.eq_14 @eo.eq_15 (u8w @eo.eq_16 @eo.eq_17 @eo.eq_18 @eo.eq_19 @eo.eq_20 @eo.eq_21 @eo.eq_22 @eo.eq_23 (u8w @eo.eq_24 @eo.eq_25 @eo.eq_26 @eo.eq_27 @eo.eq_28 @eo.eq_29 @eo.eq_30 @eo.eq_31 (u8w @eo.eq_32 @eo.eq_33 @eo.eq_34 @eo.eq_35 @eo.eq_36 @eo.eq_37 @eo.eq_38 @eo.eq_39 (u8w @eo.eq_40 @eo.eq_41 @eo.eq_42 @eo.eq_43 @eo.eq_44 @eo.eq_45 @eo.eq_46 @eo.eq_47 (u8w @eo.eq_48 @eo.eq_49 @eo.eq_50 @eo.eq_51 @eo.eq_52 @eo.eq_53 @eo.eq_54 @eo.eq_55 (u8w @eo.eq_56 @eo.eq_57 @eo.eq_58 @ef.eq_1 @ef.eq_2 @fY.ev.eq_1 @fY.ev.eq_2 @hZ.eq_1 (u8w @hZ.eq_2 @rH.eq_1 @rH.eq_2 @jI.eq_1 @nth.eq_1 @nth.eq_2 @nth.eq_3 @jo.eq_1 (u8w @jo.eq_2 @jo.eq_3 @p7.eq_1 @p7.eq_2 @p7.eq_3 @p7.eq_4 @p7.eq_5 @p7.eq_6 (u8w @p7.eq_7 @p7.eq_8 @p7.eq_9 @p7.eq_10 @p7.eq_11 @p7.eq_12 @p7.eq_13 @p7.eq_14 (u8w @p7.eq_15 @p7.eq_16 @p7.eq_17 @p7.eq_18 @p7.eq_19 @p7.eq_20 @p7.eq_21 @p7.eq_22 (u8w @p7.eq_23 @p7.eq_24 @p7.eq_25 @mQ.eq_1 @wD.eq_1 @iB.eq_1 @cV.back.eq_1 @cV.back.eq_2 (u8w @cV.back.eq_3 @cV.back.eq_4 @cV.back.eq_5 @tc.eq_1 @tc.eq_2 @zt.eq_1 @zt.eq_2 @mo.eq_1 (u8w @mo.eq_2 @kG.eF.eq_1 @kG.eF.eq_2 @kG.eF.eq_3 @gA.eq_1 @gA.eq_2 @ob.eq_1 @og.eq_1 (bR @ox.eq_1 (bR @bytesOf.eq_1 (bR @valOf.eq_1 @valOf.eq_2))))))))))))))))))
def qC:=u8w @gd @cW @dR @cK @eu @dL @fF @c8 (bR @cv (bR @dH (bR @jS (bR @fG (bR @af @lZ.{0})))))
def EV:=And.intro @ne_eq.{1} (And.intro EVT EVD)
end Go.Abs
