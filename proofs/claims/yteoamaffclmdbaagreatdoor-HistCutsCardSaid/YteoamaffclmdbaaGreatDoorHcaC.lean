import Derived.Lib.AppendZerosOnto
import Derived.RangeFuncCalls
import Derived.OrdersIn
import Derived.LoopNIn
import Derived.Orders
import Derived.LoopN
import Derived.Laws.AppendOwn
import Derived.Laws.IdiomCopy
import Derived.Test.YteoamaffclmdbaaGreatDoorProg
import Derived.Shelf.RegionOpenPlain
import Derived.WalkKit
import Derived.Below
import Derived.Deep.LoopGhost
import Derived.Deep.RegionLaw
import Derived.Deep.AppendSrc
import Derived.Lib.Walk
import Derived.Lib.SliceRun
import Derived.Lib.AppendZeros
import Derived.Laws.NewBlocks
import Derived.Laws.Externs
import Derived.KernelRfl
import Derived.Shelf.SlSortCmp.WholeK
import Derived.Shelf.SlSortCmp.NoneTotal
import Derived.Shelf.SlicesG.Cmp
import Derived.Ground.SlsfProg
import Derived.Ground.SlgcProg
import Derived.Lib.Strings
import Derived.Lib.Slices
import Derived.Lib.Bytealg
import Derived.Shelf.Strings.Builder1
import Derived.Shelf.Strings.Builder2
import Derived.Shelf.Strings.OnBuilder
import Derived.Shelf.Small.Bits
import Derived.Shelf.Small.Strs
import Derived.Shelf.Strconv.Itoa0
import Derived.Shelf.Strings.Search1
import Derived.Test.YteoamaffclmdbaaGreatDoorHcaB
set_option linter.unusedSimpArgs false
set_option linter.unusedVariables false
set_option linter.unusedSectionVars false
set_option linter.defProp false
open Go.Proofs.Tryz
namespace Go.Abs
open Go Go.RowKit
variable [kG]
section
variable {P:Program} {C:eP} {o:Oper} {bp:Env} {M:aC} {j:J} {w:World} {a:Act} {x:ag×aC}
theorem PT{l:List ag}(hp:0<l.length)(h1:l.all ag.plainCell=true)(n:Nat):j9 (List.replicate n (ag.agg l).norm)=(List.replicate n l).flatten/\wid (List.replicate n (ag.agg l).norm) l.length:=by
 refine⟨?_,fun x hx=>by rw[mf hx,uh hp h1]⟩
 induction n with
 |zero=>rfl
 |succ n ih=>rw[jj,oQ,ih,jj,List.flatten_cons,uh hp h1]
theorem My(hr:Rel j M w){id sz ver:Nat}{xs0 xs ys:List ag}(hM:M[id]?=some (.arr sz ver xs0))(hx0:∀(q:Nat) x,xs[q]?=some x->xs0[q]?=some x)(hle0:xs.length<=xs0.length){b cap:Nat}{row:Array Value}{t:TypeId}(hj:j id=some b)(hw:w.heap[b]?=some (.cells row t (0,0)))(hcap:xs.length<=cap)(hrow:cap*sz<=row.size)
  (hwd:wid xs sz) (hwy:wid ys sz) (hne:ys≠[]) {us:List Value} (hrl:RL w (oo j M w) (j9 ys) us) {v:Value} {w':World}
  (hq:(xs.length+ys.length<=cap/\v = .slice (some ⟨b,0,none⟩) (xs.length+ys.length) cap/\w'=pr w b (xs.length*sz) us) \/
   ∃c' row' e,xs.length+ys.length<=c'/\v = .slice (some ⟨w.heap.size,0,none⟩) (xs.length+ys.length) c'/\Quiet w w'/\(∀b,b<w.heap.size->w'.heap[b]?=w.heap[b]?)/\w'.heap[w.heap.size]?=some (.cells row' e (0,0))/\c'*sz<=row'.size /\
    ∀p,p<(xs.length+ys.length)*sz->row'[p]?=(row.toList.take (xs.length*sz)++us)[p]?) :
  iR j M w (.cv id (ver+1) sz 0 (xs.length+ys.length),M.set id (.arr sz (ver+1) (xs++ys))) v w':=by
 obtain⟨b',row0,t',k1,k2,k3,k4,k5⟩:=hr.yN hM hj;rw[hj] at k1; cases k1;rw[hw] at k2; injection k2 with k2; injection k2 with k2 k2'
 subst k2; subst k2';have hrow0:=xT (b:=b) (aY (bd _ hle0) k3) hwd fun q x k c h=>k5 q x k c (hx0 q x h)
 have hid:=aN hM;have hwd2:=nB hwd hwy
 have jv:RL w (oo j M w) (j9 (xs++ys)) (row.toList.take (xs.length*sz)++us):=by
  rw[oO]; exact hrow0.append hrl
 have dJ:(xs++ys).length=xs.length+ys.length:=dy;have hpl:(row.toList.take (xs.length*sz)++us).length=(xs.length+ys.length)*sz:=by rw[<-jv.1,iM hwd2,dJ]
 have hul:us.length=ys.length*sz:=by rw[<-hrl.1,iM hwy]
 have hpos:0<ys.length:=gM.2 hne;rcases hq with ⟨h1,rfl,rfl⟩|⟨c',row',e,h1,rfl,q,hb,hn,hs,hp⟩
 ·have hfit:xs.length*sz+us.length<=row.size:=by
   rw[hul,<-bP]; exact aY (bd _ h1) hrow
  obtain⟨s1,s2,s3,s4,s5,row2,s6,s7,s8,s9⟩:=mw (t:=t) us w (xs.length*sz) row hw hfit
  have hput:=xR (ver':=ver+1) (xs':=xs++ys) hr hM hj ⟨aH,s2,s3,s4⟩ (fun b' hb' _=>s5 b' hb') hw s6 s7 aH (fun h=>aH) hwd2 jv (fun p hp=>by
   rw[hpl] at hp
   grind)
  refine⟨j,hput.1,hput.2,.cv (.inl ⟨b,0,cap,by rw[bO],aH⟩) (by simpa using hid) (fun bx hbx=>by rw[ec hid] at hbx; cases hbx; rfl) fun sz' v' zs hx=>?_⟩
  rw[ec hid] at hx; injection hx with hx; injection hx with e1 e2 e3
  subst e1; simp_all
 ·have hat  := fun p h=>hp p (by rw[<-hpl]; exact h)
  have hrel:=Rel.uW (ver':=ver+1) (xs':=xs++ys) hM hr q hb (au _) (lt_of_block hn) dy (fun j' M' hx=>mG hn hwd2 (jv.mono hx.iy) hat)
  have hext:=Ext.uW (j:=j) (ver':=ver+1) (xs':=xs++ys) hM q hb (au _) dy;refine⟨_,hrel,hext,.cv (.inl ⟨w.heap.size,0,c',by rw[bO],aH⟩) (by simpa using hid) (fun bx hbx=>by rw[ec hid] at hbx; cases hbx; rfl) fun sz' v' zs hx=>?_⟩
  rw[ec hid] at hx; injection hx with hx; injection hx with e1 e2 e3
  subst e1; subst e2; subst e3;exact⟨au _,fun _=>⟨rfl,cL _,aH,.inr ⟨w.heap.size,c',row',e,by simp[gz],dy,aH,hn,by rw[aG]; exact hs⟩⟩⟩
theorem L6(hr:Rel j M w)(he:cn j M w bp a){c:Call}{y y':Operand}{z z':fV}{t t' e:TypeId}{kn:IntKind}{i:TypeInfo}{zv:Value}{l:List ag}(hop:o.op = .call c)(hb:c.callee = .builtin .append)(ha:c.args.toList=[y,y'])
  (hat:c.argTypes.toList=[t,t']) (hs:P.underlying t=some (.slice e)) (hs':P.underlying t'=some (.int kn)) (hi:P.info? e=some i) (hzv:i.zero=some zv) (hl:tf zv.cells.toList=some l) (c1:l.length=i.size) (c2:0<i.size) (c3:0<i.bytes) (c4:i.bytes<=2 ^ 20)
  (hz:eV y=some z) (hz':eV y'=some z') (h:ef C bp M (.xQ i.size i.bytes (l.map ag.shut) z z')=some x):∃v w',rh P o a w v w'/\iR j M w x v w':=by
 simp only[ef] at h;have r1:=cN he hz;have r2:=cN he hz';have ha':c.args = #[y,y']:=by rw[<-ha]
 have hat':c.argTypes = #[t,t']:=by rw[<-hat]
 have hexec:∀r,(Builtin.append_ #[t,t'] o.type #[a.eval y,a.eval y']).run P w=r->(execOp a.eval o).run P w=r.andThen fun v w' => .ok (.value v) w':=by
  intro r hr';simp[execOp,hop,resolve,hb,invoke,builtin,ha',hat',hr']
 have hsz:(sizeOf e).run P w = .ok i.size w:=jq (by simp[qB,hi])
 obtain⟨z1,z2⟩:=qC (j:=j) (M:=M) (w:=w) hl;have hzs:zv.cells.size=i.size:=by simp at z1; omega
 have happ:∀(A:Option Addr)(n c:Nat)(kz:IntKind)(m:Nat),(Builtin.append_ #[t,t'] o.type #[.slice A n c,.int kz (m:Int)]).run P w=(Builtin.append_ #[t,t'] o.type #[.slice A n c,.int kn (m:Int)]).run P w:=fun A n c kz m=>by
  simp[Builtin.append_,dY hs,dY hs',asInt,asIntOf]
 -- what is appended
 have zrow:∀(k:Nat),(l.map ag.shut).all ag.plainCell=true->RL w (oo j M w) (j9 (List.replicate k (ag.agg (l.map ag.shut)).norm)) (Builtin.zeroCells zv.cells k).toList/\wid (List.replicate k (ag.agg (l.map ag.shut)).norm) i.size/\∀v,v∈(Builtin.zeroCells zv.cells k).toList->v.oneCell'=true:=by
  grind [C9,PT,ag.shut,List.length_map,rN,Q2,List.mem_flatten]
 -- nothing is appended
 have nil:∀(bR:Option Addr)(n cap:Nat),n<=cap->(Builtin.append_ #[t,t'] o.type #[.slice bR n cap,.int kn 0]).run P w = .ok (.slice bR n cap) w:=by
  intro bR n cap hle;have hw0:IntKind.i64.wrap 0=0:=mi;cases bR<;>simp[Builtin.append_,dY hs,dY hs',hsz,asInt,asIntOf,hw0,typeInfo,hi,hle,storeCells]
 have grow:∀(bR:Option Addr)(n cap:Nat)(olds:List Value)(k:Nat),(∀w':World,w'.heap=w.heap->(Builtin.firstCells i.size n (.slice bR n cap)).run P w' = .ok olds.toArray w')->0<k->cap<n+k->(n+k)*i.bytes<=2 ^ 44 ->
   ∃newCap row' w',n+k<=newCap/\(Builtin.append_ #[t,t'] o.type #[.slice bR n cap,.int kn k]).run P w = .ok (.slice (some ⟨w.heap.size,0,none⟩) (n+k) newCap) w'/\Quiet w w'/\(∀b,b<w.heap.size->w'.heap[b]?=w.heap[b]?)/\w'.heap[w.heap.size]?=some (.cells row' e (0,0)) /\
    row'.size=olds.length+k*i.size+(newCap-(n+k))*i.size/\∀p,p<olds.length+k*i.size->row'[p]?=(olds++(Builtin.zeroCells zv.cells k).toList)[p]?:=by
  intro bR n cap olds k hold hk cG hroom
  have hcapb:Builtin.nextslicecap (n+k) cap*i.bytes<=281474976710656:=by
   have h1:=Ee cG;have h2:Builtin.nextslicecap (n+k) cap*i.bytes<=(2*(n+k)+1000)*i.bytes:=bd _ h1
   grind
  have h44:n+k<=2 ^ 44:=aY (fK _ c3) hroom
  have hkb:k*i.bytes<=281474976710656:=by
   have:=bd i.bytes (show k<=n+k by omega)
   omega
  have hrun:=Lib.run_append_grow_zeros (P:=P) w t t' o.type e i zv kn kn hs hs' hi hzv bR n cap olds (hold w.drew rfl) k hk c2 cG aH hkb hcapb;have hge:n+k<=grownCap w (n+k) cap e:=grownCap_ge w (n+k) cap e;have hzl:∀m,(Builtin.zeroCells zv.cells m).size=m*i.size:=fun m=>by simp[Builtin.zeroCells,hzs]
  obtain⟨q,hbk,jv⟩:=o9 (w:=w) (.cells (olds.toArray++Builtin.zeroCells zv.cells k++Builtin.zeroCells zv.cells (grownCap w (n+k) cap e-(n+k))) e (0,0));refine⟨_,_,_,hge,hrun,⟨q.size,rfl,rfl,rfl⟩,hbk,jv,by simp only[fW,hzl,cU],fun p hp=>?_⟩
  rw[cj (by simp only[fW,hzl,cU]; exact hp)]
  simp[<-Array.getElem?_toList]
 have hkk:∀ {k:Int} {kz:IntKind},a.eval y' = .int kz k->0<=k->∃m:Nat,k=m:=fun {k} _ _ h=>⟨k.toNat,aH⟩
 split at h
 ·rename_i kz k ex ek;rw[ex] at r1; rw[ek] at r2;obtain⟨⟨h0,hroom,hsl,hpl⟩,h⟩:=da h;obtain⟨A,hv⟩:=r1.Dk;obtain⟨m,rfl⟩:∃m:Nat,k=m:=⟨k.toNat,aH⟩;have hk2:=r2.fT;rcases lG h with ⟨hb0,h⟩|⟨hb0,h⟩
  ·cases h;have hm0:m=0:=by simpa using hb0
   subst hm0;refine⟨a.eval y,w,.inl ?_,.still hr ?_⟩
   ·rw[hexec _ rfl,hv,hk2,happ,Int.natCast_zero,nil A 0 0 (au _)]; rfl
   ·rw[hv]; exact .c0 _
  ·cases h
   have hm0:0<m:=by
    rcases gX m with h|h
    ·subst h; simp at hb0
    ·exact h
   unfold cp at hroom;simp only[eL] at hroom ⊢;obtain⟨newCap,row',w',g1,g2,q,g3,g4,g5,g6⟩:=grow A 0 0 [] m (fun w' _=>by cases A<;>simp[Builtin.firstCells,loadCells,loadCellsFrom]) hm0 aH (by simpa using hroom)
   obtain⟨p1,p2,p3⟩:=zrow m hpl;have hob:∀b,some w.heap.size=some b->w.heap.size<=b/\b<w'.heap.size:=fun b h=>by cases h; exact⟨au _,lt_of_block g4⟩
   have ext:Ext j M w (gz j M.length (some w.heap.size)) (M++[.arr i.size 0 (List.replicate m (ag.agg (l.map ag.shut)).norm)]) w':=Ext.push (fun b h=>(hob b h).1) q g3
   have hat:∀j' M',Ext j M w j' M' w'->Fk j' M' w' w.heap.size i.size (List.replicate m (ag.agg (l.map ag.shut)).norm):=fun j' M' hx=>mG g4 p2 (p1.mono hx.iy) fun p hp=>by
    have hp':p<m*i.size:=by rw[<-p1.1,iM p2] at hp; simpa using hp
    rw[g6 p (by simpa using hp')]; simp
   refine⟨.slice (some ⟨w.heap.size,0,none⟩) m newCap,w',.inl ?_,gz j M.length (some w.heap.size),hr.push hob q g3 (fun h=>by cases h) (fun sz n b h _=>by cases h) (fun sz0 v0 xs0 he=>?_),ext,?_⟩
   ·rw[hexec _ rfl,hv,hk2,happ,g2]; simp[Result.andThen]
   ·injection he with e1 e2 e3
    subst e1; subst e2; subst e3;refine .inr ⟨w.heap.size,row',e,rfl,g4,by rw[g5]; simp,p2,fun j' M' hx q x k c hx' hk=>?_⟩
    obtain⟨vs,t,a1,a2,a3,a4⟩:=hat j' M' hx;rw[g4] at a1; injection a1 with a1; injection a1 with a1 a1'
    subst a1;exact a4 q x k c hx' hk
   ·refine .cv (.inl ⟨w.heap.size,0,newCap,by rw[bO],aH⟩) dy (fun bx hbx=>by rw[kg] at hbx; cases hbx; rfl) fun sz' v' xs hx=>?_
    rw[kg] at hx; injection hx with hx; injection hx with e1 e2 e3
    subst e1; subst e2; subst e3;refine⟨au _,fun _=>⟨rfl,cL _,dy,.inr ⟨w.heap.size,newCap,row',e,by simp[gz],dy,aH,g4,?_⟩⟩⟩
    rw[g5,aG];simp only[az,aG];rw[<-bP,dj aH];exact au _
 ·rename_i id ver sz' lo hi0 kz k ex ek;rw[ex] at r1; rw[ek] at r2;rw[fc] at h;split at h
  ·rename_i sz0 v0 xs hM;obtain⟨⟨d1,d2,d3,d4,h0,hroom,hsl,hpl,hne0⟩,h⟩:=da h;subst d1; subst d2; subst d3; subst d4;obtain⟨_,hid,_,g⟩:=r1.ni;obtain⟨e1,_,_,⟨hx,_⟩|⟨b,cap,row,t0,l3,l4,l5,l6,l7⟩⟩:=(g sz0 v0 xs hM).2 rfl
   ·exact absurd hne0 (by rw[hx]; simp)
   subst e1;rw[bO] at l4 l5;rw[jG] at l4;rw[aG] at l7;obtain⟨m,rfl⟩:∃m:Nat,k=m:=⟨k.toNat,aH⟩;have hk2:=r2.fT;rcases lG h with ⟨hb0,h⟩|⟨hb0,h⟩
   ·cases h;have hm0:m=0:=by simpa using hb0
    subst hm0;refine⟨a.eval y,w,.inl ?_,.still hr r1⟩;rw[hexec _ rfl,hk2,l4,happ,Int.natCast_zero,nil _ _ _ l5]; rfl
   ·cases h
    have hm0:0<m:=by
     rcases gX m with h|h
     ·subst h; simp at hb0
     ·exact h
    unfold cp at hroom;simp only[eL] at hroom ⊢;obtain⟨b',row0,t',k1,k2,k3,k4,k5⟩:=hr.yN hM l3;rw[l3] at k1; cases k1;rw[l6] at k2; injection k2 with k2; injection k2 with k2 k2'
    subst k2; subst k2';obtain⟨p1,p2,p3⟩:=zrow m hpl;have hlr:(List.replicate m (ag.agg (l.map ag.shut)).norm).length=m:=dy;have hne:List.replicate m (ag.agg (l.map ag.shut)).norm≠[]:=by intro h; rw[h] at hlr; simp at hlr; omega
    have key:=fun v w' hq=>My (v:=v) (w':=w') hr hM (fun _ _ h=>h) (au _) l3 l6 l5 l7 k4 p2 hne p1 hq
    rw[hlr] at key;rw[fi];rcases bz cap (xs.length+m) with cG|hge
    ·have hfc:∀w':World,w'.heap=w.heap->(Builtin.firstCells i.size xs.length (.slice (some ⟨b,0,none⟩) xs.length cap)).run P w' = .ok (row.toList.take (xs.length*i.size)).toArray w':=fun w' hw'=>by
      have:=o4 (P:=P) (w:=w') b 0 (xs.length*i.size) (fun p=>(row[p]?).getD undef) fun p hp=>by
       simp only[World.cell?,hw',l6,aG];rw[bg (show p<row.size by omega)]; rfl
      simp only[Builtin.firstCells];rw[this];congr 2;apply cA;intro p;rw[aX,fy];rcases bz p (xs.length*i.size) with h|h
      ·rw[ji h,aZ h];simp[bg (show p<row.size by omega)]
      ·rw[aR aH,fX (by simpa using h)]; rfl
     obtain⟨newCap,row',w',g1,g2,q,g3,g4,g5,g6⟩:=grow (some ⟨b,0,none⟩) xs.length cap _ m hfc hm0 cG hroom;have htk:(row.toList.take (xs.length*i.size)).length=xs.length*i.size:=gh;refine⟨_,w',.inl ?_,key _ w' (.inr ⟨newCap,row',e,g1,rfl,q,g3,g4,?_,fun p hp=>g6 p (by rw[htk,<-bP]; exact hp)⟩)⟩
     ·rw[hexec _ rfl,hk2,l4,happ,g2]; rfl
     ·rw[g5,htk,<-bP,<-bP,dj g1];exact au _
    ·have hfit:xs.length*i.size+(Builtin.zeroCells zv.cells m).toList.length<=row.size:=by
      rw[<-p1.1,iM p2,hlr,<-bP]; exact aY (bd _ hge) l7
     have hst:=nA (P:=P) (Builtin.zeroCells zv.cells m).toList w (xs.length*i.size) 0 row l6 aH p3;refine⟨_,_,.inl ?_,key _ _ (.inl ⟨hge,rfl,rfl⟩)⟩
     have hwm:IntKind.i64.wrap (m:Int)=m:=by
      have:m*i.bytes<=2 ^ 44:=aY (bd _ aH) hroom;have:m<=2 ^ 44:=aY (fK _ c3) this;rw[IntKind.wrap_i64]; omega
     have hneg:¬((m:Int)<0):=aH;have hns:¬(m*i.size=0):=Nat.mul_ne_zero aH aH
     have h48:¬(281474976710656<(m:Int)*(i.bytes:Int)):=by
      have:m*i.bytes<=2 ^ 44:=aY (bd _ aH) hroom;rw[<-Int.natCast_mul]; omega
     rw[hexec _ rfl,hk2,l4,happ];have hadd:(⟨b,0,none⟩:Addr).add (xs.length*i.size)=⟨b,xs.length*i.size,none⟩:=by simp[lQ]
     simp only[c8] at hst
     have hap:(Builtin.append_ #[t,t'] o.type #[.slice (some ⟨b,0,none⟩) xs.length cap,.int kn (m:Int)]).run P w = .ok (.slice (some ⟨b,0,none⟩) (xs.length+m) cap) (pr w b (xs.length*i.size) (Builtin.zeroCells zv.cells m).toList):=by
      simp[Builtin.append_,dY hs,dY hs',hsz,asInt,asIntOf,hwm,typeInfo,hi,hneg,h48,hns,zeroValue,hzv,hge,hadd,hst]
     rw[hap]; rfl
  ·cases h
 ·cases h
def Q9(hr:Rel j M w){id sz ver:Nat}{ys:List ag}(hM:M[id]?=some (.arr sz ver []))(hwy:wid ys sz){us:List Value}(hrl:RL w (oo j M w) (j9 ys) us){v:Value}{w':World}{c':Nat}{row':Array Value}{e:TypeId}
  (h1:ys.length<=c') (hv:v = .slice (some ⟨w.heap.size,0,none⟩) ys.length c') (q:Quiet w w') (hb:∀b,b<w.heap.size->w'.heap[b]?=w.heap[b]?) (hn:w'.heap[w.heap.size]?=some (.cells row' e (0,0))) (hs:c'*sz<=row'.size) (hp:∀p,p<us.length->row'[p]?=us[p]?) :
  iR j M w (.cv id (ver+1) sz 0 ys.length,M.set id (.arr sz (ver+1) ys)) v w':=by
 subst hv;have hid:=aN hM;have hrel:=Rel.uW (ver':=ver+1) hM hr q hb (au _) (lt_of_block hn) dy (fun j' M' hx=>mG hn hwy (hrl.mono hx.iy) hp)
 have hext:=Ext.uW (j:=j) (ver':=ver+1) (xs':=ys) hM q hb (au _) dy;refine⟨_,hrel,hext,.cv (.inl ⟨w.heap.size,0,c',by rw[bO],aH⟩) (by simpa using hid) (fun bx hbx=>by rw[ec hid] at hbx; cases hbx; rfl) fun sz' v' zs hx=>?_⟩
 rw[ec hid] at hx; injection hx with hx; injection hx with e1 e2 e3
 subst e1; subst e2; subst e3;exact⟨au _,fun _=>⟨rfl,cL _,au _,.inr ⟨w.heap.size,c',row',e,by simp[gz],dy,aH,hn,by rw[aG]; omega⟩⟩⟩
theorem Ib(hr:Rel j M w){t t' e e':TypeId}{i:TypeInfo}{zv:Value}{y y':Operand}(hexec:∀r,(Builtin.append_ #[t,t'] o.type #[a.eval y,a.eval y']).run P w=r->(execOp a.eval o).run P w=r.andThen fun v w' => .ok (.value v) w')
  (hs:P.underlying t=some (.slice e)) (hs':P.underlying t'=some (.slice e')) (hi:P.info? e=some i) (hz:i.zero=some zv) (hzs:zv.cells.size=i.size) (hb0:0<i.bytes) (hb1:i.bytes<=2 ^ 20)
  {id ver sz' lo hi0 sz0 v0:Nat} {xs ys:List ag} {B:Option Addr} {cap2:Nat} (hM:M[id]?=some (.arr sz0 v0 xs)) (d1:v0=ver) (d2:sz'=i.size) (d3:lo=0) (d4:hi0<=xs.length) (hy:ys=[]) (hv2:a.eval y' = .slice B ys.length cap2)
  (hroom:cp (hi0+ys.length) i.bytes) (r1:gj j M w (.cv id ver sz' lo hi0) (a.eval y)) (h:some (ag.cv id ver i.size lo hi0,M)=some x):∃v w',rh P o a w v w'/\iR j M w x v w':=by
 injection h with h
 subst h; subst d1; subst d2; subst d3; subst hy
 have hfc:∀w':World,w'.heap=w.heap->(Builtin.firstCells i.size 0 (a.eval y')).run P w' = .ok (#[]:Array Value) w':=fun w' _=>by
  rw[hv2]; cases B<;>simp[Builtin.firstCells,loadCells,loadCellsFrom]
 have dJ:∀w':World,(Builtin.lenOf (a.eval y')).run P w' = .ok 0 w':=fun w'=>by rw[hv2]; rfl
 refine⟨a.eval y,w,.inl ?_,.still hr r1⟩;obtain⟨_,hid,_,g⟩:=r1.ni;obtain⟨e1,_,_,⟨hx,hj0,A,hvA⟩|⟨b,cap,row,t0,l3,l4,l5,l6,l7⟩⟩:=(g sz0 v0 xs hM).2 rfl
 ·have h00:hi0=0:=by rw[hx] at d4; simpa using d4
  subst h00
  have hA0:∀w':World,w'.heap=w.heap->(Builtin.firstCells i.size 0 (.slice A 0 0)).run P w' = .ok #[] w':=fun w' _=>by
   cases A<;>simp[Builtin.firstCells,loadCells,loadCellsFrom]
  obtain⟨A1,_⟩:=qL (P:=P) (w:=w) hs hs' (fun k h=>by cases h) hi hz hb0 hb1 o.type (bR:=A) (n:=0) (cap:=0) (m:=0) dJ hA0 hfc dy
  have h3:=A1 (au _) w (by cases A<;>simp[storeCells])
  rw[<-hvA] at h3;rw[hexec _ h3,hvA]; rfl
 ·subst e1;rw[bO] at l4 l5;rw[jG] at l4;rw[aG] at l7;have hcs:hi0*i.size<=row.size:=aY (bd _ l5) l7;obtain⟨b',row0,t',k1,k2,k3,k4,k5⟩:=hr.yN hM l3;rw[l3] at k1; cases k1;rw[l6] at k2; injection k2 with k2; injection k2 with k2 k2'
  subst k2; subst k2'
  have hfx:∀w':World,w'.heap=w.heap->(Builtin.firstCells i.size hi0 (.slice (some ⟨b,0,none⟩) hi0 cap)).run P w' = .ok (row.toList.take (hi0*i.size)).toArray w':=fun w' hw'=>by
   have:=o4 (P:=P) (w:=w') b 0 (hi0*i.size) (fun p=>(row[p]?).getD undef) fun p hp=>by
    simp only[World.cell?,hw',l6,aG];rw[bg (show p<row.size by omega)]; rfl
   simp only[Builtin.firstCells];rw[this];congr 2;apply cA;intro p;rw[aX,fy]
   grind
  obtain⟨A1,_⟩:=qL (P:=P) (w:=w) hs hs' (fun k h=>by cases h) hi hz hb0 hb1 o.type (bR:=some ⟨b,0,none⟩) (n:=hi0) (cap:=cap) (m:=0) dJ hfx hfc (by simpa[cp] using hroom)
  have h3:=A1 aH w (by simp[storeCells])
  rw[<-l4] at h3;rw[hexec _ h3,l4]; rfl
theorem Gi(hr:Rel j M w)(he:cn j M w bp a){c:Call}{y y':Operand}{z z':fV}{t t' e e':TypeId}{i:TypeInfo}{zv:Value}(hop:o.op = .call c)(hb:c.callee = .builtin .append)(ha:c.args.toList=[y,y'])
  (hat:c.argTypes = #[t,t']) (hs:P.underlying t=some (.slice e)) (hs':P.underlying t'=some (.slice e')) (hi:P.info? e=some i) (hz:i.zero=some zv) (hzs:zv.cells.size=i.size) (hpos:0<i.size) (hb0:0<i.bytes) (hb1:i.bytes<=2 ^ 20)
  (hzy:eV y=some z) (hzy':eV y'=some z') (h:ef C bp M (.append i.size i.bytes z z')=some x):∃v w',rh P o a w v w'/\iR j M w x v w':=by
 by_cases hna:∀id ver sz lo hi,z.ev bp ≠ .cv id ver sz lo hi
 ·exact L5 hr he hop hb ha hat hs hs' hi hz hzs hpos hb0 hb1 hzy hzy' h hna
 ·have hna':∃id ver sz lo hi,z.ev bp = .cv id ver sz lo hi:=by
   grind
  obtain⟨id,ver,sz',lo,hi0,ez⟩:=hna';have r1:=cN he hzy;have r2:=cN he hzy';simp only[ef] at h;split at h
  ·rename_i ez' _;rw[ez] at ez'; cases ez'
  ·rename_i id' ver' szz lo' hi' tk ys ez1 ez2;rw[ez] at ez1; injection ez1 with q1 q2 q3 q4 q5
   subst q1; subst q2; subst q3; subst q4; subst q5;rw[ez] at r1; rw[ez2] at r2;rw[fc] at h;split at h
   ·rename_i sz0 v0 xs hM;obtain⟨⟨d1,d2,d3,d4,hroom,hwx,hwy⟩,h⟩:=da h;have ha':c.args = #[y,y']:=by rw[<-ha]
    have hexec:∀r,(Builtin.append_ #[t,t'] o.type #[a.eval y,a.eval y']).run P w=r->(execOp a.eval o).run P w=r.andThen fun v w' => .ok (.value v) w':=by
     intro r hr';simp[execOp,hop,resolve,hb,invoke,builtin,ha',hat,hr']
    obtain⟨B,cap2,hv2,hcap2,hsr⟩:=nU r2.ep hwy;rcases lG h with ⟨hyl,h⟩|⟨hyl,h⟩
    ·exact Ib hr hexec hs hs' hi hz hzs hb0 hb1 hM d1 d2 d3 d4 (dB (by simpa using hyl)) hv2 hroom r1 h
    have hyl:0<ys.length:=Nat.pos_of_ne_zero (by simpa using hyl)
    have hne:ys≠[]:=List.ne_nil_of_length_pos hyl;injection h with h
    subst h; subst d1; subst d2; subst d3;rw[fi];obtain⟨b2,off2,rfl,us,hrl,hul,hone,hcell⟩:=hsr.resolve_left hne
    have hfc:∀w':World,w'.heap=w.heap->(Builtin.firstCells i.size ys.length (a.eval y')).run P w' = .ok us.toArray w':=fun w' hw'=>by
     have:=o4 (P:=P) (w:=w') b2 off2 (ys.length*i.size) (fun p=>(us[p]?).getD undef) fun p hp=>by
      have h1:=(hcell p _ (ai aH)).1
      grind [World.cell?,List.getElem?_eq_getElem]
     rw[hv2];simp only[Builtin.firstCells];rw[this];congr 2;apply cA
     grind
    have dJ:∀w':World,(Builtin.lenOf (a.eval y')).run P w' = .ok ys.length w':=fun w'=>by rw[hv2]; rfl
    obtain⟨_,hid,_,g⟩:=r1.ni;obtain⟨e1,_,_,⟨hx,hj0,A,hvA⟩|⟨b,cap,row,t0,l3,l4,l5,l6,l7⟩⟩:=(g sz0 v0 xs hM).2 rfl
    ·subst hx;have h00:hi0=0:=by simpa using d4
     subst h00;subst e1
     have hA0:∀w':World,w'.heap=w.heap->(Builtin.firstCells i.size 0 (.slice A 0 0)).run P w' = .ok #[] w':=fun w' _=>by
      cases A<;>simp[Builtin.firstCells,loadCells,loadCellsFrom]
     obtain⟨_,A2⟩:=qL (P:=P) (w:=w) hs hs' (fun k h=>by cases h) hi hz hb0 hb1 o.type (bR:=A) (n:=0) (cap:=0) (m:=ys.length) dJ hA0 hfc (by simpa[cp] using hroom)
     obtain⟨newCap,rest,h1,h2,h3⟩:=A2 aH;obtain⟨q,hbk,jv⟩:=o9 (w:=w) (.cells (#[]++us.toArray++rest) e (0,0));rw[<-hvA] at h3;refine⟨_,_,.inl (by rw[hexec _ h3]; rfl),?_⟩
     have:=Q9 (c':=newCap) (e:=e) (v := .slice (some ⟨w.heap.size,0,none⟩) (0+ys.length) newCap) (w':={ w with heap:=w.heap.push (.cells (#[]++us.toArray++rest) e (0,0)),drawn:=w.drawn+1 }) hr hM hwy hrl aH (by rw[aG]) ⟨q.size,rfl,rfl,rfl⟩ hbk jv (by
      simp only[fW,cU,h2,hzs,hul,az];rw[aG,aG,<-bP];exact bd _ aH) (fun p hp=>by
      rw[cj (by simpa using hp)]; simp)
     simpa using this
    ·subst e1;rw[bO] at l4 l5;rw[jG] at l4;rw[aG] at l7;have hcs:hi0*i.size<=row.size:=aY (bd _ l5) l7;obtain⟨b',row0,t',k1,k2,k3,k4,k5⟩:=hr.yN hM l3;rw[l3] at k1; cases k1;rw[l6] at k2; injection k2 with k2; injection k2 with k2 k2'
     subst k2; subst k2';have hlx:(xs.take hi0).length=hi0:=by rw[cq]; omega
     have key:=fun v w' hq=>My (xs:=xs.take hi0) (v:=v) (w':=w') hr hM (fun q x h=>by rw[fy] at h; split at h<;>first|exact h|cases h) gh l3 l6 (by rw[hlx]; exact l5) l7 hwx hwy hne hrl hq
     rw[hlx] at key
     have hfx:∀w':World,w'.heap=w.heap->(Builtin.firstCells i.size hi0 (.slice (some ⟨b,0,none⟩) hi0 cap)).run P w' = .ok (row.toList.take (hi0*i.size)).toArray w':=fun w' hw'=>by
      have:=o4 (P:=P) (w:=w') b 0 (hi0*i.size) (fun p=>(row[p]?).getD undef) fun p hp=>by
       simp only[World.cell?,hw',l6,aG];rw[bg (show p<row.size by omega)]; rfl
      simp only[Builtin.firstCells];rw[this];congr 2;apply cA;intro p;rw[aX,fy]
      grind
     obtain⟨A1,A2⟩:=qL (P:=P) (w:=w) hs hs' (fun k h=>by cases h) hi hz hb0 hb1 o.type (bR:=some ⟨b,0,none⟩) (n:=hi0) (cap:=cap) (m:=ys.length) dJ hfx hfc (by simpa[cp] using hroom)
     rcases bz cap (hi0+ys.length) with cG|hge
     ·obtain⟨newCap,rest,h1,h2,h3⟩:=A2 cG;obtain⟨q,hbk,jv⟩:=o9 (w:=w) (.cells ((row.toList.take (hi0*i.size)).toArray++us.toArray++rest) e (0,0));have htk:(row.toList.take (hi0*i.size)).length=hi0*i.size:=gh;rw[<-l4] at h3;refine⟨_,{ w with heap:=w.heap.push (.cells ((row.toList.take (hi0*i.size)).toArray++us.toArray++rest) e (0,0)),drawn:=w.drawn+1 },.inl (by rw[hexec _ h3]; rfl),key _ _ (.inr ⟨newCap,_,e,h1,rfl,⟨q.size,rfl,rfl,rfl⟩,hbk,jv,?_,fun p hp=>?_⟩)⟩
      ·simp only[fW,cU,h2,hzs,hul,htk];rw[<-bP,<-bP];exact bd _ aH
      ·rw[cj (by simp only[fW,cU,hul,htk]; rw[<-bP]; exact hp)]
       simp[nL]
     ·have hfit:hi0*i.size+0+us.length<=row.size:=by
       rw[hul,c8,<-bP]; exact aY (bd _ hge) l7
      have hst:=nA (P:=P) us w (hi0*i.size) 0 row l6 hfit hone;simp only[c8] at hst;have hadd:(⟨b,0,none⟩:Addr).add (hi0*i.size)=⟨b,hi0*i.size,none⟩:=by simp[lQ]
      have h3:=A1 hge (pr w b (hi0*i.size) us) (by
       grind)
      rw[<-l4] at h3;exact⟨_,_,.inl (by rw[hexec _ h3]; rfl),key _ _ (.inl ⟨hge,rfl,rfl⟩)⟩
   ·cases h
  ·cases h
theorem L4(hr:Rel j M w)(he:cn j M w bp a){c:Call}{y y':Operand}{z z':fV}{t t' e e':TypeId}{i:TypeInfo}{zv:Value}(hop:o.op = .call c)(hb:c.callee = .builtin .append)(ha:c.args.toList=[y,y'])
  (hat:c.argTypes = #[t,t']) (hs:P.underlying t=some (.slice e)) (hs':P.underlying t'=some (.slice e')) (hi:P.info? e=some i) (hz:i.zero=some zv) (hzs:zv.cells.size=i.size) (hpos:0<i.size) (hb0:0<i.bytes) (hb1:i.bytes<=2 ^ 20)
  (hzy:eV y=some z) (hzy':eV y'=some z') (h:ef C bp M (.vT i.size i.bytes z z')=some x):∃v w',rh P o a w v w'/\iR j M w x v w':=by
 simp only[ef] at h;have r1:=cN he hzy;have r2:=cN he hzy';split at h
 ·rename_i tk ys ez ez';obtain⟨⟨hroom,hwy⟩,h⟩:=da h;cases h;rw[ez] at r1;rw[ez'] at r2;obtain⟨A,hv⟩:=r1.Dk;have ha':c.args = #[y,y']:=by rw[<-ha]
  have hexec:∀r,(Builtin.append_ #[t,t'] o.type #[a.eval y,a.eval y']).run P w=r->(execOp a.eval o).run P w=r.andThen fun v w' => .ok (.value v) w':=by
   simp_all [execOp,resolve,invoke,builtin]
  have hA0:∀w':World,w'.heap=w.heap->(Builtin.firstCells i.size 0 (.slice A 0 0)).run P w' = .ok #[] w':=fun w' _=>by
   cases A<;>simp[Builtin.firstCells,loadCells,loadCellsFrom]
  obtain⟨B,cap2,hv2,hcap2,hsr⟩:=nU r2.ep hwy;have dJ:∀w':World,(Builtin.lenOf (a.eval y')).run P w' = .ok ys.length w':=fun w'=>by rw[hv2]; rfl
  rcases gX ys.length with h0|h0
  ·have hnil:ys=[]:=dB h0;subst hnil
   have hfc:∀w':World,w'.heap=w.heap->(Builtin.firstCells i.size 0 (a.eval y')).run P w' = .ok (#[]:Array Value) w':=fun w' _=>by
    rw[hv2]; cases B<;>simp[Builtin.firstCells,loadCells,loadCellsFrom]
   obtain⟨A1,_⟩:=qL (P:=P) (w:=w) hs hs' (fun k h=>by cases h) hi hz hb0 hb1 o.type (bR:=A) (n:=0) (cap:=0) (m:=0) dJ hA0 hfc (by simp[])
   have h3:=A1 (au _) w (by cases A<;>simp[storeCells])
   rw[<-hv] at h3;have q:Quiet w w:=⟨au _,rfl,rfl,rfl⟩;have g1:Rel (gz j M.length none) (M++[.arr i.size 0 []]) w:=hr.push (ob:=none) (bx := .arr i.size 0 []) (fun b h=>by cases h) q (fun _ _=>rfl) (fun h=>by cases h) (fun sz n b h h'=>by cases h') (fun sz ver xs h=>by injection h with e1 e2 e3; exact .inl ⟨e3.symm,rfl⟩)
   have g2:Ext j M w (gz j M.length none) (M++[.arr i.size 0 []]) w:=Ext.push (fun b h=>by cases h) q (fun _ _=>rfl)
   refine⟨a.eval y,w,.inl (by rw[hexec _ h3]; rfl),gz j M.length none,g1,g2,?_⟩
   rw[hv];refine .cv (.inr ⟨rfl,A,rfl⟩) dy (fun bx hbx=>by rw[kg] at hbx; cases hbx; rfl) fun sz' v' zs hx=>?_
   rw[kg] at hx; injection hx with hx; injection hx with e1 e2 e3
   subst e1; subst e2; subst e3;exact⟨au _,fun _=>⟨rfl,au _,au _,.inl ⟨rfl,by simp[gz],A,rfl⟩⟩⟩
  ·have hne:ys≠[]:=List.ne_nil_of_length_pos h0;obtain⟨b2,off2,rfl,us,hrl,hul,hone,hcell⟩:=hsr.resolve_left hne
   have hfc:∀w':World,w'.heap=w.heap->(Builtin.firstCells i.size ys.length (a.eval y')).run P w' = .ok us.toArray w':=fun w' hw'=>by
    have:=o4 (P:=P) (w:=w') b2 off2 (ys.length*i.size) (fun p=>(us[p]?).getD undef) fun p hp=>by
     have h1:=(hcell p _ (ai aH)).1
     grind [World.cell?,List.getElem?_eq_getElem]
    rw[hv2];simp only[Builtin.firstCells];rw[this];congr 2;apply cA
    grind
   obtain⟨_,A2⟩:=qL (P:=P) (w:=w) hs hs' (fun k h=>by cases h) hi hz hb0 hb1 o.type (bR:=A) (n:=0) (cap:=0) (m:=ys.length) dJ hA0 hfc (by simpa[cp] using hroom)
   obtain⟨newCap,rest,h1,h2,h3⟩:=A2 aH;obtain⟨q,hbk,jv⟩:=o9 (w:=w) (.cells (#[]++us.toArray++rest) e (0,0));rw[<-hv] at h3;have q':Quiet w { w with heap:=w.heap.push (.cells (#[]++us.toArray++rest) e (0,0)),drawn:=w.drawn+1 }:=⟨q.size,rfl,rfl,rfl⟩
   have hob:∀b,some w.heap.size=some b->w.heap.size<=b/\b<({ w with heap:=w.heap.push (.cells (#[]++us.toArray++rest) e (0,0)),drawn:=w.drawn+1 }:World).heap.size:=fun b h=>by cases h; exact⟨au _,lt_of_block jv⟩
   have hpf:∀p,p<us.length->(#[]++us.toArray++rest)[p]?=us[p]?:=fun p hp=>by
    rw[cj (by simpa using hp)]; simp
   have hat:∀j' M',Ext j M w j' M' { w with heap:=w.heap.push (.cells (#[]++us.toArray++rest) e (0,0)),drawn:=w.drawn+1 }->Fk j' M' { w with heap:=w.heap.push (.cells (#[]++us.toArray++rest) e (0,0)),drawn:=w.drawn+1 } w.heap.size i.size ys:=fun j' M' hx=>mG jv hwy (hrl.mono hx.iy) hpf
   have hsz:newCap*i.size<=(#[]++us.toArray++rest).size:=by
    simp only[fW,cU,h2,hzs,hul,az];rw[aG,aG,<-bP];exact bd _ aH
   refine⟨_,_,.inl (by rw[hexec _ h3]; rfl),gz j M.length (some w.heap.size),hr.push hob q' hbk (fun h=>by cases h) (fun sz n b h _=>by cases h) (fun sz0 v0 xs0 he=>?_),Ext.push (fun b h=>(hob b h).1) q' hbk,?_⟩
   ·injection he with e1 e2 e3
    subst e1; subst e2; subst e3;refine .inr ⟨w.heap.size,_,e,rfl,jv,?_,hwy,fun j' M' hx q x k c hx' hk=>?_⟩
    ·exact aY (bd _ aH) hsz
    ·obtain⟨vs,t,a1,a2,a3,a4⟩:=hat j' M' hx;rw[jv] at a1; injection a1 with a1; injection a1 with a1 a1'
     subst a1;exact a4 q x k c hx' hk
   ·rw[aG];refine .cv (.inl ⟨w.heap.size,0,newCap,by rw[bO],aH⟩) dy (fun bx hbx=>by rw[kg] at hbx; cases hbx; rfl) fun sz' v' xs hx=>?_
    rw[kg] at hx; injection hx with hx; injection hx with e1 e2 e3
    subst e1; subst e2; subst e3;exact⟨au _,fun _=>⟨rfl,cL _,au _,.inr ⟨w.heap.size,newCap,_,e,by simp[gz],dy,aH,jv,by rw[aG]; exact hsz⟩⟩⟩
 ·cases h
def Wo(hr:Rel j M w)(he:cn j M w bp a){c:Call}{y y':Operand}{z z':fV}{t t' e e':TypeId}{n:Nat}(hop:o.op = .call c)(hb:c.callee = .builtin .copy)(ha:c.args.toList=[y,y'])
  (hat:c.argTypes.toList=[t,t']) (hs:P.underlying t=some (.slice e)) (hs':P.underlying t'=some (.slice e')) (hn:qB P e=some n) (hpos:0<n)
  (hz:eV y=some z) (hz':eV y'=some z') (h:ef C bp M (.FC n z z')=some x):∃v w',rh P o a w v w'/\iR j M w x v w':=by
 simp only[ef] at h;have r1:=cN he hz;have r2:=cN he hz';have ha':c.args = #[y,y']:=by rw[<-ha]
 have hat':c.argTypes = #[t,t']:=by rw[<-hat]
 have hexec:∀r,(Builtin.copy_ #[t,t'] o.type #[a.eval y,a.eval y']).run P w=r->(execOp a.eval o).run P w=r.andThen fun v w' => .ok (.value v) w':=by
  intro r hr';simp[execOp,hop,resolve,hb,invoke,builtin,ha',hat',hr']
 have hsz:(sizeOf e).run P w = .ok n w:=jq hn;split at h
 ·rename_i tk ys ex ey;rw[ex] at r1; rw[ey] at r2;obtain⟨hwy,h⟩:=da h;cases h;obtain⟨B,cap2,hv2,_,_⟩:=nU r2.ep hwy;obtain⟨A,cap,hv,_,_⟩:=nU (size:=n) r1.ep (fun y hy=>by cases hy)
  refine⟨.int .i64 0,w,.inl ?_,.still hr (.plain (.int _ _))⟩;rw[hexec _ rfl,hv,hv2];cases A<;>cases B<;>simp[Builtin.copy_,dY hs,hsz,Builtin.lenOf,Builtin.firstCells,loadCells,loadCellsFrom,storeCells,goInt,Result.andThen]
 ·rename_i id ver sz' lo hi0 tk ys ex ey;rw[ex] at r1; rw[ey] at r2;rw[fc] at h;split at h
  ·rename_i sz0 v0 xs hM;obtain⟨⟨d1,d2,hwy,hne0⟩,h9⟩:=da h;injection h9 with h9
   subst h9; subst d1; subst d2;obtain⟨_,hid,_,g⟩:=r1.ni;obtain⟨e1,l1,l2,⟨hx,_⟩|⟨b,cap,row,t0,l3,l4,l5,l6,l7⟩⟩:=(g sz0 v0 xs hM).2 rfl
   ·exact absurd hne0 (by rw[hx]; simp)
   subst e1;obtain⟨b',row0,t',k1,k2,k3,k4,k5⟩:=hr.yN hM l3;rw[l3] at k1; cases k1;rw[l6] at k2; injection k2 with k2; injection k2 with k2 k2'
   subst k2; subst k2';obtain⟨B,cap2,hv2,hcap2,hsr⟩:=nU r2.ep hwy;generalize hm:min ys.length (hi0-lo)=m;have hm1:m<=ys.length:=aH;have hm2:m<=hi0-lo:=aH
   -- what is copied
   obtain⟨us,hul,hrl,hone,hfc⟩:∃us:List Value,us.length=m*sz0/\RL w (oo j M w) (j9 (ys.take m)) us/\(∀u,u∈us->u.oneCell'=true)/\(Builtin.firstCells sz0 m (.slice B ys.length cap2)).run P w = .ok us.toArray w:=by
    rcases hsr with rfl|⟨b2,off2,rfl,us,hrl,hul,hone,hcell⟩
    ·have:m=0:=by simpa using hm1
     subst this;refine⟨[],dy,⟨rfl,fun p c v h=>by simp[j9] at h⟩,fun u hu=>by (cases hu),?_⟩
     cases B<;>simp[Builtin.firstCells,loadCells,loadCellsFrom]
    ·have hle:m*sz0<=us.length:=by rw[hul]; exact bd _ hm1
     refine⟨us.take (m*sz0),gh,by rw[r9 m hwy]; exact hrl.take _,fun u hu=>hone u (dK hu),?_⟩
     have:=o4 (P:=P) (w:=w) b2 off2 (m*sz0) (fun p=>(us[p]?).getD undef) fun p hp=>by
      rw[(hcell p _ (ai aH)).1,ai (show p<us.length by omega)]; rfl
     simp only[Builtin.firstCells];rw[this];congr 2;apply cA;intro p;rw[aX,fy];rcases bz p (m*sz0) with h|h
     ·rw[ji h,aZ h];simp[ai (show p<us.length by omega)]
     ·rw[aR aH,fX (by simpa using h)]; rfl
   have hrow:=xT (b:=b) k3 k4 k5;have hbd:lo*sz0+m*sz0<=xs.length*sz0:=by rw[<-bP]; exact bd _ aH
   have hfit:lo*sz0+us.length<=row.size:=by rw[hul]; omega
   have hst:=nA (P:=P) us w (lo*sz0) 0 row l6 aH hone;obtain⟨s1,s2,s3,s4,s5,row2,s6,s7,s8,s9⟩:=mw (t:=t0) us w (lo*sz0) row l6 hfit;have hwd':wid (xs.take lo++(ys.take m++xs.drop (lo+m))) sz0:=nB (vP k4) (nB (vP hwy) (vO k4))
   have jv:RL w (oo j M w) (j9 (xs.take lo++(ys.take m++xs.drop (lo+m)))) ((row.toList.take (xs.length*sz0)).take (lo*sz0)++(us++(row.toList.take (xs.length*sz0)).drop ((lo+m)*sz0))):=by
    rw[oO,oO,r9 lo k4,tY (lo+m) k4];exact(hrow.take _).append (hrl.append (hrow.drop _))
   have hll:(xs.take lo++(ys.take m++xs.drop (lo+m))).length=xs.length:=gh;have hmm:(lo+m)*sz0=lo*sz0+m*sz0:=bP ..
   have hput:=xR (ver':=v0) (xs':=xs.take lo++(ys.take m++xs.drop (lo+m))) hr hM l3 (w':=pr w b (lo*sz0) us) ⟨aH,s2,s3,s4⟩ (fun b' hb' _=>s5 b' hb') l6 s6 s7 (au _) (fun _=>hll) hwd' jv (fun p hp=>by
    have hp':p<xs.length*sz0:=by
     rw[<-jv.1,iM hwd',hll] at hp; exact hp
    have htk:(List.take (lo*sz0) (row.toList.take (xs.length*sz0))).length=lo*sz0:=gh;rcases bz p (lo*sz0) with q1|q1
    ·rw[s8 p (.inl q1),aO (by rw[htk]; exact q1),bH q1,bH hp']; simp
    ·rw[bj (by rw[htk]; exact q1),htk]
     rcases bz p (lo*sz0+m*sz0) with q2|q2
     ·rw[aO (by rw[hul]; omega)]
      have:=s9 (p-lo*sz0) (by rw[hul]; omega)
      rw[dj q1] at this;exact this
     ·rw[bj (by rw[hul]; omega),s8 p (.inr (by rw[hul]; omega)),cH,hul,hmm,show lo*sz0+m*sz0+(p-lo*sz0-m*sz0)=p by omega,bH hp']; simp)
   rw[fi];refine⟨.int .i64 (m:Int),pr w b (lo*sz0) us,.inl ?_,j,hput.1,hput.2,.plain (.int _ _)⟩;rw[hexec _ rfl,l4,hv2];have hmin:Nat.min ys.length (hi0-lo)=m:=hm;simp only[c8] at hst;simp[Builtin.copy_,dY hs,hsz,Builtin.lenOf,hmin,hfc,hst,goInt,Result.andThen]
  ·cases h
 ·cases h
def aaR(hr:Rel j M w){t:TypeId}{i:TypeInfo}{zv:Value}{n:Nat}(hop:o.op = .alloc t)(hi:P.info? t=some i)(hzv:i.zero=some zv)(hl:tf zv.cells.toList=some [.slice .c0 []])
  (h:ef C bp M (.OL n)=some x):∃v w',rh P o a w v w'/\iR j M w x v w':=by
 simp only[ef] at h;cases h;have q:Quiet w w:=⟨au _,rfl,rfl,rfl⟩;have h1:Rel (gz j M.length none) (M++[.arr n 0 []]) w:=hr.push (ob:=none) (bx := .arr n 0 []) (fun b h=>by cases h) q (fun _ _=>rfl) (fun h=>by cases h) (fun sz n b h h'=>by cases h') (fun sz ver xs h=>by injection h with e1 e2 e3; exact .inl ⟨e3.symm,rfl⟩)
 have h2:Ext j M w (gz j M.length none) (M++[.arr n 0 []]) w:=Ext.push (fun b h=>by cases h) q (fun _ _=>rfl)
 obtain⟨k1,k2⟩:=qC (j:=gz j M.length none) (M:=M++[.arr n 0 []]) (w:=w) hl;have hs1:zv.cells.size=1:=by simpa using k1.symm
 have hv0:∃A,zv.cells[0]?=some (.slice A 0 0):=by
  have hv:=bg (show 0<zv.cells.size by omega)
  obtain⟨A,hA⟩:=(k2 0 _ (zv.cells[0]'(by omega)) rfl dy).Dk
  exact⟨A,by rw[hv,hA]⟩
 obtain⟨A,hA⟩:=hv0
 have hrc:RC (gz j M.length none) (M++[.arr n 0 []]) w [.cv M.length 0 n 0 0] zv.cells:=by
  refine⟨by simp[hs1],fun p c v hc hv=>?_⟩
  cases p with
  |zero =>
   simp at hc; subst hc;rw[hA] at hv; cases hv;refine .cv (.inr ⟨rfl,A,rfl⟩) dy (fun bx hbx=>by rw[kg] at hbx; cases hbx; rfl) fun sz' v' zs hx=>?_
   rw[kg] at hx; injection hx with hx; injection hx with e1 e2 e3
   subst e1; subst e2; subst e3;exact⟨au _,fun _=>⟨rfl,au _,au _,.inl ⟨rfl,by simp[gz],A,rfl⟩⟩⟩
  |succ p=>simp at hc
 obtain⟨j',g1,g2,g3⟩:=Hu h1 hrc t;refine⟨_,_,.inl (show(execOp a.eval o).run P w = .ok (.value (.pointer (some ⟨w.heap.size,0,none⟩))) { w with heap:=w.heap.push (.cells zv.cells t (0,0)) } by simp[execOp,hop,Instr.alloc,zeroValue,pU hi,hzv,newVar,newRow]),j',?_,?_,?_⟩
 ·simpa using g1
 ·simpa using h2.trans g2
 ·simpa using g3
end
section
variable {P:Program} {C:eP} {own:List Nat} {o:Oper} {ao:kD} {bp:Env} {M:aC} {j:J} {w:World} {a:Act} {x:ag×aC}
def tM(P:Program)(o:Oper)(a:Act)(w:World)(K:Act->World->Prop)(KP:Value->World->Prop):Prop :=
 (∃v w',rh P o a w v w'/\K (a.put o.dst v) w')\/(∃f us,(execOp a.eval o).run P w = .ok (.enter f us) w/\Calls P f us w fun e w'=>(∃v,e = .returned v/\K (a.put o.dst v) w')\/∃u,e = .panicked [{ v:=u,recovered:=false }]/\KP u w') \/
  ∃u,(execOp a.eval o).run P w = .halt (.panic u) w/\KP u w
def eu{K:Act->World->Prop}{KP:Value->World->Prop}(h:∃v w',rh P o a w v w'/\iR j M w x v w')(hK:∀v w',iR j M w x v w'->K (a.put o.dst v) w'):tM P o a w K KP:=by
 obtain⟨v,w',h1,h2⟩:=h;exact .inl ⟨v,w',h1,hK v _ h2⟩
def wq{K:Act->World->Prop}{KP:Value->World->Prop}{f:Nat}{us:Array Value}(hrun:(execOp a.eval o).run P w = .ok (.enter f us) w)
  (h:Calls P f us w fun e w'=>vS j M w x e w') (hK:∀v w',iR j M w x v w'->K (a.put o.dst v) w') (hP:∀u w',HZ j M w x u w'->KP u w'):tM P o a w K KP :=
 .inr (.inl ⟨f,us,hrun,h.mono fun e w' he=>he.imp (fun⟨v,he,hv⟩=>⟨v,he,hK v _ hv⟩) fun⟨u,he,hu⟩=>⟨u,he,hP u _ hu⟩⟩)
def Wd(r:Option Nat):Fence:={ Fence.wide with round:=r }
def KR{r:Option Nat}{n f:Nat}{args:Array Value}{R:Ending->World->Prop}(h:Calls P f args w R):CallsIn (Wd r) n P f args w R:=by
 cases r with
 |none=>exact callsIn_wide.2 h
 |some l=>exact CallsIn.inRound l (callsIn_wide.2 h)
theorem tM.wpIn{K:Act->World->Prop}{KP:Value->World->Prop}{Q:Exit->Act->World->Prop}{r:Option Nat}{n:Nat}(hd:∀c,o.op ≠ .defer c)(h:tM P o a w K KP)
  (hQ:∀u w',KP u w'->Q (.panic [{ v:=u,recovered:=false }]) a w'):o.wpIn (Wd r) n P a w K Q:=by
 refine⟨fun _ _=>trivial,?_⟩
 rw[Oper.semAt_eq _ _ _ hd];rcases h with ⟨v,w',h1|⟨h1,rfl⟩,h2⟩|⟨f,us,h1,h2⟩|⟨u,h1,h2⟩
 ·rw[h1]; exact h2
 ·rw[h1]; exact h2
 ·rw[h1];refine⟨fun h=>(by cases h),KR (h2.mono ?_)⟩
  grind
 ·rw[h1]; exact hQ u w h2
def Aa(ho:OO P own o=some ao):∀c,o.op ≠ .defer c:=by
 intro c h;simp_all [OO]
def qU{f:Nat}(h:lF P f=true)(us:Array Value):(callFunc f us).run P w = .ok (.enter f us) w:=by
 unfold lF at h;split at h
 ·rename_i fn hfn;have h1:fn.name ≠ "runtime.NumGoroutine" := jK;have h2:¬fn.body=none:=jK;simp[callFunc,hfn,h1,h2]
 ·cases h
theorem gj.shut{c:ag}{v:Value}(h:gj j M w c v):gj j M w c.shut v:=by
 cases c<;>first|exact h|exact .plain h.ep
def gj.fR{c:ag}{v:Value}(h:gj j M w c v):gj j M w c.fR v:=by
 cases c<;>first|exact h|exact .plain h.ep|skip
 obtain⟨vs,rfl,hl,hc⟩:=h.mZ;refine .agg jK fun i c u hi hu=>?_
 rw[aX,aV] at hi;obtain⟨c0,hc0,rfl⟩:=hi;exact(hc i _ u hc0 hu).shut
theorem OQ{c:Call}{f0 f:Nat}{l:List fV}(hop:o.op = .call c)(hcal:c.callee = .value (.func f0))(h:OO P own o=some (.wy f l)):f0=f/\lF P f=true/\vo c.args.toList=some l:=by
 simp only[OO,hop,Ri,hcal] at h;split at h
 ·obtain⟨l',hl,h⟩:=bf h
  grind
 grind
theorem yR(hC:nJ P C){c:Call}{f0 f:Nat}{l:List fV}(hop:o.op = .call c)(hcal:c.callee = .value (.func f0))(ho:OO P own o=some (.wy f l)){M0:aC}(h:ef C bp M0 (.wy f l)=some x) :
  ∃xs sz n,x=(.slice (.own M0.length) xs,M0++[.tick sz n])/\∀ {j:J} {G:aC} {w:World} {a:Act} {p:Nat} {K:Act->World->Prop} {KP:Value->World->Prop},Rel j G w->sO j G w->cn j G w bp a->G[p]?=some .vQ ->
   (∀v w',iR j G w (.slice (.own p) xs,G.set p (.tick sz n)) v w'->K (a.put o.dst v) w')->tM P o a w K KP:=by
 obtain⟨rfl,hent,hl⟩:=OQ hop hcal ho;simp only[ef] at h;unfold Bx at h;split at h
 ·rename_i hc;obtain⟨hc1,hc2⟩:=hc;obtain⟨y,hy,h⟩:=bo h;split at h
  ·rename_i x1 x2 xs sz n e1 e2;cases h;refine⟨xs,sz,n,rfl,fun {j G w a p K KP} hr hG he hp hK=>?_⟩
   obtain⟨l1,l2⟩:=uj he hl
   have hy':C f0 (l.map fun x=>(x.ev bp).fR) []=some (.slice (.own 0) xs,[.tick sz n]):=by
    rw[hy,<-e1,<-e2]
   obtain⟨_,hcl⟩:=Qg (us:=c.args.map a.eval) hC hr hG hp hc1 hc2 hy' jK fun i c' u hc' hu=>by
    rw[aX,aV] at hc';obtain⟨y,hy,rfl⟩:=hc';rw[iI,aV] at hu;obtain⟨q,hq,rfl⟩:=hu;exact(l2 i y q hy (by simpa using hq)).fR
   exact .inr (.inl ⟨f0,_,by simp[execOp,hop,resolve,hcal,Act.eval,Deferred.ofValue,invoke,qU hent],hcl.mono fun e w' ⟨v,he,hv⟩ => .inl ⟨v,he,hK v w' hv⟩⟩)
  grind
 grind
theorem Ei(hC:nJ P C)(ho:OO P own o=some ao)(h:ef C bp M ao=some x)(hr:Rel j M w)(hG:sO j M w)(he:cn j M w bp a){K:Act->World->Prop}
  (hK:∀v w',iR j M w x v w'->K (a.put o.dst v) w') {KP:Value->World->Prop} (hP:∀u w',HZ j M w x u w'->KP u w'):tM P o a w K KP:=by
 have ho0:=ho;unfold OO at ho;split at ho
 case h_1 y hop =>
  obtain⟨z,hz,ho⟩:=bf ho;cases ho;exact eu (Ad hr he (.inl hop) hz h) hK
 case h_2 y hop =>
  obtain⟨z,hz,ho⟩:=bf ho;split at ho
  ·split at ho
   ·split at ho
    ·obtain⟨n,hn,ho⟩:=bf ho;split at ho
     ·cases ho;exact eu (WB hr he hop hz h) hK
     ·cases ho;exact eu (Ad hr he (.inr hop) hz h) hK
    ·cases ho
   ·split at ho
    ·split at ho
     ·obtain⟨n,hn,ho⟩:=bf ho;cases ho;exact eu (WB hr he hop hz h) hK
     ·cases ho
    ·cases ho;exact eu (Ad hr he (.inr hop) hz h) hK
  ·cases ho;exact eu (Ad hr he (.inr hop) hz h) hK
 case h_3 c p q hop =>
  obtain⟨c',hc,ho⟩:=bf ho;obtain⟨p',hp,ho⟩:=bf ho;obtain⟨q',hq,ho⟩:=bf ho;cases ho;exact eu (aa0 hr he hop hc hp hq h) hK
 case h_4 t hop =>
  obtain⟨i,hi,ho⟩:=bf ho;obtain⟨z,hz,ho⟩:=bf ho;obtain⟨l,hl,ho⟩:=bf ho;split at ho
  ·split at ho
   ·split at ho
    ·obtain⟨n,hn,ho⟩:=bf ho;cases ho;exact eu (aaR hr hop hi hz hl h) hK
    ·cases ho
   ·cases ho;exact eu (NH hr hop hi hz hl h) hK
  ·cases ho;exact eu (NH hr hop hi hz hl h) hK
 case h_5 t y hop =>
  obtain⟨z,hz,ho⟩:=bf ho;cases ho;exact eu (ahs hr he hop hz h) hK
 case h_6 t parts hop =>
  split at ho
  ·rename_i fs hfs;obtain⟨i,hi,ho⟩:=bf ho;obtain⟨z,hz,ho⟩:=bf ho;obtain⟨l,hl,ho⟩:=bf ho;obtain⟨ps,hps,ho⟩:=bf ho;split at ho
   ·rename_i hall;cases ho;exact eu (Wn hr he hop hfs hi hz hl hps hall h) hK
   ·cases ho
  ·rename_i len e ht;obtain⟨i,hi,ho⟩:=bf ho;obtain⟨z,hz,ho⟩:=bf ho;obtain⟨l,hl,ho⟩:=bf ho;obtain⟨n,hn,ho⟩:=bf ho;obtain⟨ps,hps,ho⟩:=bf ho;cases ho;exact eu (PV hr he hop ht hi hz hl hn hps h) hK
  ·cases ho
 case h_7 t len parts hop =>
  split at ho
  ·rename_i e ht;obtain⟨i,hi,ho⟩:=bf ho;obtain⟨l,hl,ho⟩:=bf ho;split at ho
   ·rename_i hc;cases ho;split at h
    ·split at h
     ·exact eu (Wv hr he hop ht hi hl hc.1 hc.2.1 hc.2.2.1 h) hK
     ·split at h
      ·rename_i he0;simp only[bw,List.isEmpty_iff] at he0;have he1:=he0.2;subst he1;exact eu (aaZ hr he hop ht hi hl hc.1 hc.2.1 hc.2.2.1 h) hK
      ·exact eu (NI hr he hop ht hi hl hc.1 hc.2.1 hc.2.2.1 h) hK
    ·exact eu (NI hr he hop ht hi hl hc.1 hc.2.1 hc.2.2.1 h) hK
   ·cases ho
  ·cases ho
 case h_8 t y hop =>
  obtain⟨g,hg,ho⟩:=bf ho;obtain⟨n,hn,ho⟩:=bf ho;obtain⟨z,hz,ho⟩:=bf ho;cases ho;cases g
  ·exact eu (Ww hr he hop hg hz h) hK
  ·exact eu (Wx hr he hop hg hn hz h) hK
 case h_9 t y y' hop =>
  obtain⟨n,hn,ho⟩:=bf ho;obtain⟨z,hz,ho⟩:=bf ho;obtain⟨z',hz',ho⟩:=bf ho;cases ho;cases z with
  |tmp s =>
   dsimp only at h;split at h
   ·exact eu (P2 hr he hop hn hz hz' h) hK
   ·exact eu (Ej hr he hop hn hz hz' h) hK
  |_=>exact eu (Ej hr he hop hn hz hz' h) hK
 case h_10 y hop =>
  obtain⟨z,hz,ho⟩:=bf ho;cases ho;exact eu (aht hr he hop hz h) hK
 case h_11 op t y y' t' hop =>
  obtain⟨z,hz,ho⟩:=bf ho;obtain⟨z',hz',ho⟩:=bf ho;split at ho
  ·obtain⟨b,hb,ho⟩:=bf ho;cases ho;exact eu (Wl hr he hop hb hz hz' h) hK
  ·obtain⟨b,hb,ho⟩:=bf ho;cases ho;exact eu (Wl hr he hop hb hz hz' h) hK
  ·rename_i ht;split at ho
   ·cases ho;exact eu (Wr (neg:=false) hr he hop ht hz hz' h) hK
   ·cases ho;exact eu (Wr (neg:=true) hr he hop ht hz hz' h) hK
   ·cases ho
  ·rename_i fs ht;split at ho
   ·cases ho
   ·rename_i hst;obtain⟨ks,hks,ho⟩:=bf ho;have hst':P.stoodInHeld t=false:=by simpa using hst
    split at ho
    ·cases ho;exact eu (Wp (neg:=false) hr he hop ht hst' hks hz hz' h) hK
    ·cases ho;exact eu (Wp (neg:=true) hr he hop ht hst' hks hz hz' h) hK
    ·cases ho
  ·rename_i len e ht;split at ho
   ·split at ho
    ·rename_i hs;cases ho;exact eu (Wq hr he hop ht (by assumption) hs hz hz' h) hK
    ·cases ho
   ·cases ho
  ·cases ho
 case h_12 t y hop =>
  obtain⟨z,hz,ho⟩:=bf ho;cases ho;exact eu (ahv hr he hop hz h) hK
 case h_13 t y hop =>
  obtain⟨z,hz,ho⟩:=bf ho;cases ho;exact eu (ahu hr he hop hz h) hK
 case h_14 s d y hop =>
  obtain⟨z,hz,ho⟩:=bf ho;split at ho
  ·rename_i hs hd;cases ho;exact eu (aaS hr he hop hs hd hz h) hK
  ·rename_i hs hd;cases ho;exact eu (aa2 hr he hop hs hd hz h) hK
  ·rename_i e hs hd;split at ho
   ·rename_i hu;cases ho;exact eu (ahr hr he hop hs hd hu hz h) hK
   ·cases ho
  ·cases ho
 case h_15 f first caps hop =>
  split at ho
  ·rename_i hf;obtain⟨l,hl,ho⟩:=bf ho;cases ho;exact eu (anC hr he hop hf hl h) hK
  ·split at ho
   ·rename_i hf;obtain⟨l,hl,ho⟩:=bf ho;cases ho;exact eu (Wm hr he hop hf hl h) hK
   ·cases ho
 case h_16 t y lo hi mx hop =>
  obtain⟨z,hz,ho⟩:=bf ho;obtain⟨lo',hlo,ho⟩:=bf ho;obtain⟨hi',hhi,ho⟩:=bf ho;obtain⟨mx',hmx,ho⟩:=bf ho;split at ho
  ·rename_i ht;split at ho
   ·rename_i hm;cases ho
    have:mx=none:=by
     grind [qE]
    subst this;exact eu (P1 hr he hop ht hz hlo hhi h) hK
   ·cases ho
  ·rename_i e ht;obtain⟨n,hn,ho⟩:=bf ho;split at ho
   ·rename_i hc;cases ho;unfold Rk at h;split at h
    ·split at h
     ·rename_i hm;cases lo'<;>simp at hm
      cases mx'<;>simp at hm
      exact eu (aaT hr he hop ht hn hz hlo hhi hmx h) hK
     ·exact eu (Gk hr he hop ht hn hz hlo hhi hmx hc.2 h) hK
    ·exact eu (Gk hr he hop ht hn hz hlo hhi hmx hc.2 h) hK
   ·cases ho
  ·cases ho
 case h_17 s y i hop =>
  split at ho
  ·rename_i fs hs;obtain⟨f,hf,ho⟩:=bf ho;obtain⟨n,hn,ho⟩:=bf ho;obtain⟨z,hz,ho⟩:=bf ho;split at ho
   ·rename_i hpos;cases ho;exact eu (Ws hr he hop hs hf hn hpos hz h) hK
   ·cases ho
  ·cases ho
 case h_18 s y i hop =>
  split at ho
  ·rename_i fs hs;obtain⟨f,hf,ho⟩:=bf ho;obtain⟨g,hg,ho⟩:=bf ho;obtain⟨n,hn,ho⟩:=bf ho;obtain⟨z,hz,ho⟩:=bf ho;cases ho;cases g
   ·exact eu (PX hr he hop hs hf hg hz h) hK
   ·exact eu (PY hr he hop hs hf hg hn hz h) hK
  ·cases ho
 case h_19 t y i hop =>
  split at ho
  ·rename_i e ht;obtain⟨n,hn,ho⟩:=bf ho;obtain⟨z,hz,ho⟩:=bf ho;obtain⟨z',hz',ho⟩:=bf ho;split at ho
   ·cases ho;exact eu (Wt hr he hop ht hn hz hz' h) hK
   ·cases ho
  ·rename_i len e ht;obtain⟨n,hn,ho⟩:=bf ho;obtain⟨z,hz,ho⟩:=bf ho;obtain⟨z',hz',ho⟩:=bf ho;split at ho
   ·cases ho;exact eu (PZ hr he hop ht hn hz hz' h) hK
   ·cases ho
  ·cases ho
 case h_20 t y i hop =>
  split at ho
  ·rename_i ht;obtain⟨z,hz,ho⟩:=bf ho;obtain⟨z',hz',ho⟩:=bf ho;cases ho;exact eu (P0 hr he hop ht hz hz' h) hK
  ·cases ho
 case h_21 y i hop =>
  obtain⟨z,hz,ho⟩:=bf ho;cases ho;exact eu (L7 hr he hop hz h) hK
 case h_22 c hop =>
  unfold Ri at ho;split at ho
  ·rename_i f hcal;split at ho
   ·rename_i hent;obtain⟨l,hl,ho⟩:=bf ho;cases ho;obtain⟨l1,l2⟩:=uj he hl;split at h
    ·simp only[ef] at h;obtain⟨_,hc⟩:=hC _ _ _ _ h;refine wq (by simp[execOp,hop,resolve,hcal,Act.eval,Deferred.ofValue,invoke,qU hent]) ((hc j w (c.args.map a.eval) hr hG (by simpa using l1) fun i c' u hc' hu=>?_)) hK hP
     grind
    split at h
    ·simp only[ef] at h;obtain⟨f1,f2,f3,f4⟩:=zP (j:=j) (w:=w) ((l.map (fV.ev bp)).flatMap ag.ids) hr
     obtain⟨_,hc⟩:=rl (us:=c.args.map a.eval) hC f2 (hG.mono f1) h (by simpa using l1) fun i c' u hc' hu=>by
      rw[aX,aV] at hc';obtain⟨y,hy,rfl⟩:=hc';rw[iI,aV] at hu;obtain⟨q,hq,rfl⟩:=hu;exact((l2 i y q hy (by simpa using hq)).ry hr f1 f2 f3 fun id hid=>f4 id (js.2 ⟨_,eJ.2 ⟨y,aK hy,rfl⟩,hid⟩)).fR
     refine wq (by simp[execOp,hop,resolve,hcal,Act.eval,Deferred.ofValue,invoke,qU hent]) (hc.mono ?_) hK hP
     rintro e w' (⟨v,rfl,j2,g1,g2,g3⟩|⟨u,rfl,hu,j2,g1,g2⟩)
     ·exact .inl ⟨v,rfl,j2,g1,f1.trans g2,g3⟩
     ·exact .inr ⟨u,rfl,hu,j2,g1,f1.trans g2⟩
    split at h
    ·rename_i h1 h2 h3;rw[aR h1,aR h2,aZ h3] at ho0;obtain⟨xs,sz,n,rfl,hrun⟩:=yR hC hop hcal (by rw[ho0]) h
     obtain⟨j1,r1,x1⟩:=Bz hr 1;refine hrun (p:=M.length) r1 (hG.mono x1) (he.mono x1) dy fun v w' ⟨j',q1,q2,q3⟩=>hK v w' ⟨j',?_,?_,?_⟩
     ·simpa using q1
     ·simpa using x1.trans q2
     ·simpa using q3
    simp only[ef] at h
    obtain⟨_,hc⟩:=rl (us:=c.args.map a.eval) hC hr hG h (by simpa using l1) fun i c' u hc' hu=>by
     rw[aX,aV] at hc';obtain⟨y,hy,rfl⟩:=hc';rw[iI,aV] at hu;obtain⟨q,hq,rfl⟩:=hu;exact(l2 i y q hy (by simpa using hq)).fR
    exact wq (by simp[execOp,hop,resolve,hcal,Act.eval,Deferred.ofValue,invoke,qU hent]) hc hK hP
   ·cases ho
  ·rename_i t hcal;obtain⟨l,hl,ho⟩:=bf ho;cases ho;obtain⟨l1,l2⟩:=uj he hl;have hsz:l.length=c.args.size:=by simpa using l1
   split at h
   ·simp only[ef] at h;split at h
    ·rename_i g caps hg;have hgr:=he.at' t;simp only[fV.ev] at hg;rw[hg] at hgr;obtain⟨vs,hvs,hcl,hcv⟩:=hgr.rz;have hev:a.eval (.tmp t) = .func (.func g) #[] vs:=hvs;obtain⟨hent,hc⟩:=hC _ _ _ _ h;refine wq (by simp[execOp,hop,resolve,hcal,hev,Deferred.ofValue,invoke,qU hent]) (hc j w (c.args.map a.eval++vs) hr hG gh fun i c' u hc' hu=>?_) hK hP
     rcases bz i l.length with hi|hi
     ·rw[aO (by simpa using hi)] at hc'
      rw[cj gh] at hu
      grind
     grind
    ·cases h
   simp only[ef] at h;split at h
   ·rename_i g caps hg;have hgr:=he.at' t;simp only[fV.ev] at hg;rw[hg] at hgr;obtain⟨vs,hvs,hcl,hcv⟩:=hgr.rz;have hev:a.eval (.tmp t) = .func (.func g) #[] vs:=hvs
    obtain⟨hent,hc⟩:=rl (us:=c.args.map a.eval++vs) hC hr hG h gh fun i c' u hc' hu=>by
     rcases bz i l.length with hi|hi
     ·rw[aO (by simpa using hi),aX,aV] at hc'
      obtain⟨y,hy,rfl⟩:=hc';rw[cj gh,iI,aV] at hu;obtain⟨q,hq,rfl⟩:=hu;exact(l2 i y q hy (by simpa using hq)).fR
     grind
    exact wq (by simp[execOp,hop,resolve,hcal,hev,Deferred.ofValue,invoke,qU hent]) hc hK hP
   ·rename_i g fs hg;have hgr:=he.at' t;simp only[fV.ev] at hg;rw[hg] at hgr;obtain⟨vs,hvs,hcl,hcv⟩:=hgr.Ht;have hev:a.eval (.tmp t) = .func (.func g) vs #[]:=hvs
    obtain⟨hent,hc⟩:=rl (us:=vs++c.args.map a.eval) hC hr hG h gh fun i c' u hc' hu=>by
     rcases bz i fs.length with hi|hi
     ·rw[aO hi] at hc';rw[cj aH] at hu;exact(hcv i c' u hc' hu).rep
     ·rw[bj hi,aX,aV] at hc';obtain⟨y,hy,rfl⟩:=hc';rw[Array.getElem?_append_right aH,iI,aV] at hu;obtain⟨q,hq,rfl⟩:=hu;rw[<-hcl] at hq;exact(l2 _ y q hy (by simpa using hq)).fR
    exact wq (by simp[execOp,hop,resolve,hcal,hev,Deferred.ofValue,invoke,qU hent]) hc hK hP
   ·rename_i rv hg;have hgr:=he.at' t;simp only[fV.ev] at hg;rw[hg] at hgr;split at h
    ·rename_i g;have hev:a.eval (.tmp t) = .func (.func g) #[] #[]:=hgr.NR
     obtain⟨hent,hc⟩:=rl (us:=c.args.map a.eval) hC hr hG h (by simpa using l1) fun i c' u hc' hu=>by
      rw[aX,aV] at hc';obtain⟨y,hy,rfl⟩:=hc';rw[iI,aV] at hu;obtain⟨q,hq,rfl⟩:=hu;exact(l2 i y q hy (by simpa using hq)).fR
     exact wq (by simp[execOp,hop,resolve,hcal,hev,Deferred.ofValue,invoke,qU hent]) hc hK hP
    ·cases h
   ·cases h
  ·rename_i hcal;split at ho
   ·rename_i y ha ht;obtain⟨t,ht0,ht⟩:=du.1 ht;obtain⟨z,hz,ho⟩:=bf ho;cases ho;exact eu (aaV hr he hop hcal ha ht0 ht hz h) hK
   ·rename_i y e ha ht;obtain⟨t,ht0,ht⟩:=du.1 ht;obtain⟨z,hz,ho⟩:=bf ho;cases ho;exact eu (aaW hr he hop hcal ha ht0 ht hz h) hK
   ·rename_i y k e ha ht;obtain⟨t,ht0,ht⟩:=du.1 ht;obtain⟨z,hz,ho⟩:=bf ho;cases ho;exact eu (aaU hr he hop hcal ha ht0 ht hz h) hK
   ·cases ho
  ·rename_i hcal;split at ho
   ·rename_i y y' t t' ha hat;split at ho
    ·rename_i e e' ht ht';obtain⟨n,hn,ho⟩:=bf ho;obtain⟨z,hz,ho⟩:=bf ho;obtain⟨z',hz',ho⟩:=bf ho;split at ho
     ·rename_i hpos;cases ho;exact eu (Wo hr he hop hcal ha hat ht ht' hn hpos hz hz' h) hK
     ·cases ho
    ·cases ho
   ·cases ho
  ·rename_i hcal;split at ho
   ·rename_i y y' t t' ha hat;split at ho
    ·rename_i e kn ht ht';obtain⟨i,hi,ho⟩:=bf ho;obtain⟨zv,hzv,ho⟩:=bf ho;obtain⟨l,hl,ho⟩:=bf ho;obtain⟨z,hz,ho⟩:=bf ho;obtain⟨z',hz',ho⟩:=bf ho;split at ho
     ·rename_i hc;obtain⟨d1,d2,d3,d4⟩:=hc;injection ho with hoo
      subst hoo;exact eu (L6 hr he hop hcal ha hat ht ht' hi hzv hl d1 d2 d3 d4 hz hz' h) hK
     ·cases ho
    ·rename_i e e' ht ht';obtain⟨i,hi,ho⟩:=bf ho;obtain⟨z,hz,ho⟩:=bf ho;obtain⟨z',hz',ho⟩:=bf ho;split at ho
     ·rename_i hc;cases ho;simp only[bw,bh] at hc;obtain⟨⟨⟨c1,c2⟩,c3⟩,c4⟩:=hc;obtain⟨zv,hzv,hzs⟩:=aV.1 c1;have hat':c.argTypes = #[t,t']:=by rw[<-hat]
      split at h
      ·split at h
       ·exact eu (L4 hr he hop hcal ha hat' ht ht' hi hzv hzs c2 c3 c4 hz hz' h) hK
       ·exact eu (Gi hr he hop hcal ha hat' ht ht' hi hzv hzs c2 c3 c4 hz hz' h) hK
      ·exact eu (Gi hr he hop hcal ha hat' ht ht' hi hzv hzs c2 c3 c4 hz hz' h) hK
     ·cases ho
    ·cases ho
   ·cases ho
  ·rename_i hcal;split at ho
   ·rename_i y t ha hat;split at ho
    ·rename_i e ht;obtain⟨i,hi,ho⟩:=bf ho;obtain⟨zv,hzv,ho⟩:=bf ho;obtain⟨l,hl,ho⟩:=bf ho;obtain⟨z,hz,ho⟩:=bf ho;split at ho
     ·rename_i hc;cases ho;exact eu (PW hr he hop hcal ha hat ht hi hzv hl hc.1 hz h) hK
     ·cases ho
    ·cases ho
   ·cases ho
  ·rename_i hcal;split at ho
   ·rename_i y y' ha;obtain⟨z,hz,ho⟩:=bf ho;obtain⟨z',hz',ho⟩:=bf ho;cases ho;exact eu (Gj (mx:=true) hr he hop hcal ha hz hz' h) hK
   ·cases ho
  ·rename_i hcal;split at ho
   ·rename_i y y' ha;obtain⟨z,hz,ho⟩:=bf ho;obtain⟨z',hz',ho⟩:=bf ho;cases ho;exact eu (Gj (mx:=false) hr he hop hcal ha hz hz' h) hK
   ·cases ho
  ·cases ho
 case h_23 t hop =>
  cases ho;exact eu (Wy hr hop h) hK
 case h_24 t m k ok hop =>
  split at ho
  ·rename_i kt et ht;obtain⟨fk,hfk,ho⟩:=bf ho;obtain⟨ie,hi,ho⟩:=bf ho;obtain⟨zv,hzv,ho⟩:=bf ho;obtain⟨z,hz,ho⟩:=bf ho;obtain⟨m',hm,ho⟩:=bf ho;obtain⟨k',hk,ho⟩:=bf ho;cases ho;exact eu (aaX hr he hop ht hfk hi hzv hz hm hk h) hK
  ·cases ho
 case h_25 t m k y hop =>
  split at ho
  ·rename_i kt et ht;obtain⟨fk,hfk,ho⟩:=bf ho;obtain⟨m',hm,ho⟩:=bf ho;obtain⟨k',hk,ho⟩:=bf ho;obtain⟨y',hy,ho⟩:=bf ho;cases ho;exact eu (WE hr he (.inl hop) ht hfk hm hk (cN he hy) h) hK
  ·cases ho
 case h_26 t y hop =>
  split at ho
  ·rename_i ht;obtain⟨z,hz,ho⟩:=bf ho;cases ho;exact eu (aa1 hr he hop ht hz h) hK
  ·cases ho
 case h_27 y hop =>
  obtain⟨z,hz,ho⟩:=bf ho;cases ho;exact eu (WA hr he hop hz h) hK
 case h_28 t y hop =>
  obtain⟨z,hz,ho⟩:=bf ho;split at ho
  ·cases ho
  ·rename_i d hd hu;cases ho;exact eu (Wu hr he hop hu (fun _=>hd _) hz h) hK
  ·cases ho
 case h_29 y hop =>
  obtain⟨z,hz,ho⟩:=bf ho;cases ho;obtain⟨u,h1,h2⟩:=WC (P:=P) hr he hop hz h;exact .inr (.inr ⟨u,h1,hP u w h2⟩)
 case h_30 t m k y hop =>
  split at ho
  ·rename_i kt et ht;obtain⟨fk,hfk,ho⟩:=bf ho;obtain⟨m',hm,ho⟩:=bf ho;obtain⟨k',hk,ho⟩:=bf ho;obtain⟨y',hy,ho⟩:=bf ho;cases ho;exact eu (WE hr he (.inr hop) ht hfk hm hk (WG he hy) h) hK
  ·cases ho
 case h_31 t y y' hop =>
  split at ho
  ·rename_i e ht;obtain⟨i,hi,ho⟩:=bf ho;obtain⟨zv,hzv,ho⟩:=bf ho;obtain⟨l,hl,ho⟩:=bf ho;obtain⟨z,hz,ho⟩:=bf ho;split at ho
   ·rename_i hc;obtain⟨hyy,c1,c2,c3⟩:=hc;injection ho with hoo
    subst hoo;have hyy:=abv hyy;subst hyy;split at h
    ·split at h
     ·exact eu (aaY hr he hop ht hi hzv hl hz c1 c2 c3 h) hK
     ·exact eu (Wz hr he hop ht hi hzv hl hz c1 c2 c3 h) hK
    ·exact eu (Wz hr he hop ht hi hzv hl hz c1 c2 c3 h) hK
   ·cases ho
  ·cases ho
 case h_32=>cases ho
end
section
variable {P:Program} {C:eP} {A:Cz}
def xC(a:Act)(d:Option Nat)(v:Value):(a.put d v).tmps.size=a.tmps.size:=by cases d<;>simp[Act.put]
theorem put_defers(a:Act)(d:Option Nat)(v:Value):(a.put d v).defers=a.defers:=by cases d<;>rfl
theorem AN{ops:Array Oper}{g:Bool}{o:Oper}{x:cV}(h:MF P A ops g o=some x):OO P A.own o=some x.op/\x.dst=o.dst/\x.grow=g/\(∀d,o.dst=some d->d<A.n) /\
  ((o.guard=none/\x.guard=none)\/∃k want t,o.guard=some (k,want)/\x.guard=some (t,want)/\(ops[k]?).bind (·.dst)=some t/\t<A.n):=by
 obtain⟨op,hop,h⟩:=bf h;split at h
 ·rename_i hd;have hd':∀d,o.dst=some d->d<A.n:=fun d e=>by grind [abY]
  split at h
  ·grind
  ·obtain⟨t,ht,h⟩:=bf h
   grind
 grind
def zn{ops:Array Oper}{o:Oper}{x:cV}{bp:Env}{M:aC}{j:J}{w:World}{a:Act}(he:cn j M w bp a)(hs:a.tmps.size=A.n)
  (hg:(o.guard=none/\x.guard=none)\/∃k want t,o.guard=some (k,want)/\x.guard=some (t,want)/\(ops[k]?).bind (·.dst)=some t/\t<A.n)
  (h:∀t want,x.guard=some (t,want)->hV bp t = .bool want):Region.wanted o (yielded ops a.tmps)=true:=by
 unfold Region.wanted;rcases hg with ⟨h1,_⟩|⟨k,want,t,h1,h2,h3,h4⟩
 ·rw[h1]
 ·have hv:=he.at' t;rw[h t _ h2] at hv;have hv:=hv.jD;simp_all [yielded]
theorem GH{ops:Array Oper}{o:Oper}{x:cV}{bp:Env}{M:aC}{j:J}{w:World}{a:Act}(he:cn j M w bp a)(hs:a.tmps.size=A.n)
  (hg:(o.guard=none/\x.guard=none)\/∃k want t,o.guard=some (k,want)/\x.guard=some (t,want)/\(ops[k]?).bind (·.dst)=some t/\t<A.n)
  {t:Nat} {want:Bool} (hx:x.guard=some (t,want)) (h:hV bp t = .bool (!want)\/hV bp t = .tuple []):Region.wanted o (yielded ops a.tmps)=false:=by
 unfold Region.wanted;rcases hg with ⟨_,h1⟩|⟨k,want',t',h1,h2,h3,h4⟩
 ·grind
 ·rw[h2] at hx;injection hx with hx
  injection hx with e1 e2
  subst e1; subst e2;rw[h1];have hv:=he.at' t';have hget:a.tmps[t']?=some (a.tmps.getD t' undef):=by simp_all
  rcases h with h|h
  ·rw[h] at hv;rw[hv.jD] at hget;cases want'<;>simp[yielded,h3,hget]
  ·rw[h] at hv;obtain⟨vs,hvs,hl,_⟩:=hv.tK
   grind [yielded]
def Fs{x:cV}{bp:Env}{M:aC}{y:ag×aC}(h:qk C x bp M=some y):ef C bp M x.op=some y:=by
 rcases rY h with ⟨_,_,h⟩|⟨_,_,h⟩|⟨_,_,_,h⟩<;>exact h
def rO:abC->Exit
 | .normal => .normal
 | .exit i => .exit i
 | .ret => .ret
 | .nF v => .panic [{ v,recovered:=false }]
def gj.L2{j:J}{M:aC}{w:World}{u v:Value}(h:gj j M w (.nF u) v):False:=by
 cases h with
 |plain h=>cases h
def cn.nil{j j':J}{M M':aC}{w w':World}{bp:Env}{a:Act}(h:cn j M w bp a)(hx:Ext j M w j' M' w'):cn j' M' w' [] a:=⟨fun _ => .any _,h.gl.mono hx⟩
theorem yc(hC:nJ P C){r:Option Nat}{n:Nat}{ops:Array Oper}{Q:Exit->Act->World->Prop}:∀ {grow:List Bool} (l:List Oper) (k:Nat),ops.toList.drop k=l->∀ {al:List cV},tQ P A ops grow l=some al ->
  ∀ {bp:Env} {M:aC} {x:Out},gn C al bp M=some x->∀ {j:J} {w:World} {a:Act},Rel j M w->sO j M w->cn j M w bp a->a.tmps.size=A.n ->
  (∀a' w' j',Rel j' x.mem w'->cn j' x.mem w' x.bp a'->Ext j M w j' x.mem w'->a'.tmps.size=A.n->a'.defers=a.defers->Q (rO x.e) a' w')->wpOpsIn (Wd r) n P ops Q (List.range' k l.length) a w
 |grow,[],k,hk,al,hal,bp,M,x,hx,j,w,a,hr,hG,he,hs,hQ=>by
  simp only[tQ] at hal; cases hal;simp only[gn] at hx; cases hx;exact hQ a w j hr he (Ext.refl j M w) hs rfl
 |grow,o::rs,k,hk,al,hal,bp,M,x,hx,j,w,a,hr,hG,he,hs,hQ=>by
  simp only[tQ] at hal;obtain⟨xo,hxo,hal⟩:=bf hal;obtain⟨xr,hxr,hal⟩:=bf hal;cases hal;obtain⟨h1,h2,h3,h4,h5⟩:=AN hxo
  have hko:ops[k]?=some o:=by
   have:(ops.toList.drop k)[0]?=some o:=by rw[hk]; rfl
   rw[cH] at this
   grind
  have hkr:ops.toList.drop (k+1)=rs:=by
   rw[<-List.drop_drop,hk]; rfl
  simp only[aw,List.range'_succ,wpOpsIn,hko];rcases p6 hx with ⟨y,g1,g2,⟨hnp,g3⟩|⟨u0,_,g3,rfl⟩⟩|⟨t,want,g1,g2,g3⟩
  ·rw[aZ (zn he hs h5 g1)];refine tM.wpIn (KP:=fun _ _=>False) (Aa h1) (Ei hC h1 (Fs g2) hr hG he ?_ ?_) fun u w' h=>h.elim
   ·rintro v w' ⟨j',q1,q2,q3⟩;refine yc hC rs (k+1) hkr hxr (x:=x) (by rw[<-h2]; omega) q1 (hG.mono q2) ((he.mono q2).put hs h4 aH) (by rw[xC]; omega) fun a' w'' j'' p1 p2 p3 p4 p5=>?_
    exact hQ a' w'' j'' p1 p2 (q2.trans p3) p4 (p5.trans (put_defers _ _ _))
   ·rintro u w' ⟨hu,_⟩;rw[hu] at hnp; cases hnp
  ·rw[aZ (zn he hs h5 g1)];refine tM.wpIn (KP:=fun u w'=>u=u0/\∃j',Rel j' y.2 w'/\Ext j M w j' y.2 w') (Aa h1) (Ei hC h1 (Fs g2) hr hG he ?_ ?_) ?_
   ·rintro v w' ⟨j',q1,q2,q3⟩;rw[g3] at q3;exact q3.L2.elim
   ·rintro u w' ⟨hu,h⟩;rw[g3] at hu; grind
   ·rintro u w' ⟨rfl,j',q1,q2⟩;exact hQ a w' j' q1 (he.nil q2) q2 hs rfl
  ·rw[aR (by rw[GH he hs h5 g1 g2]; simp)]
   refine⟨fun _ _=>trivial,?_⟩
   refine yc hC rs (k+1) hkr hxr (x:=x) (by rw[<-h2]; omega) hr hG (he.put hs h4 (.tuple (vs := #[]) rfl fun i c v h=>dy)) (by rw[xC]; omega) fun a' w'' j'' p1 p2 p3 p4 p5=>?_
   grind [put_defers]
theorem zb{acc:List Nat}{i:Nat}:∀ {es:List Edge},(xn acc es).testBit i=true->∃e,e∈es/\Region.binds .any e=true/\(e.on=i\/((nth acc e.on).getD 0).testBit i=true)
 | [],h=>by grind [xn]
 |e::r,h=>by
  rw[xn] at h;split at h
  ·rw[nc,nc,cW,cW] at h;rcases h with h|h|h
   ·obtain⟨e',h1,h2,h3⟩:=zb h
    grind
   ·grind
   grind
  ·obtain⟨e',h1,h2,h3⟩:=zb h
   grind
theorem Di:∀(l:List Oper)(acc:List Nat),acc <+: Dh l acc/\∀(m:Nat)(o:Oper),l[m]?=some o->(Dh l acc)[acc.length+m]?=some (xn ((Dh l acc).take (acc.length+m)) o.after.toList)
 | [],acc=>⟨lU _,fun m o h=>jK⟩
 |p::r,acc=>by
  rw[Dh];obtain⟨h1,h2⟩:=Di r (acc++[xn acc p.after.toList]);have h3  := (List.prefix_append _ _).trans h1;refine⟨h3,fun m o hm=>?_⟩
  cases m with
  |zero =>
   simp at hm; obtain⟨t,ht⟩:=h1
   grind
  |succ m =>
   grind
def Da{ops:List Oper}{i k:Nat}{o:Oper}(hk:ops[k]?=some o)(cG:∀e,e∈o.after.toList->Region.binds .any e=true->e.on<k)(h:ahead (ri ops) i k=true) :
  ∃e,e∈o.after.toList/\Region.binds .any e=true/\e.on<k/\(e.on=i\/ahead (ri ops) i e.on=true):=by
 have h1:=(Di _ []).2 k o hk;simp at h1;unfold ahead at h;rw[fc,show ri _=Dh _ _ from rfl,h1] at h
 obtain⟨e,h2,h3,h4⟩:=zb h;have h5:=cG e h2 h3;refine⟨e,h2,h3,h5,h4.imp id fun h=>?_⟩
 rw[fc,bH h5] at h;unfold ahead;rw[fc];exact h
def Down(ops:Array Oper)(L:Nat->Bool):Prop:=∀(k:Nat)(o:Oper)(e:Edge),ops[k]?=some o->L k=true->e∈o.after.toList->Region.binds .any e=true->L e.on=true
theorem Db{ops:Array Oper}{L:Nat->Bool}(hd:Down ops L)(cG:∀(k:Nat)(o:Oper)(e:Edge),ops[k]?=some o->e∈o.after.toList->Region.binds .any e=true->e.on<k) :
  ∀(k:Nat){i:Nat},ahead (ri ops.toList) i k=true->k<ops.size->L k=true->L i=true:=by
 intro k;induction k using Nat.strongRecOn with
 |_ k ih =>
  intro i h hk hL;have ho  := bg hk;obtain⟨e,h1,h2,h3,h4⟩:=Da dy (fun e h1 h2=>cG k _ e ho h1 h2) h
  have h5:=hd k _ e ho hL h1 h2
  grind
theorem H7{ops:Array Oper}{L:Nat->Bool}(hd:Down ops L)(cG:∀(k:Nat)(o:Oper)(e:Edge),ops[k]?=some o->e∈o.after.toList->Region.binds .any e=true->e.on<k)
  {k i:Nat} {o:Oper} (ho:ops[k]?=some o) (hr:∀e,e∈o.after.toList->Region.binds .any e=true->L e.on=true) (h:ahead (ri ops.toList) i k=true):L i=true:=by
 obtain⟨e,h1,h2,h3,h4⟩:=Da jK (fun e h1 h2=>cG k _ e ho h1 h2) h
 have h5:=hr e h1 h2;rcases h4 with rfl|h4
 ·omega
 grind [Db]
theorem cF{bp env':Env}{x:fV}(h:∀t,t∈x.ma->hV bp t=hV env' t):x.ev bp=x.ev env':=by
 cases x with
 |tmp t=>exact h t (by simp[fV.ma])
 |sY v=>rfl
theorem nP{bp env':Env}:∀ {l:List fV},(∀t,t∈l.flatMap fV.ma->hV bp t=hV env' t)->∀x,x∈l->x.ev bp=x.ev env':=by grind [cF]
def sv{bp env':Env}{n:Nat}{x:Option fV}(h:∀t,t∈Bu x->hV bp t=hV env' t):gw bp n x=gw env' n x:=by
 cases x with
 |none=>rfl
 |some x=>unfold gw; simp only; rw[cF h]
theorem DD{bp env':Env}:∀ {ps:List (Nat×Nat×fV)} {cs:List ag},(∀p,p∈ps->p.2.2.ev bp=p.2.2.ev env')->mq bp cs ps=mq env' cs ps
 | [],cs,_=>rfl
 |(off,n,x)::r,cs,h=>by
  unfold mq;rw[h (off,n,x) dy];congr 1;funext new;split
  ·exact DD fun p hp=>h p jK
  rfl
def za{bp env':Env}{sz:Nat}:∀ {ps:List fV},(∀p,p∈ps->p.ev bp=p.ev env')->sR bp sz ps=sR env' sz ps
 | [],_=>rfl
 |x::r,h=>by
  unfold sR;rw[h x dy,za fun p hp=>h p jK]
theorem Fp{bp env':Env}{M:aC}{op:kD}(h:∀t,t∈op.ma->hV bp t=hV env' t):ef C bp M op=ef C env' M op/\op.ew bp=op.ew env':=by
 cases op<;>simp only[kD.ma,bm] at h
 case mv x=>simp[ef,kD.ew,cF h]
 case own n x=>simp[ef,kD.ew,cF h]
 case pick c x y=>grind [ef,kD.ew,cF]
 case yO cs=>simp[ef,kD.ew]
 case box x=>simp[ef,kD.ew,cF h]
 case Fv f l =>
  have:(l.map fun x=>(x.ev bp).fR)=l.map fun x=>(x.ev env').fR:=cT fun x hx=>by rw[nP h x hx]
  simp only[ef,kD.ew,this,jU]
 case build z ps=>grind [ef,kD.ew,DD,cF]
 case lits n ps=>simp[ef,kD.ew,za (ps:=ps) (nP h)]
 case Gb n ps=>simp[ef,kD.ew,za (ps:=ps) (nP h)]
 case mN n x=>simp[ef,kD.ew,cF h]
 case rD x=>simp[ef,kD.ew,cF h]
 case store n x y=>simp[ef,kD.ew,cF (x:=x) fun t ht=>h t (.inl ht),cF (x:=y) fun t ht=>h t (.inr ht)]
 case BF sz p n x y=>simp[ef,kD.ew,cF (x:=x) fun t ht=>h t (.inl ht),cF (x:=y) fun t ht=>h t (.inr ht)]
 case chk x=>simp[ef,kD.ew,cF h]
 case bin b x y=>grind [ef,kD.ew,cF]
 case QG ks n x y=>grind [ef,kD.ew,cF]
 case eqB n x y=>simp[ef,kD.ew,cF (x:=x) fun t ht=>h t (.inl ht),cF (x:=y) fun t ht=>h t (.inr ht)]
 case not x=>simp[ef,kD.ew,cF h]
 case neg x=>simp[ef,kD.ew,cF h]
 case conv k x=>simp[ef,kD.ew,cF h]
 case same x=>simp[ef,kD.ew,cF h]
 case fn f l=>simp only[ef,kD.ew,cT (nP h),jU]
 case BC x lo hi =>
  simp only[ef,kD.ew,cF (x:=x) fun t ht=>h t (.inl ht),sv (bp:=bp) (env':=env') (x:=lo) fun t ht=>h t (.inr (.inl ht)),pN]
  split
  ·rw[sv (x:=hi) fun t ht=>h t (.inr (.inr ht))]
  ·rfl
 case uq n x lo hi mx =>
  simp only[ef,kD.ew,cF (x:=x) fun t ht=>h t (.inl ht),sv (bp:=bp) (env':=env') (x:=lo) fun t ht=>h t (.inr (.inl ht)),pN]
  split
  ·rw[sv (x:=hi) fun t ht=>h t (.inr (.inr (.inl ht)))]
   cases mx with
   |none=>rfl
   |some m=>simp only[cF (x:=m) fun t ht=>h t (.inr (.inr (.inr ht)))]
  ·rw[sv (x:=hi) fun t ht=>h t (.inr (.inr (.inl ht)))]
   cases mx with
   |none=>rfl
   |some m=>simp only[cF (x:=m) fun t ht=>h t (.inr (.inr (.inr ht)))]
  ·rfl
 case yx n x=>simp[ef,kD.ew,cF h]
 case DC p n x=>simp[ef,kD.ew,cF h]
 case DB p x=>simp[ef,kD.ew,cF h]
 case ub n x y=>simp[ef,kD.ew,cF (x:=x) fun t ht=>h t (.inl ht),cF (x:=y) fun t ht=>h t (.inr ht)]
 case Bb m n x y=>simp[ef,kD.ew,cF (x:=x) fun t ht=>h t (.inl ht),cF (x:=y) fun t ht=>h t (.inr ht)]
 case Bc x y=>grind [ef,kD.ew,cF]
 case extract x i=>simp[ef,kD.ew,cF h]
 case call f l =>
  have:(l.map fun x=>(x.ev bp).fR)=l.map fun x=>(x.ev env').fR:=cT fun x hx=>by rw[nP h x hx]
  simp only[ef,kD.ew,this,jU]
 case sw f l =>
  have:(l.map fun x=>(x.ev bp).fR)=l.map fun x=>(x.ev env').fR:=cT fun x hx=>by rw[nP (fun t ht=>h t (.inr ht)) x hx]
  simp only[ef,kD.ew,this,cF (x:=f) fun t ht=>h t (.inl ht),jU]
 case BV f l=>simp only[ef,kD.ew,cT (nP fun t ht=>h t (.inr ht)),cF (x:=f) fun t ht=>h t (.inl ht),jU]
 case BU f l=>simp only[ef,kD.ew,cT (nP h),jU]
 case wy f l =>
  have:(l.map fun x=>(x.ev bp).fR)=l.map fun x=>(x.ev env').fR:=cT fun x hx=>by rw[nP h x hx]
  simp only[ef,kD.ew,this,jU]
 case w6 n z x=>simp[ef,kD.ew,cF h]
 case lk f l =>
  have h1:(l.map fun x=>((x.ev bp).ry M).fR)=l.map fun x=>((x.ev env').ry M).fR:=cT fun x hx=>by rw[nP h x hx]
  have h2:l.map (fV.ev bp)=l.map (fV.ev env'):=cT (nP h);simp only[ef,kD.ew,h1,h2,jU]
 case VD x=>simp[ef,kD.ew,cF h]
 case zZ x=>simp[ef,kD.ew,cF h]
 case O1 n x y=>simp[ef,kD.ew,cF (x:=x) fun t ht=>h t (.inl ht),cF (x:=y) fun t ht=>h t (.inr ht)]
 case append n b x y=>simp[ef,kD.ew,cF (x:=x) fun t ht=>h t (.inl ht),cF (x:=y) fun t ht=>h t (.inr ht)]
 case vT n b x y=>simp[ef,kD.ew,cF (x:=x) fun t ht=>h t (.inl ht),cF (x:=y) fun t ht=>h t (.inr ht)]
 case b2s x=>simp[ef,kD.ew,cF h]
 case mkMap=>simp[ef,kD.ew]
 case look fk z ok x y=>grind [ef,kD.ew,cF]
 case gz fk c x y=>grind [ef,kD.ew,cF]
 case PE x=>simp[ef,kD.ew,cF h]
 case Qi x=>simp[ef,kD.ew,cF h]
 case Gh x=>simp[ef,kD.ew,cF h]
 case Bo m x y=>simp[ef,kD.ew,cF (x:=x) fun t ht=>h t (.inl ht),cF (x:=y) fun t ht=>h t (.inr ht)]
 case xQ a b c x y=>grind [ef,kD.ew,cF]
 case FC a x y=>simp[ef,kD.ew,cF (x:=x) fun t ht=>h t (.inl ht),cF (x:=y) fun t ht=>h t (.inr ht)]
 case OL a=>simp[ef,kD.ew]
 case mkS z x=>simp[ef,kD.ew,cF h]
 case PR z x=>simp[ef,kD.ew,cF h]
 case iface t x=>simp[ef,kD.ew,cF h]
 case raise x=>simp[ef,kD.ew,cF h]
theorem zC{f:Nat}{vs:List ag}{M:aC}{x:ag×aC}(h:aU C f vs M=some x)(hn:vs.flatMap ag.ids=[]):x.2=M/\∀M2,aU C f vs M2=some (x.1,M2):=by
 have hre:∀M,reach M []=[]:=fun M=>rfl
 unfold aU at h;rw[hn,hre] at h;split at h
 ·rename_i hf;obtain⟨B,hB,h⟩:=bo h;simp only[j4] at hB;cases hB;split at h
  ·obtain⟨y,hy,h⟩:=bo h;split at h
   ·rename_i hc;cases h;have hy2:y.2=[]:=dB hc.1;refine⟨by simp[mb],fun M2=>?_⟩
    unfold aU;rw[hn,hre,aZ hf];simp only[j4,bN];rw[aZ (show kC M2 []=[] from rfl),hy,bN,aZ hc,hy2]
    simp[mb]
   ·cases h
  ·cases h
 ·cases h
theorem H8{op:kD}(hc:op.xe=true){bp:Env}{M:aC}{x:ag×aC}(h:ef C bp M op=some x)(hn:op.ew bp=[]):x.2=M/\∀M2,ef C bp M2 op=some (x.1,M2):=by
 cases op<;>simp only[kD.xe,af] at hc
 case call f l =>
  grind [ef,kD.ew,zC]
 case sw f l =>
  simp only[ef,kD.ew] at h hn ⊢;split at h<;>grind [zC]
theorem NM{op:kD}(he:op.QI=false)(hl:op.QJ=false){bp:Env}{M:aC}{x:ag×aC}(h:ef C bp M op=some x):x.2=M/\∀M2,ef C bp M2 op=some (x.1,M2):=by
 cases op<;>simp only[kD.QI,kD.QJ,reduceCtorEq] at he hl<;>simp only[ef] at h ⊢
 case BC y lo hi =>
  split at h
  ·rename_i s e;obtain⟨hh,h1,h⟩:=bo h;obtain⟨l,h2,h⟩:=bo h;obtain⟨hp,h⟩:=da h;cases h;simp_all
  ·cases h
 case uq n y lo hi mx =>
  split at h
  ·rename_i tk xs e;obtain⟨hw,h⟩:=da h;obtain⟨hh,h1,h⟩:=bo h;obtain⟨l,h2,h⟩:=bo h;split at h
   ·obtain⟨hp,h⟩:=da h;cases h;simp_all
   ·split at h
    ·rename_i k m em;obtain⟨hp,h⟩:=da h;rcases lG h with ⟨hb,h⟩|⟨hb,h⟩<;>(cases h)
     ·simp_all
     ·exact⟨rfl,fun M2=>by rw[fh hw]; simp only[h1,h2,bN,hb,p8]; exact fh hp⟩
    ·cases h
  ·rename_i id v0 sz' al ah e;obtain⟨hw,h⟩:=da h;obtain⟨hh,h1,h⟩:=bo h;obtain⟨l,h2,h⟩:=bo h;split at h
   ·obtain⟨hp,h⟩:=da h;rcases lG h with ⟨hb,h⟩|⟨hb,h⟩<;>(cases h)
    ·simp_all
    ·exact⟨rfl,fun M2=>by rw[fh hw]; simp only[h1,h2,bN,hb,p8]; exact fh hp⟩
   ·split at h
    ·rename_i k m em;obtain⟨hp,h⟩:=da h;rcases lG h with ⟨hb,h⟩|⟨hb,h⟩
     ·cases h;simp_all
     ·rcases lG h with ⟨hb2,h⟩|⟨hb2,h⟩<;>(cases h)
      ·exact⟨rfl,fun M2=>by rw[fh hw]; grind [bN,vE,p8,fh]⟩
      ·exact⟨rfl,fun M2=>by rw[fh hw]; grind [bN,p8,fh]⟩
    ·cases h
  ·cases h
 case O1 n y i =>
  split at h
  ·obtain⟨hp,h⟩:=da h;cases h;exact⟨rfl,fun _=>aZ hp⟩
  ·cases h
 case ub n y i =>
  split at h
  ·obtain⟨hp,h⟩:=da h;obtain⟨e,h1,h⟩:=bo h;split at h
   ·rename_i hw;cases h;simp_all
   ·cases h
  ·obtain⟨hp,h⟩:=da h;cases h;exact⟨rfl,fun M2=>by rw[fh hp]⟩
  ·cases h
 case Bb m n y i =>
  split at h
  ·obtain⟨hp,h⟩:=da h;cases h;exact⟨rfl,fun M2=>by rw[fh hp]⟩
  ·obtain⟨hp,h⟩:=da h;cases h;exact⟨rfl,fun M2=>by rw[fh hp]⟩
  ·cases h
 case Fv f l =>
  grind
 case Bc y i =>
  split at h
  ·obtain⟨hp,h⟩:=da h;obtain⟨e,h1,h⟩:=bo h;cases h;exact⟨rfl,fun M2=>by rw[fh hp,h1,bN]⟩
  ·cases h
 case pick c y z =>
  split at h
  ·rcases lG h with ⟨rfl,h⟩|⟨rfl,h⟩<;>(cases h; exact⟨rfl,fun _=>rfl⟩)
  ·cases h
 case lits n ps =>
  obtain⟨l,h1,h⟩:=bo h;cases h;exact⟨rfl,fun M2=>by rw[h1,bN]⟩
 case iface t y =>
  split at h
  ·cases h;exact⟨rfl,fun M2=>rfl⟩
  ·obtain⟨v,hv,h⟩:=bo h;cases h;exact⟨rfl,fun M2=>by rw[hv]; rfl⟩
 case mkS z y =>
  split at h
  ·obtain⟨hp,h⟩:=da h;cases h;exact⟨rfl,fun M2=>fh hp⟩
  ·cases h
 case raise y =>
  grind
 all_goals first
  |(cases h; exact⟨rfl,fun _=>rfl⟩)
  |(obtain⟨_,ha,h⟩:=bo h; cases h; exact⟨rfl,fun _=>by rw[ha]; rfl⟩)
  |(split at h<;>first
    |(cases h; exact⟨rfl,fun _=>rfl⟩)
    |(obtain⟨_,ha,h⟩:=bo h; cases h; exact⟨rfl,fun _=>by rw[ha]; rfl⟩)
    |cases h
    |grind)
theorem JS{M M2:aC}{id:Nat}{b:cI}(hp:M <+: M2\/M2 <+: M)(hid:id<M2.length)(hb:nth M id=some b):nth M2 id=some b:=by
 rw[fc] at hb ⊢;rcases hp with ⟨t,rfl⟩|⟨t,rfl⟩
 ·rw[aO (aN hb)]; omega
 grind
theorem Jy{op:kD}(hl:op.QJ=true){bp:Env}{M:aC}{x:ag×aC}(h:ef C bp M op=some x):x.2=M /\
  ∀ {M2:aC} (z:fV),(∀id b,id∈(z.ev bp).iG->id<M2.length->nth M id=some b->nth M2 id=some b)->∀ {j:J} {w:World} {v:Value},(op = .rD z\/(∃n,op = .mN n z)\/∃fk zr ok k,op = .look fk zr ok z k)->gj j M2 w (z.ev bp) v->ef C bp M2 op=some (x.1,M2):=by
 cases op<;>simp only[kD.QJ,af] at hl
 case mN n y =>
  simp only[ef] at h ⊢;split at h
  ·rename_i id off e;split at h
   ·rename_i cs hM;split at h
    ·rename_i hle;cases h;refine⟨rfl,fun {M2} z hp {j w v} hz hr=>?_⟩
     have:z=y:=by rcases hz with hz|⟨n',hz⟩|⟨_,_,_,_,hz⟩<;>cases hz<;>rfl
     subst this;rw[e] at hr;obtain⟨b,hid,_⟩:=hr.p9;rw[hp _ _ (by rw[e]; simp[ag.iG]) hid hM]
     simp only;rw[aZ hle]
    ·cases h
   ·cases h
  ·grind
  ·rename_i id ver i off e;split at h
   ·rename_i sz v0 xs hM;split at h
    ·rename_i hv0;obtain⟨el,hel,h⟩:=bo h;split at h
     ·rename_i hle;cases h;refine⟨rfl,fun {M2} z hp {j w v} hz hr=>?_⟩
      have:z=y:=by rcases hz with hz|⟨n',hz⟩|⟨_,_,_,_,hz⟩<;>cases hz<;>rfl
      subst this;rw[e] at hr;obtain⟨_,hid,_⟩:=hr.sB;rw[hp _ _ (by rw[e]; simp[ag.iG]) hid hM]
      simp only[hel,bN];rw[aZ hv0,aZ hle]
     ·cases h
    ·cases h
   ·cases h
  ·cases h
 case rD y =>
  simp only[ef] at h ⊢;split at h
  ·rename_i id off e;split at h
   ·rename_i cs hM;obtain⟨c,hc,h⟩:=bo h;cases h;refine⟨rfl,fun {M2} z hp {j w v} hz hr=>?_⟩
    have:z=y:=by rcases hz with hz|⟨n',hz⟩|⟨_,_,_,_,hz⟩<;>cases hz<;>rfl
    subst this;rw[e] at hr;obtain⟨b,hid,_⟩:=hr.p9;rw[hp _ _ (by rw[e]; simp[ag.iG]) hid hM]
    simp only[hc,bN]
   ·cases h
  ·obtain⟨c,hc,h⟩:=bo h;cases h;exact⟨rfl,fun {M2} hp {j w v} z hz hr=>by simp only[hc,bN]⟩
  ·rename_i id ver i off e;split at h
   ·rename_i sz v0 xs hM;split at h
    ·rename_i hv0;obtain⟨el,hel,h⟩:=bo h;obtain⟨c,hc,h⟩:=bo h;cases h;refine⟨rfl,fun {M2} z hp {j w v} hz hr=>?_⟩
     have:z=y:=by rcases hz with hz|⟨n',hz⟩|⟨_,_,_,_,hz⟩<;>cases hz<;>rfl
     subst this;rw[e] at hr;obtain⟨_,hid,_⟩:=hr.sB;rw[hp _ _ (by rw[e]; simp[ag.iG]) hid hM]
     simp only[hel,hc,bN];rw[aZ hv0]
    ·cases h
   ·cases h
  ·cases h
 case look fk zr ok y k =>
  simp only[ef] at h ⊢;obtain⟨e,he,h⟩:=bo h;obtain⟨r,hr',h⟩:=bo h;cases h;refine⟨rfl,fun {M2} z hp {j w v} hz hr=>?_⟩
  have:z=y:=by rcases hz with hz|⟨n',hz⟩|⟨_,_,_,_,hz⟩<;>cases hz<;>rfl
  subst this
  have:mapOf M2 (z.ev bp)=some e:=by
   unfold mapOf at he ⊢;split at he
   ·rename_i id e0;rw[e0] at hr;obtain⟨b,⟨ks,vs,hm⟩,_⟩:=hr.vC;split at he
    ·rename_i ks' vs' hM;rw[hp _ _ (by rw[e0]; simp[ag.iG]) (aN hm) hM]
     exact he
    ·cases he
   ·exact he
   ·cases he
  rw[this,bN,hr',bN]
end
section
variable {P:Program} {C:eP} {A:Cz}
def Kz(C:eP)(o:cV)(bp:Env)(M:aC)(v:ag)(M':aC):Prop :=
 ((∀t want,o.guard=some (t,want)->hV bp t = .bool want)/\qk C o bp M=some (v,M')) \/
 (∃t want,o.guard=some (t,want)/\(hV bp t = .bool (!want)\/hV bp t = .tuple [])/\v = .tuple []/\M'=M)
def oX(bp:Env)(l:List cV)(vals:Nat->ag)(L:Nat->Bool):Nat->Env
 |0=>bp
 |k+1=>match l[k]? with
  |some o=>if L k then rG (oX bp l vals L k) o.dst (vals k) else oX bp l vals L k
  |none=>oX bp l vals L k
theorem AV(bp:Env)(o:cV)(r:List cV)(vals:Nat->ag):∀k,oX bp (o::r) vals (fun _=>true) (k+1)=oX (rG bp o.dst (vals 0)) r (fun i=>vals (i+1)) (fun _=>true) k
 |0=>rfl
 |k+1=>by
  rw[oX,AV _ o r _ k];rfl
def abH(l:List cV)(bp:Env)(vals:Nat->ag)(mems:Nat->aC)(N:Nat)(x:Out):Prop :=
 (N=l.length/\(∀k,k<N->(vals k).jn=false)/\x=⟨.normal,oX bp l vals (fun _=>true) N,mems N⟩) \/
 ∃n y v,N=n+1/\l[n]?=some y/\y.lets=true/\vals n = .nF v/\(∀k,k<n->(vals k).jn=false)/\x=⟨.nF v,[],mems N⟩
theorem trace:∀ {l:List cV} {bp:Env} {M:aC} {x:Out},gn C l bp M=some x->∃(N:Nat) (vals:Nat->ag) (mems:Nat->aC),N<=l.length/\mems 0=M /\
  (∀(k:Nat)(o:cV),k<N->l[k]?=some o->Kz C o (oX bp l vals (fun _=>true) k) (mems k) (vals k) (mems (k+1)))/\abH l bp vals mems N x
 | [],bp,M,x,h=>by
  simp only[gn] at h; injection h with h
  exact⟨0,fun _ => .any,fun _=>M,au _,rfl,fun k o hk=>dy,.inl ⟨rfl,fun k hk=>by rfl,h.symm⟩⟩
 |o::r,bp,M,x,h=>by
  have key:∀(v:ag)(M':aC),Kz C o bp M v M'->v.jn=false->gn C r (rG bp o.dst v) M'=some x->∃(N:Nat) (vals:Nat->ag) (mems:Nat->aC),N<=(o::r).length/\mems 0=M /\
    (∀(k:Nat)(p:cV),k<N->(o::r)[k]?=some p->Kz C p (oX bp (o::r) vals (fun _=>true) k) (mems k) (vals k) (mems (k+1)))/\abH (o::r) bp vals mems N x:=by
   intro v M' hs hnp hr;obtain⟨N,vals,mems,h0,h1,h2,h3⟩:=trace hr;refine⟨N+1,fun i=>match i with|0=>v|i+1=>vals i,fun i=>match i with|0=>M|i+1=>mems i,by simpa using h0,rfl,fun k p hk hp=>?_,?_⟩
   ·grind [oX,AV]
   ·have np:∀n,(∀k,k<n->(vals k).jn=false)->∀k,k<n+1->((fun i=>match i with|0=>v|i+1=>vals i:Nat->ag) k).jn=false:=by
     grind
    rcases h3 with ⟨e1,e2,e3⟩|⟨n,y,u,e1,e2,e3,e4,e5,e6⟩
    ·refine .inl ⟨by simp[e1],np N e2,?_⟩
     rw[AV]; omega
    ·exact .inr ⟨n+1,y,u,by rw[e1],by simpa using e2,e3,e4,np n e5,e6⟩
  rcases p6 h with ⟨y,h1,h2,⟨h3,h4⟩|⟨v,h3,h4,rfl⟩⟩|⟨t,want,h1,h2,h3⟩
  ·exact key y.1 y.2 (.inl ⟨h1,h2⟩) h3 h4
  ·refine⟨1,fun _=>y.1,fun i=>match i with|0=>M|_=>y.2,dy,rfl,fun k p hk hp=>?_,.inr ⟨0,o,v,rfl,rfl,h3,h4,fun k hk=>aH,rfl⟩⟩
   have:k=0:=aH;subst this;simp at hp; subst hp;exact .inl ⟨h1,h2⟩
  ·exact key (.tuple []) M (.inr ⟨t,want,h1,h2,rfl,rfl⟩) rfl h3
section
variable {bp:Env} {l:List cV} {vals:Nat->ag} {L L':Nat->Bool} {t:Nat}
def wr(l:List cV)(k t:Nat):Prop:=∃o,l[k]?=some o/\o.dst=some t
theorem MQ(k:Nat)(h:wr l k t)(hL:L k=true):hV (oX bp l vals L (k+1)) t=vals k:=by
 obtain⟨o,h1,h2⟩:=h;rw[oX];simp_all [rG,hV]
theorem AW(k:Nat)(h:¬(wr l k t/\L k=true)):hV (oX bp l vals L (k+1)) t=hV (oX bp l vals L k) t:=by
 rw[oX];split
 ·rename_i o ho;split
  ·rename_i hk;unfold rG;split
   ·rename_i d hd;rw[hV,aR];rintro rfl;exact h ⟨⟨o,ho,hd⟩,hk⟩
   rfl
  rfl
 rfl
def vt{i:Nat}:∀n,i<=n->(∀k,i<=k->k<n->¬(wr l k t/\L k=true))->hV (oX bp l vals L n) t=hV (oX bp l vals L i) t
 |0,hi,_=>by rw[show i=0 by omega]
 |n+1,hi,h=>by
  by_cases he:i=n+1
  ·rw[he]
  ·rw[AW n (h n aH dy)];exact vt n aH fun k h1 h2=>h k h1 aH
theorem x4:∀n,(∀k,k<n->wr l k t->L k=L' k)->hV (oX bp l vals L n) t=hV (oX bp l vals L' n) t
 |0,_=>rfl
 |n+1,h=>by
  have ih:=x4 n fun k hk=>h k aH
  by_cases hw:wr l n t
  ·cases hL:L n<;>grind [MQ,AW]
  grind [AW]
end
def left(L:Nat->Bool):Nat->Nat
 |0=>0
 |k+1=>left L k+if L k then 0 else 1
theorem F9{L:Nat->Bool}:∀ {n},left L n=0->∀k,k<n->L k=true
 |0,_,k,hk=>aH
 |n+1,h,k,hk=>by
  rw[left] at h
  by_cases he:k=n
  ·grind
  ·exact F9 (n:=n) aH k aH
theorem Ju{L L':Nat->Bool}{i:Nat}(hi:L i=false)(hi':L' i=true)(hne:∀k,k≠i->L' k=L k):∀n,left L n=left L' n+if i<n then 1 else 0
 |0=>by rfl
 |n+1=>by
  have ih:=Ju hi hi' hne n;rw[left,left]
  grind
theorem yF{bs:List Nat}{l:List cV}:∀(r:List cV)(k m:Nat)(y:cV),(qe bs l k r)[m]?=some y->∃x,r[m]?=some x/\y.dst=x.dst/\y.op=x.op/\y.guard=x.guard
 | [],k,m,y,h=>by simp_all [qe]
 |x::r,k,m,y,h=>by
  rw[qe] at h;cases m with
  |zero=>grind
  |succ m =>
   obtain⟨z,h1,h2⟩:=yF r _ m y (by simpa using h)
   grind
def yG{bs:List Nat}{l:List cV}:∀(r:List cV)(k:Nat),(qe bs l k r).length=r.length
 | [],_=>rfl
 |x::r,k=>by rw[qe,aw,yG r _,aw]
theorem Dl{ops:Array Oper}:∀ {r:List Oper} {g:List Bool} {l:List cV},tQ P A ops g r=some l->l.length=r.length/\∀(k:Nat)(o:Oper),r[k]?=some o->∃x b,l[k]?=some x/\MF P A ops b o=some x
 | [],g,l,h=>by grind [tQ]
 |o::r,g,l,h=>by
  obtain⟨x,hx,h⟩:=bf h;obtain⟨l',hl,h⟩:=bf h;injection h with h; obtain⟨h1,h2⟩:=Dl hl
  grind
structure Ord(ops:Array Oper)(l:List cV):Prop where
 len:l.length=ops.size
 YG:∀(k:Nat)(o:Oper)(e:Edge),ops[k]?=some o->e∈o.after.toList->Region.binds .any e=true->e.on<k
 alone:∀(k:Nat)(y:cV),l[k]?=some y->y.xv=true->y.op.xe=true
 opl:∀(k:Nat)(y:cV),l[k]?=some y->L3 y.op=true
 ab2:∀(k i:Nat)(y x:cV),l[k]?=some y->y.ud=true->y.grow=false->l[i]?=some x->x.op.QJ=true->(i<k->ahead (ri ops.toList) i k=true)/\(k<i->ahead (ri ops.toList) k i=true)
 sep:∀(k i:Nat)(y x:cV),l[k]?=some y->y.sep≠[]->l[i]?=some x->x.op.QJ=true->(k<i->ahead (ri ops.toList) k i=true)/\(i<k->ahead (ri ops.toList) i k=true\/∃z,x.op.NZ=some z/\z∈y.sep/\am4 l i k z=true)
 meet:∀(i k:Nat)(x y:cV),i<k->l[i]?=some x->l[k]?=some y->meet x y=true->ahead (ri ops.toList) i k=true
 stop:∀(i k:Nat)(y:cV),l[k]?=some y->y.lets=true->i<l.length->(k<i->ahead (ri ops.toList) k i=true)/\(i<k->ahead (ri ops.toList) i k=true\/∀x,l[i]?=some x->x.op.QI=false)
 eff:∀(i k:Nat)(x y:cV),i<k->l[i]?=some x->l[k]?=some y->x.ud=true->y.ud=true->ahead (ri ops.toList) i k=true\/(Ca ops l i=true/\Ca ops l k=true)
theorem L8{ops:Array Oper}{l:List cV}(dJ:l.length=ops.size)(h:Hw ops (ri ops.toList) l=true):Ord ops l:=by
 unfold Hw at h
 have hk:∀(k:Nat)(y:cV)(o:Oper),l[k]?=some y->ops[k]?=some o->(o.after.toList.all (fun e => !Region.binds .any e||decide (e.on<k))=true/\((!y.xv||y.op.xe)&&L3 y.op)=true/\((!(y.ud && !y.grow)||fenced (ri ops.toList) l k)&&(y.sep.isEmpty||C2 (ri ops.toList) l k y.sep))=true/\(!y.lets||Mp (ri ops.toList) l k)=true) /\
   ∀(i:Nat)(x:cV),i<k->l[i]?=some x->(!Go.Abs.meet x y||ahead (ri ops.toList) i k)=true/\(!(x.ud&&y.ud)||(ahead (ri ops.toList) i k||(Ca ops l i&&Ca ops l k)))=true:=by
  intro k y o hy ho;have h1:=bM.1 h k (gb.2 (aN hy));rw[fc,hy,ho] at h1;rw[bw,bw,bw] at h1;obtain⟨⟨⟨a1,a2⟩,a3⟩,a45⟩:=h1;rw[bw] at a45;obtain⟨a5,a4⟩:=a45;refine⟨⟨a1,a2,a3,a5⟩,fun i x hi hx=>?_⟩
  have h2:=bM.1 a4 i (gb.2 hi);rw[fc,hx] at h2;simpa[bw] using h2
 have hop:∀k,k<l.length->∃o,ops[k]?=some o:=fun k hk=>⟨ops[k]'(by omega),bg aH⟩
 refine⟨dJ,fun k o e ho he hb=>?_,fun k y hy hn=>?_,fun k y hy=>?_,fun k i y x hy hE hg hx hl=>?_,fun k i y x hy hsp hx hl=>?_,fun i k x y hi hx hy hm=>?_,fun i k y hy hl hi=>?_,fun i k x y hi hx hy hE hE'=>?_⟩
 ·grind
 ·grind
 ·obtain⟨o,ho⟩:=hop k (aN hy);have:=(hk k y o hy ho).1.2.1;rw[bw] at this;exact this.2
 ·obtain⟨o,ho⟩:=hop k (aN hy);have h1:=(bw _ _▸(hk k y o hy ho).1.2.2.1:_/\_).1;have h2:fenced (ri ops.toList) l k=true:=by simpa[hE,hg] using h1
  have h3:=bM.1 h2 i (gb.2 (aN hx));rw[fc,hx] at h3;simp only[hl,dQ,cQ] at h3;refine⟨fun hik=>by rw[aZ hik] at h3; exact h3,fun hki=>?_⟩
  rw[aR aH] at h3;have:¬i=k:=aH;simpa[this] using h3
 ·obtain⟨o,ho⟩:=hop k (aN hy);have h1:=(bw _ _▸(hk k y o hy ho).1.2.2.1:_/\_).2
  have h2:C2 (ri ops.toList) l k y.sep=true:=by
   grind
  have h3:=bM.1 h2 i (gb.2 (aN hx));rw[fc,hx] at h3;simp only[hl,dQ,cQ] at h3;refine⟨fun hki=>?_,fun hik=>?_⟩
  ·have hne:(i==k)=false:=gh;rw[hne,aR aH,cQ] at h3;exact h3
  ·have hne:(i==k)=false:=gh;rw[hne,aZ hik,cQ,cW] at h3;rcases h3 with h3|h3
   ·exact .inl h3
   ·right;split at h3
    ·rename_i z hz;rw[bw] at h3;exact⟨z,hz,by simpa using h3.1,h3.2⟩
    ·cases h3
 ·obtain⟨o,ho⟩:=hop k (aN hy);have:=((hk k y o hy ho).2 i x hi hx).1;simpa[hm] using this
 ·obtain⟨o,ho⟩:=hop k (aN hy);have h1:=(hk k y o hy ho).1.2.2.2;rw[hl,dQ,cQ] at h1;have h2:=bM.1 h1 i (gb.2 hi);refine⟨fun hki=>?_,fun hik=>?_⟩
  ·have hne:(i==k)=false:=gh;rw[hne,aR aH,cQ] at h2;exact h2
  ·have hne:(i==k)=false:=gh;rw[hne,aZ hik,cQ,cW] at h2;refine h2.imp id fun h3 x hx=>?_
   rw[fc,hx] at h3;simpa using h3
 ·obtain⟨o,ho⟩:=hop k (aN hy);have:=((hk k y o hy ho).2 i x hi hx).2;simpa[hE,hE'] using this
structure GV(n:Nat)(mems:Nat->aC)(E A:Nat->Bool)(L:Nat->Bool)(q:Nat)(G:aC):Prop where
 qn:q<=n
 last:q=0\/∃p,q=p+1/\E p=true/\L p=true
 rest:∀k,q<=k->k<n->E k=true->L k=false
 len:G.length=(mems q).length
 at':∀id:Nat,G[id]?=(mems q)[id]?\/(G[id]?=some .vQ/\∃k,k<q/\A k=true/\L k=false/\(mems k).length=id)
 un:∀k,k<q->A k=true->L k=false->G[(mems k).length]?=some .vQ
theorem GV.full{n:Nat}{mems:Nat->aC}{E A L:Nat->Bool}{q:Nat}{G:aC}(g:GV n mems E A L q G)(h:∀k,k<q->A k=true->L k=true):G=mems q:=by
 apply cA;intro id;rcases g.at' _ with h1|⟨_,k,h1,h2,h3,_⟩
 ·omega
 grind
theorem gj.ahk{j:J}{M:aC}{w:World}{x:ag}{v:Value}(h:gj j M w x v){id:Nat}(hid:id∈x.iG):M[id]?≠some .vQ:=by
 intro hg;cases h with
 |plain h=>cases h<;>simp[ag.iG] at hid
 |c0=>simp_all [ag.iG]
 |own hk=>grind [ag.iG]
 |agg=>grind [ag.iG]
 |tuple=>simp[ag.iG] at hid
 |ptr _ hc=>grind [ag.iG]
 |jE=>simp_all [ag.iG]
 |func=>simp_all [ag.iG]
 |iw hc=>grind [ag.iG]
 |j7 hc=>grind [ag.iG]
 |kj=>grind [ag.iG]
 |cv _ _ hM=>simp[ag.iG] at hid; subst hid; cases hM _ hg
 |ju _ _ hM=>simp[ag.iG] at hid; subst hid; cases hM _ hg
 |qX=>simp[ag.iG] at hid
 |kx hc=>grind [ag.iG]
 |any=>simp_all [ag.iG]
def wi{mems:Nat->aC}{i:Nat}:∀n,i<=n->(∀k,i<=k->k<n->mems k <+: mems (k+1))->mems i <+: mems n
 |0,hi,_=>by rw[show i=0 by omega]; simp
 |n+1,hi,h=>by
  by_cases he:i=n+1
  ·rw[he]; simp
  ·exact(wi n aH fun k h1 h2=>h k h1 aH).trans (h n aH dy)
def cn.Eh{j:J}{M:aC}{w:World}{bp env':Env}{a:Act}(h:cn j M w bp a)(he:∀t,hV env' t=hV bp t):cn j M w env' a:=⟨fun t=>by rw[he t]; exact h.at' t,h.gl⟩
theorem JU(hmix:P.follows .mixedOrders=true)(hC:nJ P C){rd:Option Nat}{nd:Nat}{id:Nat}{ops:Array Oper}{l0 l:List cV}(hl0:tQ P A ops [] ops.toList=some l0)(hg:Bt ops l0=some l)
  {bp:Env} {M:aC} {x:Out} (hx:gn C l bp M=some x) {j:J} {w:World} {a:Act} (hr:Rel j M w) (hG:sO j M w) (he:cn j M w bp a) (hs:a.tmps.size=A.n) {Q:Exit->Act->World->Prop}
  (hQ:∀a' w' j',Rel j' x.mem w'->cn j' x.mem w' x.bp a'->Ext j M w j' x.mem w'->a'.tmps.size=A.n->a'.defers=a.defers->Q (rO x.e) a' w'):(Code.region id ops true).wpIn (Wd rd) nd P Q a w:=by
 obtain⟨c1,c2⟩:=Dl hl0;have hlen0:l0.length=ops.size:=by simpa using c1
 unfold Bt at hg;split at hg
 case isFalse=>cases hg
 rename_i hok;injection hg with hg
 rw[hg] at hok;have dJ:l.length=ops.size:=by rw[<-hg,yG]; exact hlen0
 have od:=L8 dJ hok
 have hop:∀(k:Nat)(y:cV),l[k]?=some y->∃o x0 b,ops[k]?=some o/\MF P A ops b o=some x0/\y.dst=x0.dst/\y.op=x0.op/\y.guard=x0.guard:=by
  intro k y hy;rw[<-hg] at hy;obtain⟨x0,h1,h2,h3,h4⟩:=yF _ _ _ _ hy;have hk:k<ops.size:=by rw[<-hlen0]; exact aN h1
  have ho:ops[k]?=some ops[k]:=bg hk;obtain⟨x1,b,h5,h6⟩:=c2 k ops[k] (by simp[hk])
  rw[h1] at h5; cases h5;exact⟨_,x0,b,ho,h6,h2,h3,h4⟩
 obtain⟨N,vals,mems,hN,m0,st,hxe⟩:=trace hx
 let E:Nat->Bool:=fun k=>match l[k]? with|some y=>y.ud|none=>false
 have hE:∀ {k:Nat} {y:cV},l[k]?=some y->E k=y.ud:=fun {k y} h=>by simp only[E,h]
 have hEs:∀ {k:Nat},E k=true->∃y,l[k]?=some y/\y.ud=true:=fun {k} h=>by
  simp only[E] at h;split at h
  ·exact⟨_,by assumption,h⟩
  ·cases h
 -- memory stays at what is no effect,and grows at what may
 have stays:∀k,k<N->E k=false->mems (k+1)=mems k:=by
  intro k hkN hEk;have hk:k<l.length:=aH;have hy:=ai hk;rw[hE hy] at hEk;rcases st k _ hkN hy with ⟨_,h⟩|⟨_,_,_,_,_,h⟩
  ·rcases rY h with ⟨hn,hi,h1⟩|⟨hn,_,h1⟩|⟨hn,_,_,h1⟩
   ·exact(H8 (od.alone k _ hy hn) h1 hi).1
   all_goals
    have hE0:l[k].op.QI=false:=by simpa[cV.ud,hn] using hEk
    cases hl:l[k].op.QJ with
    |true=>exact(Jy hl h1).1
    |false=>exact(NM hE0 hl h1).1
  ·exact h
 have grows:∀k (y:cV),k<N->l[k]?=some y->y.ud=true->y.grow=true->mems k <+: mems (k+1)\/(y.sep≠[]/\zl (oX bp l vals (fun _=>true) k) (mems k) (mems (k+1)) y.sep):=by
  intro k y hkN hy hEy hgr;rcases st k y hkN hy with ⟨_,h⟩|⟨_,_,_,_,_,h⟩
  ·rcases rY h with ⟨hn,_,_⟩|⟨_,hg',_⟩|⟨_,_,hp,_⟩
   ·simp[cV.ud,hn] at hEy
   ·rw[hgr] at hg'; cases hg'
   ·exact hp
  ·rw[h]; exact .inl (lU _)
 let A0:Nat->Bool:=Ca ops l
 have hA:∀k,k<N->A0 k=true->∃(y:cV) (o:Oper) (V:Nat->ag) (B:cI),l[k]?=some y/\ops[k]?=some o/\y.guard=none/\E k=true/\vals k=V (mems k).length/\mems (k+1)=mems k++[B]/\(V (mems k).length).jn=false /\
   ∀ {env':Env} {j:J} {G:aC} {w:World} {a:Act} {p:Nat} {K:Act->World->Prop} {KP:Value->World->Prop},(∀t,t∈y.op.ma->hV env' t=hV (oX bp l vals (fun _=>true) k) t)->Rel j G w->sO j G w->cn j G w env' a->G[p]?=some .vQ ->
    (∀v w',iR j G w (V p,G.set p B) v w'->K (a.put o.dst v) w')->tM P o a w K KP:=by
  intro k hkN hAk;have hk:k<l.length:=aH;obtain⟨y,hy⟩:∃y,l[k]?=some y:=⟨_,ai hk⟩;obtain⟨o,ho⟩:∃o,ops[k]?=some o:=⟨_,bg aH⟩;obtain⟨o',x0,b,ho',hco,f1,f2,f3⟩:=hop k _ hy;rw[ho] at ho'; cases ho';obtain⟨g1,_⟩:=AN hco;rw[<-f2] at g1;simp only[A0,Ca,ho,fc,hy,bw,Option.isNone_iff_eq_none] at hAk;obtain⟨k2,k3⟩:=hAk
  have h1:ef C (oX bp l vals (fun _=>true) k) (mems k) y.op=some (vals k,mems (k+1)):=by
   rcases st k y hkN hy with ⟨_,h⟩|⟨t',want,h,_⟩
   ·rcases rY h with ⟨_,_,h1⟩|⟨_,_,h1⟩|⟨_,_,_,h1⟩<;>exact h1
   ·rw[k3] at h; cases h
  have hnm:y.op.xe=false->y.xv=false:=fun hc=>by
   cases hn:y.xv with
   |false=>rfl
   |true=>have:=od.alone k y hy hn; rw[hc] at this; cases this
  split at k2
  ·rename_i cs hcs;split at k2
   case h_2=>cases k2
   rename_i t hot;have hn:=hnm (by rw[hcs]; rfl)
   rw[hcs] at h1 g1;simp only[ef] at h1;injection h1 with h1
   refine⟨y,o,fun p => .ptr p 0,.cells cs,hy,ho,k3,by rw[hE hy]; simp[cV.ud,hn,hcs,kD.QI],(congrArg Prod.fst h1).symm,(congrArg Prod.snd h1).symm,rfl,fun {env' j G w a p K KP} _ hr hG he hp hK=>?_⟩
   obtain⟨us,tt,hRC,hRan⟩:=Oy hot g1 a w;exact .inl ⟨_,_,hRan,hK _ _ (IP hr hp (hRC _ _ _) tt)⟩
  ·rename_i z hcs;split at k2
   case h_2=>cases k2
   rename_i t yy hot;have hn:=hnm (by rw[hcs]; rfl)
   rw[hcs] at h1 g1;simp only[ef] at h1;obtain⟨cs,hcc,h1⟩:=bo h1;injection h1 with h1
   have hz:eV yy=some z:=by
    simp only[OO,hot] at g1;obtain⟨z',hz',g1⟩:=bf g1;injection g1 with g1; cases g1
    exact hz'
   refine⟨y,o,fun p => .ptr p 0,.cells cs,hy,ho,k3,by rw[hE hy]; simp[cV.ud,hn,hcs,kD.QI],(congrArg Prod.fst h1).symm,(congrArg Prod.snd h1).symm,rfl,fun {env' j G w a p K KP} hag hr hG he hp hK=>?_⟩
   have hev:=cF (x:=z) (fun t ht=>hag t (by rw[hcs]; exact ht))
   exact .inl ⟨_,_,.inl (by simp[execOp,hot,Instr.box,newVar,newRow]),hK _ _ (IP hr hp (tz (cN he hz) (by rw[hev]; exact hcc)) t)⟩
  ·rename_i f args hcs;split at k2
   case h_2=>cases k2
   rename_i c hot;split at k2
   case h_2=>cases k2
   rename_i f0 hcal;have hn:=hnm (by rw[hcs]; rfl)
   rw[hcs] at h1 g1;obtain⟨xs,sz,n,hx0,_⟩:=yR hC hot hcal g1 h1;refine⟨y,o,fun p => .slice (.own p) xs,.tick sz n,hy,ho,k3,by rw[hE hy]; simp[cV.ud,hn,hcs,kD.QI],congrArg Prod.fst hx0,congrArg Prod.snd hx0,rfl,fun {env' j G w a p K KP} hag hr hG he hp hK=>?_⟩
   have h2:ef C env' (mems k) (.wy f args)=some (vals k,mems (k+1)):=by
    rw[(Fp (C:=C) (M:=mems k) (op := .wy f args) fun t ht=>hag t (by rw[hcs]; exact ht)).1]
    exact h1
   obtain⟨xs',sz',n',hx1,hrun⟩:=yR hC hot hcal g1 h2;rw[hx0] at hx1;injection hx1 with e1 e2
   injection e1 with _ e1
   have e3:=List.append_cancel_left e2;injection e3 with e3 _
   injection e3 with e3 e4
   subst e1; subst e3; subst e4;exact hrun hr hG he hp hK
  ·cases k2
 have hAE:∀k,k<N->A0 k=true->E k=true:=fun k hk h=>by
  obtain⟨y,o,V,B,_,_,_,h1,_⟩:=hA k hk h;exact h1
 -- where nothing but boxes is made memory grows
 have pref:∀a b,a<=b->b<=N->(∀k,a<=k->k<b->E k=true->A0 k=true)->mems a <+: mems b:=fun a b hab hb hk=>wi b hab fun k h1 h2=>by
  cases hEk:E k with
  |false=>rw[stays k aH hEk]; exact lU _
  |true =>
   obtain⟨y,o,V,B,_,_,_,_,_,h3,_⟩:=hA k aH (hk k h1 h2 hEk);rw[h3]; exact List.prefix_append _ _
 have same:∀a b,a<=b->b<=N->(∀k,a<=k->k<b->E k=false)->mems b=mems a:=by
  intro a b hab;induction b with
  |zero=>intro _ _; rw[show a=0 by omega]
  |succ b ih =>
   intro hb hk
   by_cases he:a=b+1
   ·rw[he]
   ·rw[stays b aH (hk b aH aH),ih aH aH fun k h1 h2=>hk k h1 aH]
 -- where a box of that length is made
 have posn:∀a b,a<=b->b<=N->(∀k,a<=k->k<b->E k=true->A0 k=true)->∀id,(mems a).length<=id->id<(mems b).length->∃k,a<=k/\k<b/\A0 k=true/\(mems k).length=id:=by
  intro a b hab;induction b with
  |zero=>intro _ _ id h1 h2; rw[show a=0 by omega] at h1; omega
  |succ b ih =>
   intro hb hk id h1 h2
   by_cases he:a=b+1
   ·rw[he] at h1; omega
   ·cases hEb:E b with
    |false =>
     rw[stays b aH hEb] at h2;obtain⟨k,g1,g2,g3⟩:=ih aH aH (fun k h1 h2=>hk k h1 aH) id h1 h2
     exact⟨k,g1,aH,g3⟩
    |true =>
     have hAb:=hk b aH aH hEb;obtain⟨y,o,V,B,_,_,_,_,_,h3,_⟩:=hA b aH hAb;rw[h3] at h2;simp only[aA,aw,az] at h2
     by_cases hid:id<(mems b).length
     ·obtain⟨k,g1,g2,g3⟩:=ih aH aH (fun k h1 h2=>hk k h1 aH) id h1 hid
      exact⟨k,g1,aH,g3⟩
     ·exact⟨b,aH,aH,hAb,aH⟩
 refine wpIn_region_any hmix ?_
 have key:∀(fuel:Nat)(listed:Array Bool)(a1:Act)(w1:World),listed.size=ops.size->left (fun k=>listed.getD k false) l.length=fuel->Down ops (fun k=>listed.getD k false)->(∀k,k<l.length->listed.getD k false=true->k<N/\(vals k).jn=false) ->
   (∃j1 q G,GV l.length mems E A0 (fun k=>listed.getD k false) q G/\Rel j1 G w1/\cn j1 G w1 (oX bp l vals (fun k=>listed.getD k false) l.length) a1 /\
    Ext j M w j1 G w1/\a1.tmps.size=A.n/\a1.defers=a.defers)->wpAnyIn (Wd rd) nd P .any ops Q fuel listed a1 w1:=by
  have ends:∀(listed:Array Bool)(a1:Act)(w1:World),(∀k,k<l.length->listed.getD k false=true) ->
    (∃j1 q G,GV l.length mems E A0 (fun k=>listed.getD k false) q G/\Rel j1 G w1/\cn j1 G w1 (oX bp l vals (fun k=>listed.getD k false) l.length) a1 /\
    Ext j M w j1 G w1/\a1.tmps.size=A.n/\a1.defers=a.defers)->(∀k,k<l.length->listed.getD k false=true->k<N/\(vals k).jn=false)->Q .normal a1 w1:=by
   intro listed a1 w1 hall hI hin;obtain⟨j1,q,G,gp,r1,e1,x1,s1,d1⟩:=hI;rcases hxe with ⟨n1,_,n3⟩|⟨n,y,v,n1,n2,_,n4,_,_⟩
   ·have hm:G=mems l.length:=by
     have hqn:=gp.qn;rw[gp.full fun k hk _=>hall k aH,same q l.length gp.qn aH fun k h1 h2=>?_]
     cases hEk:E k with
     |false=>rfl
     |true =>
      have:=gp.rest k h1 h2 hEk;rw[hall k h2] at this; cases this
    rw[hm] at r1 e1 x1;rw[n3,n1] at hQ;exact hQ a1 w1 j1 r1 (e1.Eh fun t=>x4 _ fun k hk _=>(hall k hk).symm) x1 s1 d1
   ·have hnl:=aN n2;have:=(hin n hnl (hall n hnl)).2;rw[n4] at this; cases this
  intro fuel;induction fuel with
  |zero =>
   intro listed a1 w1 hsz hleft hd hin hI;have hall:=F9 hleft;refine⟨?_,ends listed a1 w1 hall hI hin⟩;apply List.eq_nil_iff_forall_not_mem.2;intro i hi;obtain⟨h1,oi,h2,_⟩:=mem_ready.1 hi;have hil:i<l.length:=by rw[dJ]; exact(fJ.1 h2).1
   have h3:=hall i hil;simp only[dq] at h1 h3;have:i<listed.size:=aH;rw[bg this] at h1 h3;simp at h1 h3;rw[h1] at h3; cases h3
  |succ fuel ih =>
   intro listed a1 w1 hsz hleft hd hin hI;refine⟨fun hnil=>?_,fun i hi=>?_⟩
   ·refine ends listed a1 w1 ?_ hI hin;intro k;induction k using Nat.strongRecOn with
    |_ k ihk =>
     intro hk;cases hL:listed.getD k false with
     |true=>rfl
     |false =>
      exfalso;have hks:k<ops.size:=aH;have ho:ops[k]?=some ops[k]:=bg hks
      have:k∈Region.ready .any ops listed:=by
       refine mem_ready.2 ⟨?_,_,ho,fun e he hb=>?_⟩
       ·simp only[dq] at hL ⊢;have hkl:k<listed.size:=aH;rw[bg hkl] at hL ⊢;simpa using hL
       ·have:=od.YG k _ e ho (by simpa using he) hb
        exact ihk e.on this aH
      rw[hnil] at this;cases this
   ·obtain⟨hun0,o,ho,hall⟩:=mem_ready.1 hi;obtain⟨j1,q,G,gp,r1,e1,x1,s1,d1⟩:=hI;have his:i<ops.size:=(fJ.1 ho).1;have hil:i<l.length:=aH;have hils:i<listed.size:=aH
    have hLi:listed.getD i false=false:=by
     simp only[dq] at hun0 ⊢;rw[bg hils] at hun0 ⊢;simpa using hun0
    have hL'i:(listed.setIfInBounds i true).getD i false=true:=by
     simp only[dq,gY,hils,aJ];rfl
    have hL'ne:∀k,k≠i->(listed.setIfInBounds i true).getD k false=listed.getD k false:=fun k hk=>by
     simp only[dq,fE (eW hk)]
    have hy:=ai hil;obtain⟨o',x0,b,ho',hco,f1,f2,f3⟩:=hop i _ hy;rw[ho] at ho'; cases ho';obtain⟨g1,g2,_,g4,g5⟩:=AN hco;rw[<-f2] at g1;rw[<-f1] at g2;rw[<-f3] at g5;generalize hyy:l[i]=y at *;have hall':∀e,e∈o.after.toList->Region.binds .any e=true->listed.getD e.on false=true:=fun e h1 h2=>hall e (by simpa using h1) h2
    have rdy:∀k,ahead (ri ops.toList) k i=true->listed.getD k false=true:=fun k h=>H7 (L:=fun k=>listed.getD k false) hd od.YG ho hall' h
    have nol:∀k,k<l.length->ahead (ri ops.toList) i k=true->listed.getD k false=false:=fun k hk h=>by
     cases hL:listed.getD k false with
     |false=>rfl
     |true =>
      have:=Db (L:=fun k=>listed.getD k false) hd od.YG k h aH hL
      rw[hLi] at this; cases this
    have hiN:i<N:=by
     rcases bz i N with h|h
     ·exact h
     rcases hxe with ⟨n1,_,_⟩|⟨n,y',v,n1,n2,n3,n4,_,_⟩
     ·omega
     ·have h5:=rdy n ((od.stop i n y' n2 n3 hil).1 aH);have:=(hin n (aN n2) h5).2;rw[n4] at this; cases this
    have agree:∀t,t∈y.reads->hV (oX bp l vals (fun k=>listed.getD k false) l.length) t=hV (oX bp l vals (fun _=>true) i) t:=by
     intro t ht;refine(vt l.length (Nat.le_of_lt hil) fun k h1 h2=>?_).trans (x4 i fun k hk hw=>?_)
     ·rintro⟨⟨x',hx',hdx⟩,hLk⟩
      by_cases hki:k=i
      ·subst hki; rw[hLi] at hLk; cases hLk
      ·have hm:meet y x'=true:=by simp[meet,hdx,ht]
       rw[nol k h2 (od.meet i k y x' aH hy hx' hm)] at hLk;cases hLk
     ·obtain⟨x',hx',hdx⟩:=hw;have hm:meet x' y=true:=by simp[meet,hdx,ht]
      exact rdy k (od.meet k i x' y hk hx' hy hm)
    have newEnv:∀t,hV (oX bp l vals (fun k=>(listed.setIfInBounds i true).getD k false) l.length) t=hV (rG (oX bp l vals (fun k=>listed.getD k false) l.length) y.dst (vals i)) t:=by
     intro t
     by_cases hdt:y.dst=some t
     ·rw[hdt];simp only[rG,hV,aJ];rw[vt (i:=i+1) l.length aH fun k h1 h2=>?_]
      ·exact MQ i ⟨y,hy,hdt⟩ hL'i
      ·rintro⟨⟨x',hx',hdx⟩,hLk⟩;rw[hL'ne k aH] at hLk;have hm:meet y x'=true:=by simp[meet,hdt,hdx]
       rw[nol k h2 (od.meet i k y x' aH hy hx' hm)] at hLk;cases hLk
     ·have e2:hV (rG (oX bp l vals (fun k=>listed.getD k false) l.length) y.dst (vals i)) t=hV (oX bp l vals (fun k=>listed.getD k false) l.length) t:=by
       unfold rG;split
       ·rename_i d hd';rw[hV,aR];rintro rfl;exact hdt hd'
       ·rfl
      rw[e2];refine x4 _ fun k _ hw=>hL'ne k ?_
      rintro rfl;obtain⟨x',hx',hdx⟩:=hw;rw[hy] at hx'; cases hx';exact hdt hdx
    have hqN:q<=N:=by
     rcases gp.last with h|⟨p,hp1,hp2,hp3⟩
     ·omega
     ·obtain⟨z0,hz0,_⟩:=hEs hp2;have:=(hin p (aN hz0) hp3).1;omega
    -- effects that are ordered
    have effA:∀a b,a<b->E a=true->E b=true->(A0 a=false\/A0 b=false)->ahead (ri ops.toList) a b=true:=by
     intro a b hab ha hb hn;obtain⟨x',hx',hE'⟩:=hEs ha;obtain⟨y',hy',hE2⟩:=hEs hb;rcases od.eff a b x' y' hab hx' hy' hE' hE2 with h|⟨h1,h2⟩
     ·exact h
     ·rcases hn with hn|hn
      ·rw[show A0 a=true from h1] at hn; cases hn
      ·rw[show A0 b=true from h2] at hn; cases hn
    have inL:∀a b,b<l.length->ahead (ri ops.toList) a b=true->listed.getD b false=true->listed.getD a false=true:=fun a b hb h1 h2=>Db (L:=fun k=>listed.getD k false) hd od.YG b h1 aH h2
    -- what is between one that is not done and the last that is
    have betw:∀k,k<q->E k=true->A0 k=true->listed.getD k false=false->∀m,k<=m->m<q->E m=true->A0 m=true:=by
     intro k hkq hEk hAk hLk m h1 h2 hEm;cases hAm:A0 m with
     |true=>rfl
     |false =>
      exfalso;rcases gp.last with h|⟨p,hp1,hp2,hp3⟩
      ·omega
      have hqn:=gp.qn
      have hkm:k<m:=by
       rcases bz k m with h|h
       ·exact h
       ·have:k=m:=aH;subst this; rw[hAk] at hAm; cases hAm
      have a1:=effA k m hkm hEk hEm (.inr hAm)
      have hLm:listed.getD m false=true:=by
       by_cases hmp:m=p
       ·rw[hmp]; exact hp3
       ·exact inL m p aH (effA m p aH hEm hp2 (.inl hAm)) hp3
      rw[inL k m aH a1 hLm] at hLk; cases hLk
    have gC:E i=false->GV l.length mems E A0 (fun k=>(listed.setIfInBounds i true).getD k false) q G:=by
     intro hEi;have hne:∀k,E k=true->(listed.setIfInBounds i true).getD k false=listed.getD k false:=fun k hk=>hL'ne k (by rintro rfl; rw[hEi] at hk; cases hk)
     refine⟨gp.qn,gp.last.imp (fun h=>h) fun⟨p,h1,h2,h3⟩=>⟨p,h1,h2,by simp only[hne p h2]; exact h3⟩,fun k h1 h2 h3=>by simp only[hne k h3]; exact gp.rest k h1 h2 h3,gp.len,fun id=>?_,fun k h1 h2 h3=>?_⟩
     ·rcases gp.at' id with h|⟨h,k,h1,h2,h3,h4⟩
      ·exact .inl h
      ·exact .inr ⟨h,k,h1,h2,by simp only[hne k (hAE k aH h2)]; exact h3,h4⟩
     ·simp only[hne k (hAE k aH h2)] at h3;exact gp.un k h1 h2 h3
    have gB:E i=true->A0 i=false->G=mems i/\GV l.length mems E A0 (fun k=>(listed.setIfInBounds i true).getD k false) (i+1) (mems (i+1)):=by
     intro hEi hAi
     have hqi:q<=i:=by
      rcases gp.last with h|⟨p,hp1,hp2,hp3⟩
      ·omega
      ·have hqn:=gp.qn;rcases bz i p with h|h
       ·rw[inL i p aH (effA i p h hEi hp2 (.inl hAi)) hp3] at hLi; cases hLi
       ·by_cases hip:i=p
        ·subst hip; simp only[hLi] at hp3; cases hp3
        ·omega
     have done:∀k,k<i->E k=true->listed.getD k false=true:=fun k hk hEk=>rdy k (effA k i hk hEk hEi (.inr hAi))
     refine⟨?_,aH,.inr ⟨i,rfl,hEi,hL'i⟩,fun k h1 h2 h3=>by simp only[hL'ne k (show k≠i by omega)]; exact gp.rest k aH h2 h3,rfl,fun id => .inl rfl,fun k h1 h2 h3=>?_⟩
     ·rw[gp.full fun k hk hAk=>done k aH (hAE k aH hAk)]
      refine(same q i hqi aH fun k h1 h2=>?_).symm
      cases hEk:E k with
      |false=>rfl
      |true =>
       have:=gp.rest k h1 aH hEk;simp only[done k h2 hEk] at this; cases this
     ·have hki:k≠i:=by rintro rfl; rw[hAi] at h2; cases h2
      simp only[hL'ne k hki,done k aH (hAE k aH h2)] at h3;cases h3
    have down':Down ops (fun k=>(listed.setIfInBounds i true).getD k false):=by
     intro k p e hp hL he' hb
     have hsome:listed.getD e.on false=true:=by
      by_cases hki:k=i
      ·subst hki;rw[ho] at hp; cases hp;exact hall' e he' hb
      ·exact hd k p e hp (by show listed.getD k false=true; rw[<-hL'ne k hki]; exact hL) he' hb
     show(listed.setIfInBounds i true).getD e.on false=true
     by_cases hei:e.on=i
     ·rw[hei]; exact hL'i
     ·rw[hL'ne _ hei]; exact hsome
    have Cd:left (fun k=>(listed.setIfInBounds i true).getD k false) l.length=fuel:=by
     have:=Ju (L:=fun k=>listed.getD k false) (L':=fun k=>(listed.setIfInBounds i true).getD k false) (i:=i) hLi hL'i (fun k hk=>hL'ne k hk) l.length
     rw[aZ hil] at this;omega
    have hin':(vals i).jn=false->∀k,k<l.length->(listed.setIfInBounds i true).getD k false=true->k<N/\(vals k).jn=false:=by
     intro hnp k hk hL
     by_cases hki:k=i
     ·rw[hki]; exact⟨hiN,hnp⟩
     ·rw[hL'ne k hki] at hL; exact hin k hk hL
    have hgslot:∀t want,y.guard=some (t,want)->t∈y.reads:=fun t want h=>by simp[cV.reads,h]
    have hopslot:∀t,t∈y.op.ma->t∈y.reads:=fun t h=>by simp[cV.reads,h]
    unfold wpOpIn;rw[ho];simp only;rcases st i y hiN hy with ⟨hgd,hstep⟩|⟨t,want,hgt,hgv,hv0,hm0⟩
    ·rw[aZ (zn e1 s1 g5 fun t want h=>by rw[agree t (hgslot t want h)]; exact hgd t want h)]
     cases hAi:A0 i with
     |true =>
      obtain⟨y',o',V,B,n1,n2,n3,hEi,n6,n7,npan,hruns⟩:=hA i hiN hAi;rw[hy] at n1; cases n1;rw[ho] at n2; cases n2;have hag:∀t,t∈y.op.ma->hV (oX bp l vals (fun k=>listed.getD k false) l.length) t=hV (oX bp l vals (fun _=>true) i) t:=fun t ht=>agree t (hopslot t ht)
      have fin:∀q' G' G1 j1' p,GV l.length mems E A0 (fun k=>(listed.setIfInBounds i true).getD k false) q' G'->Rel j1' G1 w1->Ext j1 G w1 j1' G1 w1->G1[p]?=some .vQ->p=(mems i).length->G'=G1.set p B ->
        o.wpIn (Wd rd) nd P a1 w1 (wpAnyIn (Wd rd) nd P .any ops Q fuel (listed.setIfInBounds i true)) Q:=by
       intro q' G' G1 j1' p hG' hr1 hx1 hp hpe hGe;refine tM.wpIn (KP:=fun _ _=>False) (Aa g1) (hruns hag hr1 ((hG.mono x1).mono hx1) (e1.mono hx1) hp ?_) fun u w' h=>h.elim
       rintro v w' ⟨j',p1,p2,p3⟩;rw[<-hGe] at p1 p2 p3;simp only at p1 p2 p3;refine ih (listed.setIfInBounds i true) _ _ (by simpa using hsz) Cd down' (hin' (by rw[n6]; exact npan)) ⟨j',q',G',hG',p1,?_,x1.trans (hx1.trans p2),by rw[xC]; exact s1,by rw[put_defers]; exact d1⟩
       refine cn.Eh ?_ newEnv;rw[g2,n6,<-hpe];exact(e1.mono (hx1.trans p2)).put s1 g4 p3
      rcases bz i q with hiq|hqi
      ·-- its place is there
       have hu:=gp.un i hiq hAi hLi;have hpi:=pref (i+1) q aH hqN fun k h1 h2=>betw i hiq hEi hAi hLi k aH h2
       have hat:(mems q)[(mems i).length]?=some B:=by
        obtain⟨t',ht'⟩:=hpi;rw[<-ht',n7,bZ,bj (au _)];simp
       refine fin q (G.set (mems i).length B) G j1 (mems i).length ⟨gp.qn,?_,fun k h1 h2 h3=>by simp only[hL'ne k (show k≠i by omega)]; exact gp.rest k h1 h2 h3,by simpa using gp.len,fun id=>?_,fun k h1 h2 h3=>?_⟩ r1 (Ext.refl _ _ _) hu rfl rfl
       ·refine gp.last.imp (fun h=>h) fun⟨p,h1,h2,h3⟩=>⟨p,h1,h2,?_⟩
        have hpi:p≠i:=by rintro rfl; simp only[hLi] at h3; cases h3
        simp only[hL'ne p hpi]; exact h3
       ·by_cases hid:(mems i).length=id
        ·subst hid;rw[ec (aN hu)];exact .inl hat.symm
        ·rw[cJ hid];rcases gp.at' id with h|⟨h,k,h1,h2,h3,h4⟩
         ·exact .inl h
         ·have hki:k≠i:=by rintro rfl; exact hid h4
          refine .inr ⟨h,k,h1,h2,?_,h4⟩;simp only[hL'ne k hki]; exact h3
       ·have hki:k≠i:=by rintro rfl; simp only[hL'i] at h3; cases h3
        simp only[hL'ne k hki] at h3
        have hne:(mems i).length≠(mems k).length:=by
         rcases bz k i with h|h
         ·obtain⟨_,_,_,_,_,_,_,hEk,_,m7,_⟩:=hA k aH h2;have:=(pref (k+1) i aH aH fun m g1 g2=>betw k h1 hEk h2 h3 m aH aH).length_le
          rw[m7] at this;simp at this; omega
         ·have:=(pref (i+1) k aH aH fun m g1 g2=>betw i hiq hEi hAi hLi m aH aH).length_le
          rw[n7] at this;simp at this; omega
        rw[cJ hne];exact gp.un k h1 h2 h3
      ·-- behind all that is made
       have allA:∀k,q<=k->k<i->E k=true->A0 k=true:=fun k h1 h2 h3=>by
        cases hAk:A0 k with
        |true=>rfl
        |false =>
         have:=gp.rest k h1 aH h3;simp only[rdy k (effA k i h2 h3 hEi (.inl hAk))] at this; cases this
       have hpi:=pref q i hqi aH allA;have hle:=hpi.length_le;have hln:=gp.len;have hsum:G.length+((mems i).length-(mems q).length)=(mems i).length:=aH;obtain⟨j1',hr1,hx1⟩:=Bz r1 ((mems i).length-(mems q).length+1);have hgl:(G++List.replicate ((mems i).length-(mems q).length) cI.vQ).length=(mems i).length:=gh;have hG1:G++List.replicate ((mems i).length-(mems q).length+1) cI.vQ=(G++List.replicate ((mems i).length-(mems q).length) cI.vQ)++[cI.vQ]:=by rw[nM,<-bZ]
       have hg1:(G++List.replicate ((mems i).length-(mems q).length+1) cI.vQ)[(mems i).length]?=some .vQ:=by
        rw[bj aH,iU,aZ aH]
       have hset:∀(A:aC)(m:Nat),A.length=m->A++[B]=(A++[cI.vQ]).set m B:=fun A m h=>by subst h; simp
       have hg2:G++List.replicate ((mems i).length-(mems q).length) cI.vQ++[B]=(G++List.replicate ((mems i).length-(mems q).length+1) cI.vQ).set (mems i).length B:=by
        rw[hG1]; exact hset _ _ hgl
       refine fin (i+1) (G++List.replicate ((mems i).length-(mems q).length) cI.vQ++[B]) _ j1' (mems i).length ⟨aH,.inr ⟨i,rfl,hEi,hL'i⟩,fun k h1 h2 h3=>by simp only[hL'ne k (show k≠i by omega)]; exact gp.rest k aH h2 h3,by rw[n7]; simp; omega,fun id=>?_,fun k h1 h2 h3=>?_⟩ hr1 hx1 hg1 rfl hg2
       ·rcases bz id G.length with h|h
        ·have e1:(G++List.replicate ((mems i).length-(mems q).length) cI.vQ++[B])[id]?=G[id]?:=by
          rw[bZ,aO h]
         have e2:(mems (i+1))[id]?=(mems q)[id]?:=by
          obtain⟨t',ht'⟩:=hpi;rw[n7,<-ht',bZ,aO aH]
         rw[e1,e2];rcases gp.at' id with h|⟨h,k,h1,h2,h3,h4⟩
         ·exact .inl h
         ·exact .inr ⟨h,k,aH,h2,by simp only[hL'ne k (show k≠i by omega)]; exact h3,h4⟩
        ·rcases bz id (mems i).length with h'|h'
         ·refine .inr ⟨?_,?_⟩
          ·rw[aO gh,bj h,iU,aZ aH]
          ·obtain⟨k,k1,k2,k3,k4⟩:=posn q i hqi aH allA id aH h';exact⟨k,aH,k3,by simp only[hL'ne k (show k≠i by omega)]; exact gp.rest k k1 aH (hAE k aH k3),k4⟩
         ·left;rw[n7,bj gh,bj h'];congr 1;simp; omega
       ·have hki:k≠i:=by rintro rfl; simp only[hL'i] at h3; cases h3
        simp only[hL'ne k hki] at h3;rcases bz k q with h|h
        ·have hu:=gp.un k h h2 h3;rw[bZ,aO (aN hu)];exact hu
        ·obtain⟨_,_,_,_,_,_,_,hEk,_,m7,_⟩:=hA k aH h2;have b1:=(pref (k+1) i aH aH fun m g1 g2=>allA m aH g2).length_le
         have b2:=(pref q k h aH fun m g1 g2=>allA m g1 aH).length_le
         rw[m7] at b1;simp at b1;rw[aO gh,bj aH,iU,aZ aH]
     |false =>
     have hex:∃q' G',ef C (oX bp l vals (fun k=>listed.getD k false) l.length) G y.op=some (vals i,G')/\GV l.length mems E A0 (fun k=>(listed.setIfInBounds i true).getD k false) q' G'/\(y.lets=true->G'=mems (i+1)):=by
      have pan0:E i=false->y.lets=true->G=mems (i+1):=by
       intro hEi cG
       have hqi:q<=i:=by
        rcases gp.last with h|⟨p,hp1,hp2,hp3⟩
        ·omega
        ·have hqn:=gp.qn;rcases bz i p with h|h
         ·rw[inL i p aH ((od.stop p i y hy cG aH).1 h) hp3] at hLi; cases hLi
         ·by_cases hip:i=p
          ·subst hip; simp only[hLi] at hp3; cases hp3
          ·omega
       have done:∀k,k<i->E k=true->listed.getD k false=true:=fun k hk hEk=>by
        obtain⟨x',hx',hE'⟩:=hEs hEk;rcases(od.stop k i y hy cG aH).2 hk with h4|h4
        ·exact rdy k h4
        ·have:=h4 x' hx';simp[cV.ud,this] at hE'
       rw[stays i hiN hEi,gp.full fun k hk hAk=>done k aH (hAE k aH hAk)]
       refine(same q i hqi aH fun k h1 h2=>?_).symm
       cases hEk:E k with
       |false=>rfl
       |true =>
        have:=gp.rest k h1 aH hEk;simp only[done k h2 hEk] at this; cases this
      obtain⟨q1,q2⟩:=Fp (C:=C) (M:=G) (op:=y.op) fun t ht=>agree t (hopslot t ht)
      rw[q1];rcases rY hstep with ⟨hn,hids,h1⟩|⟨hn,hgr,h1⟩|⟨hn,hgr,hp,h1⟩
      ·have hEi:E i=false:=by rw[hE hy]; simp[cV.ud,hn]
       exact⟨q,G,(H8 (od.alone i y hy hn) h1 hids).2 _,gC hEi,pan0 hEi⟩
      all_goals
       cases hEo:y.op.QI with
       |true =>
        have hEi:E i=true:=by rw[hE hy]; simp[cV.ud,hn,hEo]
        obtain⟨k1,k2⟩:=gB hEi hAi;exact⟨i+1,mems (i+1),by rw[k1]; exact h1,k2,fun _=>rfl⟩
       |false =>
        have hEi:E i=false:=by rw[hE hy]; simp[cV.ud,hEo]
        refine⟨q,G,?_,gC hEi,pan0 hEi⟩;cases hlo:y.op.QJ with
        |false=>exact(NM hEo hlo h1).2 _
        |true =>
         -- a load: the memory of the moment and that of the text agree at its box
         have hz:∃z,(y.op = .rD z\/(∃n,y.op = .mN n z)\/∃fk zr ok k,y.op = .look fk zr ok z k)/\∀t,t∈z.ma->t∈y.op.ma:=by
          generalize y.op=op at hlo;cases op<;>simp only[kD.QJ,af] at hlo
          case mN n z=>exact⟨z,.inr (.inl ⟨n,rfl⟩),fun t h=>h⟩
          case look fk zr ok z k=>exact⟨z,.inr (.inr ⟨fk,zr,ok,k,rfl⟩),fun t h=>by simp[kD.ma,h]⟩
          case rD z=>exact⟨z,.inl rfl,fun t h=>h⟩
         obtain⟨z,hz1,hz2⟩:=hz
         have hrep:∃v,gj j1 G w1 (z.ev (oX bp l vals (fun _=>true) i)) v:=by
          rw[<-cF (x:=z) fun t ht=>agree t (hopslot t (hz2 t ht))]
          cases z with
          |tmp t=>exact⟨_,e1.at' t⟩
          |sY c =>
           have:=od.opl i y hy;rcases hz1 with hz1|⟨n,hz1⟩|⟨_,_,_,_,hz1⟩<;>(rw[hz1] at this; cases this)
         obtain⟨v,hv⟩:=hrep
         have hsame:∀id b,id∈(z.ev (oX bp l vals (fun _=>true) i)).iG->id<G.length->nth (mems i) id=some b->nth G id=some b:=by
          intro id bx hidz hidl hbx;have hq3:=gp.rest;have hq4:=gp.last;have hqn:=gp.qn;rw[gp.len] at hidl
          have hG0:nth G id=nth (mems q) id:=by
           rw[fc,fc];rcases gp.at' id with h|⟨h,_⟩
           ·exact h
           ·exact absurd h (hv.ahk hidz)
          rw[hG0];have hni:E i=false:=by rw[hE hy]; simp[cV.ud,hEo]
          by_cases hqi:q<=i
          ·refine JS (.inr (wi i hqi fun k h2 h3=>?_)) hidl hbx
           cases hEk:E k with
           |false=>rw[stays k aH hEk]; exact lU _
           |true =>
            obtain⟨y',hz1',hz2'⟩:=hEs hEk
            have hunl:¬listed.getD k false=true:=by
             have h5:=hq3 k h2 aH hEk;rw[h5]; simp
            cases hzg:y'.grow with
            |false=>exact absurd (rdy k ((od.ab2 k i y' y hz1' hz2' hzg hy hlo).2 h3)) hunl
            |true =>
             rcases grows k y' aH hz1' hz2' hzg with hg'|⟨hsp,_⟩
             ·exact hg'
             ·exact absurd (rdy k ((od.sep k i y' y hz1' hsp hy hlo).1 h3)) hunl
          ·have chain:∀n,i<=n->n<=q->nth (mems n) id=some bx:=by
            intro n;induction n with
            |zero=>intro h0 _; rw[show 0=i by omega]; exact hbx
            |succ n ihn =>
             intro h0 h0'
             by_cases he:i=n+1
             ·rw[<-he]; exact hbx
             ·have hb':=ihn aH aH;cases hEk:E n with
              |false=>rw[stays n aH hEk]; exact hb'
              |true =>
               obtain⟨y',hz1',hz2'⟩:=hEs hEk;cases hAn:A0 n with
               |true =>
                obtain⟨_,_,_,_,_,_,_,_,_,m7,_⟩:=hA n aH hAn;rw[fc] at hb' ⊢;rw[m7,aO (aN hb')];exact hb'
               |false =>
               have hkni:n≠i:=by rintro rfl; rw[hEk] at hni; cases hni
               have hdone:listed.getD n false=true:=by
                rcases hq4 with h0|⟨p,hp1,hp2,hp3⟩
                ·omega
                ·by_cases hkp:n=p
                 ·subst hkp; exact hp3
                 ·exact inL n p aH (effA n p aH hEk hp2 (.inl hAn)) hp3
               have hnol:ahead (ri ops.toList) i n=true->False:=fun ha=>by
                have:=nol n aH ha;rw[this] at hdone; cases hdone
               cases hzg:y'.grow with
               |false=>exact absurd ((od.ab2 n i y' y hz1' hz2' hzg hy hlo).1 aH) hnol
               |true =>
                rcases grows n y' aH hz1' hz2' hzg with hg'|⟨hsp,hsa⟩
                ·obtain⟨t,ht⟩:=hg';rw[fc] at hb' ⊢;rw[<-ht,aO (aN hb')];exact hb'
                ·rcases(od.sep n i y' y hz1' hsp hy hlo).2 aH with ha|⟨zs,hzs,hmem,hnw⟩
                 ·exact(hnol ha).elim
                 ·have hslot:z = .tmp zs:=by
                   rcases hz1 with hz1|⟨m,hz1⟩|⟨_,_,_,_,hz1⟩<;>(rw[hz1] at hzs; cases z<;>simp[kD.NZ] at hzs; rw[hzs])
                  subst hslot
                  have hsame0:hV (oX bp l vals (fun _=>true) n) zs=hV (oX bp l vals (fun _=>true) i) zs:=by
                   refine vt n aH fun p hp1 hp2=>?_
                   rintro⟨⟨x',hx',hdx⟩,_⟩;have:=bM.1 hnw p (gb.2 hp2);rw[fc,hx'] at this;simp[hdx,Nat.not_lt.2 hp1] at this
                  have hat:∀ {sl:List Nat},zl (oX bp l vals (fun _=>true) n) (mems n) (mems (n+1)) sl->zs∈sl->nth (mems (n+1)) id=nth (mems n) id:=by
                   intro sl;induction sl with
                   |nil=>intro _ h; cases h
                   |cons z0 r0 ih0 =>
                    intro hs hm;rcases bI.1 hm with rfl|hm
                    ·have h6:=hs.1;rw[hsame0] at h6;simp only[fV.ev] at hidz;split at h6
                     ·rename_i id' off' he';rw[he'] at hidz;simp[ag.iG] at hidz;subst hidz;exact h6
                     ·exact h6.elim
                    ·exact ih0 hs.2 hm
                  rw[hat hsa hmem]; exact hb'
           exact chain q aH (au _)
         exact(Jy hlo h1).2 z hsame hz1 hv
     obtain⟨q',G',haop,hG',hpan⟩:=hex;refine tM.wpIn (KP:=fun u w'=>HZ j1 G w1 (vals i,G') u w') (Aa g1) (Ei hC g1 haop r1 (hG.mono x1) e1 ?_ fun u w' h=>h) ?_
     ·rintro v w' ⟨j',p1,p2,p3⟩
      have hnp:(vals i).jn=false:=by
       cases hvi:vals i<;>first|rfl|(rw[hvi] at p3; exact p3.L2.elim)
      refine ih (listed.setIfInBounds i true) _ w' (by simpa using hsz) Cd down' (hin' hnp) ⟨j',q',G',hG',p1,?_,x1.trans p2,by rw[xC]; exact s1,by rw[put_defers]; exact d1⟩
      refine cn.Eh ?_ newEnv;rw[g2];exact(e1.mono p2).put s1 g4 p3
     ·rintro u w' ⟨hu,j',p1,p2⟩;simp only at hu;rcases hxe with ⟨n1,n2,_⟩|⟨n,y',v,n1,n2,n3,n4,n5,n6⟩
      ·have:=n2 i hiN; rw[hu] at this; cases this
      ·have hin0:i=n:=by
        rcases bz i n with h|h
        ·have:=n5 i h; rw[hu] at this; cases this
        ·omega
       subst hin0;rw[hy] at n2; cases n2;rw[hu] at n4; cases n4;have hmem:G'=mems N:=by rw[hpan n3,n1]
       rw[hmem] at p1 p2;rw[n6] at hQ;exact hQ a1 w' j' p1 (e1.nil p2) (x1.trans p2) s1 d1
    ·rw[aR (by rw[GH e1 s1 g5 hgt (by rw[agree t (hgslot t want hgt)]; exact hgv)]; simp)]
     have hmem:∃q',GV l.length mems E A0 (fun k=>(listed.setIfInBounds i true).getD k false) q' G:=by
      cases hEi:E i with
      |true =>
       have hAi:A0 i=false:=by
        cases hAi:A0 i with
        |false=>rfl
        |true =>
         obtain⟨y',_,_,_,n1,_,n5,_⟩:=hA i hiN hAi;rw[hy] at n1; cases n1;rw[n5] at hgt; cases hgt
       obtain⟨k1,k2⟩:=gB hEi hAi;rw[hm0,<-k1] at k2;exact⟨_,k2⟩
      |false=>exact⟨_,gC hEi⟩
     obtain⟨q',hG'⟩:=hmem;refine⟨fun _ _=>trivial,?_⟩
     refine ih (listed.setIfInBounds i true) _ w1 (by simpa using hsz) Cd down' (hin' (by rw[hv0]; rfl)) ⟨j1,q',G,hG',r1,?_,x1,by rw[xC]; exact s1,by rw[put_defers]; exact d1⟩
     refine cn.Eh ?_ newEnv;rw[g2,hv0];exact e1.put s1 g4 (.tuple (vs := #[]) rfl fun i c v h=>by simp at h)
 have q:Quiet w { w with drawn:=w.drawn+1 }:=⟨au _,rfl,rfl,rfl⟩
 have hrep:∀k,(Array.replicate ops.size false).getD k false=false:=fun k=>by
  simp only[dq,Array.getElem?_replicate];split<;>rfl
 have hleft:left (fun k=>(Array.replicate ops.size false).getD k false) l.length=ops.size:=by
  have:∀n,left (fun k=>(Array.replicate ops.size false).getD k false) n=n:=by
   intro n;induction n with
   |zero=>rfl
   |succ n ihn=>rw[left,ihn,hrep n]; rfl
  rw[this,dJ]
 refine key ops.size _ a _ dy hleft (fun k o e _ hL=>by rw[show(fun k=>(Array.replicate ops.size false).getD k false) k=false from hrep k] at hL; cases hL) (fun k _ hL=>by rw[hrep k] at hL; cases hL) ⟨j,0,M,⟨cL _,.inl rfl,fun k _ _ _=>hrep k,by rw[m0],fun id => .inl (by rw[m0]),fun k h=>aH⟩,?_,?_,?_,hs,rfl⟩
 ·exact hr.grow q.size rfl rfl rfl fun _ _=>rfl
 ·refine cn.Eh (cn.mono he (Ext.grow q.size rfl rfl rfl fun _ _=>rfl)) fun t=>?_
  exact vt (i:=0) l.length (cL _) fun k _ _ hc=>by have h2:=hc.2; rw[hrep k] at h2; cases h2
 ·exact Ext.grow q.size rfl rfl rfl fun _ _=>rfl
end
def JW{F:Fence}{nd:Nat}{P:Program}{c:Code}{Q Q':Exit->Act->World->Prop}{n:Nat}{a:Act}{w:World}(h:Code.roundsIn F nd P c Q n a w)(hq:∀e a w,Q e a w->Q' e a w):Code.roundsIn F nd P c Q' n a w:=by
 induction n generalizing a w with
 |zero=>exact h
 |succ n ih =>
  refine wpIn_mono h fun e a' w' h'=>?_
  cases e<;>simp[Exit.then] at h' ⊢ <;> first|exact ih h'|exact hq _ _ _ h'
theorem o8{bR:Nat}{M:aC}(hb:bR<=M.length):(iQ bR M).length=bR:=by grind [iQ]
theorem lB{bR:Nat}{M:aC}{i:Nat}(hi:i<bR):(iQ bR M)[i]?=(M[i]?).map (cI.back bR M):=by
 grind [iQ]
theorem Rg(bR:Nat)(M:aC)(b:cI):(b.back bR M).tag=b.tag:=by cases b<;>rfl
def KK(bR:Nat)(M:aC)(b:cI):(b.back bR M).fixed=b.fixed:=by cases b<;>rfl
def KM{bR:Nat}{M:aC}{b:cI}(h:b.loose=true):b.back bR M=b:=by cases b<;>first|rfl|cases h
section
variable {bR:Nat} {M:aC} {j:J} {w:World} (hb:bR<=M.length)
include hb
def wZ{b off:Nat}(h:oo j M w b off):oo j (iQ bR M) w b off:=by
 refine⟨h.lt,fun id hid hj=>?_,h.nx⟩
 rw[o8 hb] at hid;obtain⟨sz,n,h1,h2⟩:=h.ids _ aH hj;exact⟨sz,n,by rw[lB hid,h1]; rfl,h2⟩
def mY:∀b off,oo j M w b off->oo j (iQ bR M) w b off/\w.cell? ⟨b,off,none⟩=w.cell? ⟨b,off,none⟩:=fun b off hs=>⟨wZ hb hs,rfl⟩
def MB{id:Nat}(cG:id<bR)(hM:∀bx,M[id]?=some bx->bx.loose=true):(iQ bR M)[id]?=M[id]?:=by
 have h0:=ai (show id<M.length by omega)
 rw[lB cG,h0,eo,KM (hM _ h0)]
variable (hr:Rel j M w)
include hr
theorem AH{x:ag}{v:Value}(h:gj j M w x v):gj j (iQ bR M) w (x.jC bR M) v:=by
 cases h with
 |plain h =>
  have:x.jC bR M=x:=by cases h<;>rfl
  rw[this];exact .plain (h.mono (mY hb))
 |c0 A=>exact .c0 A
 | @own k xs v sz n hk hn hp ht =>
  simp only[ag.jC];split
  ·rename_i cG;exact .own (sz:=sz) (n:=n) (by rw[lB cG,hk]; rfl) hn (hp.mono (mY hb)) ht
  ·exact .plain (hp.mono (mY hb))
 |agg=>exact .any _
 |tuple=>exact .any _
 | @ptr id off b hid hc hj =>
  simp only[ag.jC];split
  ·rename_i cG;obtain⟨cs,hc⟩:=hc;exact .ptr (by rw[o8 hb]; omega) ⟨_,by rw[lB cG,hc]; rfl⟩ hj
  ·exact .any _
 |jE h=>exact .jE fun k c hk=>⟨(h k c hk).1,wZ hb (h k c hk).2.1,(h k c hk).2.2.mono (mY hb)⟩
 |func=>exact .any _
 | @iw id b hc hj =>
  simp only[ag.jC];split
  ·rename_i cG;obtain⟨ks,vs,hc⟩:=hc;exact .iw ⟨_,_,by rw[lB cG,hc]; rfl⟩ hj
  ·exact .any _
 | @j7 id b hc hj =>
  simp only[ag.jC];split
  ·rename_i cG;obtain⟨ks,vs,hc⟩:=hc;exact .j7 ⟨_,_,by rw[lB cG,hc]; rfl⟩ hj
  ·exact .any _
 |kj cG hf hx hw hk hv hks hvs =>
  exact .kj cG (fun i hi=>hf i (by rw[o8 hb] at hi; omega)) hx hw hk hv (fun i k e h1 h2=>(hks i k e h1 h2).mono (mY hb)) (fun i k e h1 h2=>(hvs i k e h1 h2).mono (mY hb))
 | @kx t id off b hc hj =>
  simp only[ag.jC];split
  ·rename_i cG;obtain⟨cs,hc⟩:=hc;exact .kx ⟨_,by rw[lB cG,hc]; rfl⟩ hj
  ·exact .any _
 |qX hl hd=>exact .qX hl fun i c v h1 h2=>(hd i c v h1 h2).mono (mY hb)
 | @cv id ver sz0 lo hi v h0 hid hM hv =>
  simp only[ag.jC];split
  ·rename_i cG;have e:=MB hb cG hM;exact .cv h0 (by rw[o8 hb]; omega) (fun bx hbx=>hM bx (e▸hbx)) fun sz v' xs h=>hv sz v' xs (e▸h)
  ·rename_i hge;split
   ·rename_i sz v' xs hMi;split
    ·rename_i he;subst he;obtain⟨_,k2⟩:=hv sz v' xs hMi;obtain⟨rfl,l1,l2,⟨rfl,_,A,rfl⟩|⟨b,cap,vs,t,l3,rfl,l5,l6,l7⟩⟩:=k2 rfl
     ·simp only[List.take_nil,List.drop_nil];exact .plain (fQ.nil _ _ _)
     obtain⟨b',vs',t',g1,g2,g3,g4,g5⟩:=hr.yN hMi l3;rw[l3] at g1; cases g1;refine .plain (xU g2 g4 g5 (fun b off h=>wZ hb h) (fun off _=>⟨hr.lt id b hid l3,fun id' hid' hj'=>?_,hr.vf id b hid l3 off⟩) l1 l2 l5)
     rw[o8 hb] at hid';have:=hr.inj id' id b aH hid hj' l3;omega
    ·exact .any _
   ·exact .any _
 | @ju id ver i off v h0 hid hM hv =>
  simp only[ag.jC];split
  ·rename_i cG;have e:=MB hb cG hM;exact .ju h0 (by rw[o8 hb]; omega) (fun bx hbx=>hM bx (e▸hbx)) fun sz v' xs h=>hv sz v' xs (e▸h)
  ·exact .any _
 |any v=>exact .any v
theorem jy{x:ag}{v:Value}(h:gj j M w x v):gj j (iQ bR M) w (x.jW bR M) v:=by
 by_cases hag:∃f cs,x = .func f cs
 ·obtain⟨f,caps,rfl⟩:=hag;obtain⟨vs,rfl,hl,hc⟩:=h.rz;refine .func jK fun i c u hi hu=>?_
  rw[aX,aV] at hi;obtain⟨c0,hc0,rfl⟩:=hi
  grind [AH]
 ·have e1:x.jW bR M=x.jC bR M:=by cases x<;>first|rfl|grind
  grind [AH]
theorem AI{x:ag}{v:Value}(h:gj j M w x v):gj j (iQ bR M) w (x.jX bR M) v:=by
 by_cases hag:∃cs,x = .agg cs
 ·obtain⟨cs,rfl⟩:=hag;obtain⟨vs,rfl,hl,hc⟩:=h.mZ;refine .agg jK fun i c u hi hu=>?_
  grind [jy]
 ·have e1:x.jX bR M=x.jW bR M:=by cases x<;>first|rfl|grind
  grind [jy]
theorem OH{x:ag}{v:Value}(h:gj j M w x v):gj j (iQ bR M) w (x.mH bR M) v:=by
 by_cases hag:∃cs,x = .tuple cs
 ·obtain⟨cs,rfl⟩:=hag;obtain⟨vs,rfl,hl,hc⟩:=h.tK;refine .tuple jK fun i c u hi hu=>?_
  grind [AI]
 ·have e1:x.mH bR M=x.jX bR M:=by cases x<;>first|rfl|grind
  grind [AI]
theorem OG{bp:Env}{a:Act}(h:cn j M w bp a):cn j (iQ bR M) w (wx bR M bp) a:=by
 refine⟨fun t=>?_,h.gl.iy fun b off hs=>wZ hb hs⟩
 have:hV (wx bR M bp) t=(hV bp t).mH bR M:=by
  clear h hr hb;induction bp with
  |nil=>rfl
  |cons p r ih =>
   grind [wx,hV]
 rw[this];exact OH hb hr (h.at' t)
theorem Df{x:ag}{v:Value}(h:gj j M w x v):gj j (iQ bR M) w (x.kh bR M) v:=by
 cases x with
 |slice tk xs=>exact .plain (h.ep.mono (mY hb))
 |iw id =>
  simp only[ag.kh];split
  ·have:=AH hb hr h;simp_all [ag.jC]
  ·split
   ·rename_i ks vs hM;split
    ·rename_i hp;simp only[bw,bM] at hp;obtain⟨b,_,hj,rfl⟩:=h.vC;obtain⟨b',hj',es,clock,g1,g2,g3,g4,g5⟩:=hr.fix id _ hM rfl;have:b'=b:=jK;subst this;have hid  := aN hM
     exact .kj (hr.lt id _ hid hj) (fun i hi he=>by
      rw[o8 hb] at hi;have:=hr.inj i id _ aH hid he hj;omega) (hr.vf id _ hid hj) g1 g2 g3 (fun i k e h1 h2=>(g4 i k e h1 h2).mono (mY hb))
      fun i u e h1 h2=>(CC.xw (g5 i u e h1 h2) (hp.1 u (aK h1))).mono (mY hb)
    ·exact .any _
   ·exact .any _
 |func f caps=>exact jy hb hr h
 |agg cs=>exact jy hb hr h
 |tuple cs=>exact jy hb hr h
 |bool b=>exact jy hb hr h
 |int k n=>exact jy hb hr h
 |str s=>exact jy hb hr h
 |ptr id off=>exact jy hb hr h
 |jE cs=>exact jy hb hr h
 |j7 id=>exact jy hb hr h
 |cv id v sz lo hi=>exact jy hb hr h
 |ju id v i off=>exact jy hb hr h
 |qX f fs=>exact jy hb hr h
 |kx t id off=>exact jy hb hr h
 |kj ks vs=>exact jy hb hr h
 |raw v=>exact jy hb hr h
 |nF v=>exact h.L2.elim
 |any=>exact .any _
theorem Dg{x:ag}{v:Value}(h:gj j M w x v):gj j (iQ bR M) w (x.kO bR M) v:=by
 by_cases hag:∃cs,x = .agg cs
 ·obtain⟨cs,rfl⟩:=hag;obtain⟨vs,rfl,hl,hc⟩:=h.mZ;refine .agg jK fun i c u hi hu=>?_
  grind [Df]
 ·have e1:x.kO bR M=x.kh bR M:=by cases x<;>first|rfl|grind
  grind [Df]
theorem Ft{x:ag}{v:Value}(h:gj j M w x v):gj j (iQ bR M) w (x.lC bR M) v:=by
 by_cases hag:∃cs,x = .tuple cs
 ·obtain⟨cs,rfl⟩:=hag;obtain⟨vs,rfl,hl,hc⟩:=h.tK;refine .tuple jK fun i c u hi hu=>?_
  grind [Dg]
 ·have e1:x.lC bR M=x.kO bR M:=by cases x<;>first|rfl|grind
  grind [Dg]
theorem KL{b:Nat}{bx:cI}(h:Holds j M w b bx):Holds j (iQ bR M) w b (bx.back bR M):=by
 cases bx with
 |cells cs =>
  obtain⟨vs,t,h1,h2,h3⟩:=h;refine⟨vs,t,h1,jK,fun q c v hc hv=>?_⟩
  grind [jy]
 |tick=>trivial
 |map ks vs =>
  obtain⟨es,clock,h1,h2,h3,h4,h5⟩:=h;refine⟨es,clock,h1,h2,jK,fun i k e hk he=>(h4 i k e hk he).mono (mY hb),fun i k e hk he=>?_⟩
  grind [AI]
 |nS s pos=>exact h
 |vQ=>trivial
 |arr=>trivial
theorem zz:Rel j (iQ bR M) w:=by
 have ln:=o8 hb;refine⟨fun i i' b hi hi'=>hr.inj i i' b aH aH,fun i b hi=>hr.lt i b aH,fun i bx h hf=>?_,fun i sz n b h hj=>?_,fun i sz ver xs h=>?_,fun i b hi=>hr.vf i b aH,hr.AB⟩
 ·have hi:i<bR:=jK;rw[lB hi,aV] at h;obtain⟨bx0,h1,rfl⟩:=h;obtain⟨b,g1,g2⟩:=hr.fix i bx0 h1 (by rw[<-KK bR M]; omega)
  grind [KL]
 ·have hi:i<bR:=by rw[<-ln]; grind
  rw[lB hi,aV] at h;obtain⟨bx,h1,h2⟩:=h;cases bx with
  |tick sz0 n0=>exact hr.tick i sz0 n0 b h1 hj
  |cells cs=>cases h2
  |map ks vs=>cases h2
  |nS s p=>cases h2
  |vQ=>cases h2
  |arr sz v xs=>cases h2
 ·have hi:i<bR:=by rw[<-ln]; grind
  rw[lB hi,aV] at h;obtain⟨bx,h1,h2⟩:=h;cases bx with
  |arr sz0 v0 xs0 =>
   injection h2 with e1 e2 e3
   subst e1; subst e2; subst e3;obtain⟨g0,g1⟩|⟨b,vs,t,g1,g2,g3,g4,g5⟩:=hr.arr i _ _ _ h1
   ·grind
   exact .inr ⟨b,vs,t,g1,g2,g3,g4,fun q x k c hx hk=>(g5 q x k c hx hk).imp fun u hu=>⟨hu.1,hu.2.mono (mY hb)⟩⟩
  |cells cs=>cases h2
  |map ks vs=>cases h2
  |nS s p=>cases h2
  |vQ=>cases h2
  |tick sz n=>cases h2
omit hr in
theorem wY{j0:J}{M0:aC}{w0:World}(h0:M0.length<=bR)(hx:Ext j0 M0 w0 j M w):Ext j0 M0 w0 j (iQ bR M) w where
 len:=by rw[o8 hb]; omega
 size:=hx.size
 os:=hx.os
 tape:=hx.tape
 output:=hx.output
 X:=hx.X
 fix:=fun i bx h hf=>by
  obtain⟨h1,bx',h2,h3⟩:=hx.fix i bx h hf
  grind [aN,lB,Rg,trans]
 tick:=fun i sz n h=>by
  obtain⟨n',h1,h2,h3⟩:=hx.tick i sz n h;have hi:i<bR:=jK;exact⟨n',h1,by rw[lB hi,h2]; rfl,h3⟩
 arr:=fun i sz v xs h=>by
  have hi:i<bR:=jK;rcases hx.arr i sz v xs h with ⟨n',g⟩|⟨v',xs',g1,g2⟩
  ·exact .inl ⟨n',by rw[lB hi,g]; rfl⟩
  ·exact .inr ⟨v',xs',by rw[lB hi,g1]; rfl,g2⟩
 tags:=hx.tags
 iy:=fun b off h=>⟨wZ hb (hx.iy b off h).1,(hx.iy b off h).2⟩
 ui:=fun b cG h=>⟨(hx.ui b cG h).1,fun i hi=>(hx.ui b cG h).2 i (by rw[o8 hb] at hi; omega)⟩
end
def Yh(A:Cz)(j:J)(M:aC)(w:World)(a:Act)(o:Out):Exit->Act->World->Prop:=fun e a' w' =>
 e=rO o.e/\a'.tmps.size=A.n/\a'.defers=a.defers/\∃j',Rel j' o.mem w'/\cn j' o.mem w' o.bp a'/\Ext j M w j' o.mem w'
theorem Bw{A:Cz}{j:J}{M:aC}{w:World}{a:Act}{o:Out}{live:List Nat}{a':Act}{w':World}{j':J}(h1:Rel j' o.mem w')(h2:cn j' o.mem w' o.bp a')(h3:Ext j M w j' o.mem w')(h4:a'.tmps.size=A.n)
  (h5:a'.defers=a.defers):Yh A j M w a (o.rj live) (rO o.e) a' w':=by
 obtain⟨e,bp,M'⟩:=o;cases e
 case normal=>exact⟨rfl,h4,h5,j',h1,h2.rj _,h3⟩
 all_goals exact⟨rfl,h4,h5,j',h1,h2,h3⟩
section
variable {P:Program} {C:eP} {A:Cz}
def Y5{j:J}{M:aC}{w:World}{bp:Env}{a:Act}(t:Nat)(hr:Rel j M w)(he:cn j M w bp a):Rel j (qz M (hV bp t).ids) w/\cn j (qz M (hV bp t).ids) w (Lz M t bp) a/\Ext j M w j (qz M (hV bp t).ids) w:=by
 obtain⟨f1,f2,f3,f4⟩:=zP (j:=j) (w:=w) (hV bp t).ids hr;refine⟨f2,⟨fun t'=>?_,he.gl.mono f1⟩,f1⟩
 unfold Lz;rw[hV];split
 ·rename_i e; rw[<-e]; exact(he.at' t).ry hr f1 f2 f3 fun id hid=>f4 id hid
 ·exact(he.at' t').mono f1
def Nd{F:cz->Env->aC->Option Out}(hF:∀t c bp M,F (.ry t c) bp M=F c (Lz M t bp) (qz M (hV bp t).ids)){A:Cz}{y:Code}{ac:cz}{j:J}{M:aC}{w:World}{bp:Env}{a:Act}{o:Out}(h:F (Y4 A y ac) bp M=some o)(hr:Rel j M w)(he:cn j M w bp a) :
  ∃env' M',F ac env' M'=some o/\Rel j M' w/\cn j M' w env' a/\Ext j M w j M' w:=by
 unfold Y4 at h;split at h
 ·obtain⟨h1,h2,h3⟩:=Y5 _ hr he;exact⟨_,_,(hF _ _ _ _).symm.trans h,h1,h2,h3⟩
 ·exact⟨_,_,h,hr,he,.refl _ _ _⟩
theorem mJ(hmix:P.follows .mixedOrders=true)(hC:nJ P C){rd:Option Nat}{nd:Nat}:∀(c:Code){ac:cz},comp P A c=some ac->∀ {bp:Env} {M:aC} {o:Out},eO C ac bp M=some o->∀ {j:J} {w:World} {a:Act},Rel j M w->sO j M w->cn j M w bp a ->
  a.tmps.size=A.n->c.wpIn (Wd rd) nd P (Yh A j M w a o) a w
 | .skip,ac,hc,bp,M,o,h,j,w,a,hr,hG,he,hs=>by
  simp only[comp] at hc; cases hc;simp only[eO] at h; cases h;exact wpIn_skip ⟨rfl,hs,rfl,j,hr,he,Ext.refl j M w⟩
 | .exit id,ac,hc,bp,M,o,h,j,w,a,hr,hG,he,hs=>by
  simp only[comp] at hc; cases hc;simp only[eO] at h; cases h;exact wpIn_exit ⟨rfl,hs,rfl,j,hr,he,Ext.refl j M w⟩
 | .ret,ac,hc,bp,M,o,h,j,w,a,hr,hG,he,hs=>by
  simp only[comp] at hc; cases hc;simp only[eO] at h; cases h;exact wpIn_ret ⟨rfl,hs,rfl,j,hr,he,Ext.refl j M w⟩
 | .region id ops draw,ac,hc,bp,M,o,h,j,w,a,hr,hG,he,hs=>by
  simp only[comp] at hc;cases draw with
  |true =>
   simp only[aJ] at hc;obtain⟨l0,hl0,hc⟩:=bf hc;obtain⟨l,hl,hc⟩:=bf hc;cases hc;simp only[eO] at h;obtain⟨x,hx,h⟩:=bo h
   grind [JU,Bw]
  |false =>
   simp only[af,aD] at hc;obtain⟨l,hl,hc⟩:=bf hc;cases hc;simp only[eO] at h;obtain⟨x,hx,h⟩:=bo h;cases h;refine wpIn_region ?_;rw[ly];exact yc hC (grow:=[]) ops.toList 0 (by rfl) hl hx hr hG he hs fun a' w' j' h1 h2 h3 h4 h5=>Bw h1 h2 h3 h4 h5
 | .seq x y,ac,hc,bp,M,o,h,j,w,a,hr,hG,he,hs=>by
  simp only[comp] at hc;obtain⟨ax,hx,hc⟩:=bf hc;obtain⟨ay,hy,hc⟩:=bf hc;cases hc;simp only[eO] at h;obtain⟨o1,h1,h⟩:=bo h;refine wpIn_seq (wpIn_mono (mJ hmix hC x hx h1 hr hG he hs) ?_);rintro e a1 w1 ⟨he1,hs1,hd1,j1,r1,e1,x1⟩;rcases ua h with ⟨hn,h2⟩|⟨hn,h2⟩
  ·rw[hn] at he1;subst he1;obtain⟨env',M',h3,r3,e3,x3⟩:=Nd (F:=eO C) (fun _ _ _ _=>rfl) h2 r1 e1
   refine wpIn_mono (mJ hmix hC y hy h3 r3 (hG.mono (x1.trans x3)) e3 hs1) ?_;rintro e a2 w2 ⟨he2,hs2,hd2,j2,r2,e2,x2⟩;exact⟨he2,hs2,hd2.trans hd1,j2,r2,e2,(x1.trans x3).trans x2⟩
  ·subst h2;have:rO o.e ≠ .normal:=by cases ho:o.e<;>simp_all [rO]
   subst he1
   cases hx:rO o.e<;>first
    |exact absurd hx this
    |(simp only[Exit.then]; exact⟨hx.symm,hs1,hd1,j1,r1,e1,x1⟩)
 | .cond c x y,ac,hc,bp,M,o,h,j,w,a,hr,hG,he,hs=>by
  simp only[comp] at hc;obtain⟨cc,hcc,hc⟩:=bf hc;obtain⟨ax,hx,hc⟩:=bf hc;obtain⟨ay,hy,hc⟩:=bf hc;cases hc;simp only[eO] at h;have h1:=cN he hcc;split at h
  ·rename_i t ht;rw[ht] at h1;rcases lG h with ⟨rfl,h⟩|⟨rfl,h⟩
   ·exact wpIn_cond_true h1.jD (mJ hmix hC x hx h hr hG he hs)
   ·exact wpIn_cond_false h1.jD (mJ hmix hC y hy h hr hG he hs)
  grind
 | .block id c,ac,hc,bp,M,o,h,j,w,a,hr,hG,he,hs=>by
  simp only[comp] at hc;obtain⟨ax,hx,hc⟩:=bf hc;cases hc;simp only[eO] at h;obtain⟨o1,h1,h⟩:=bo h;cases h;refine wpIn_block (wpIn_mono (mJ hmix hC c hx h1 hr hG he hs) ?_);rintro e a1 w1 ⟨he1,hs1,hd1,j1,r1,e1,x1⟩;subst he1;cases ho:o1.e with
  |normal=>simp only[rO,Exit.inBlock]; refine⟨?_,hs1,hd1,j1,?_⟩<;>simp[xy,ho,rO,r1,e1,x1]
  |ret=>simp only[rO,Exit.inBlock]; refine⟨?_,hs1,hd1,j1,?_⟩<;>simp[xy,ho,rO,r1,e1,x1]
  |nF v=>simp only[rO,Exit.inBlock]; refine⟨?_,hs1,hd1,j1,?_⟩<;>simp[xy,ho,rO,r1,e1,x1]
  |exit i =>
   simp only[rO,Exit.inBlock]
   by_cases hi:i=id
   ·rw[aZ hi]; refine⟨?_,hs1,hd1,j1,?_⟩<;>simp[xy,ho,rO,hi,r1,e1,x1]
   ·rw[aR hi]; refine⟨?_,hs1,hd1,j1,?_⟩<;>simp[xy,ho,rO,hi,r1,e1,x1]
 | .loop c,ac,hc,bp,M,o,h,j,w,a,hr,hG,he,hs=>by
  simp only[comp] at hc;obtain⟨ax,hx,hc⟩:=bf hc;injection hc with hc
  obtain⟨g,hg,n,hn⟩:∃g:Nat->Nat->Nat,(∀p q,p<=q->p<=g p q/\g p q<=q)/\∃n,iter g (eO C ax) (find A.lp (ll c)) n bp M=some o:=by
   unfold Ny at hc;split at hc<;>subst hc<;>simp only[eO] at h<;>obtain⟨n,hn⟩:=ug h
   ·exact⟨gR,fun p q h=>⟨h,au _⟩,n,hn⟩
   ·exact⟨gL,fun p q h=>⟨au _,h⟩,n,hn⟩
  refine wpIn_loop_rounds n ?_
  have key:∀n bp M j1 w1 a1,iter g (eO C ax) (find A.lp (ll c)) n bp M=some o->Rel j1 M w1->sO j1 M w1->cn j1 M w1 bp a1->a1.tmps.size=A.n ->
    Code.roundsIn (Wd rd) nd P c (Yh A j1 M w1 a1 o) n a1 w1:=by
   intro n;induction n with
   |zero=>intro bp M j1 w1 a1 h; cases h
   |succ n ih =>
    intro bp M j1 w1 a1 h r1 hG1 e1 s1;rw[iter] at h;obtain⟨o1,h1,h⟩:=bo h;rw[roundsIn_succ];refine wpIn_mono (mJ hmix hC c hx h1 r1 hG1 (e1.rj _) s1) ?_;rintro e a2 w2 ⟨he2,hs2,hd2,j2,r2,e2,x2⟩;rcases ua h with ⟨hn,h2⟩|⟨hn,h2⟩
    ·rw[hn] at he2;subst he2;obtain⟨b1,b2⟩:=hg _ _ x2.len;have:=ih _ _ j2 w2 a2 h2 (zz b2 r2) (hG1.mono (wY b2 b1 x2)) (OG b2 r2 (e2.rj _)) hs2;simp only[rO,Exit.then]
     exact JW this fun e a3 w3 ⟨g1,g2,g3,j3,g4,g5,g6⟩=>⟨g1,g2,g3.trans hd2,j3,g4,g5,(wY b2 b1 x2).trans g6⟩
    ·subst h2;have:rO o.e ≠ .normal:=by cases ho:o.e<;>simp_all [rO]
     subst he2
     cases hx:rO o.e<;>first
      |exact absurd hx this
      |(simp only[Exit.then]; exact⟨hx.symm,hs2,hd2,j2,r2,e2,x2⟩)
  grind
 | .rangeFunc ..,ac,hc,bp,M,o,h,j,w,a,hr,hG,he,hs=>by grind [comp]
 | .scope _,ac,hc,bp,M,o,h,j,w,a,hr,hG,he,hs=>by grind [comp]
 | .label _,ac,hc,bp,M,o,h,j,w,a,hr,hG,he,hs=>by grind [comp]
 | .goto _,ac,hc,bp,M,o,h,j,w,a,hr,hG,he,hs=>by grind [comp]
 | .refuse _,ac,hc,bp,M,o,h,j,w,a,hr,hG,he,hs=>by simp_all [comp]
theorem C1{bp:Env}{M:aC}{j:J}{w:World}{a:Act}(hr:Rel j M w)(he:cn j M w bp a):∀ {rs:List ResultVar} {ars:List sN} {l:List ag},Ik P rs=some ars->sV bp M ars=some l ->
  ∃vs:List Value,(rs.mapM fun r=>(match r with | .tmp t=>pure (a.tmps.getD t undef) | .cell q t=>do loadVar t (<-asAddr (a.tmps.getD q undef)):Sem Value)).run P w = .ok vs w/\l.length=vs.length /\
   ∀(i:Nat)(c:ag)(v:Value),l[i]?=some c->vs[i]?=some v->gj j M w c v
 | [],ars,l,h1,h2=>by
  simp_all [Ik,sV]
 | .tmp t::rs,ars,l,h1,h2=>by
  simp only[Ik] at h1;obtain⟨ars',h3,h1⟩:=bf h1;cases h1;simp only[sV,Ew,bN] at h2;obtain⟨l',h4,h2⟩:=bo h2;cases h2;obtain⟨vs,g1,g2,g3⟩:=C1 hr he h3 h4
  refine⟨a.tmps.getD t undef::vs,by
   rw[List.mapM_cons,Sem.run_bind];simp_all,by simp[g2],fun i c v hc hv=>?_⟩
  cases i with
  |zero=>simp only[gk,fY] at hc hv; subst hc; subst hv; exact he.at' t
  |succ i=>grind
 | .cell q t::rs,ars,l,h1,h2=>by
  simp only[Ik] at h1;obtain⟨g,hg,h1⟩:=bf h1;obtain⟨n,hn,h1⟩:=bf h1;obtain⟨ars',h3,h1⟩:=bf h1;cases h1;simp only[sV] at h2;obtain⟨c0,hc0,h2⟩:=bo h2;obtain⟨l',h4,h2⟩:=bo h2;cases h2;obtain⟨vs,g1,g2,g3⟩:=C1 hr he h3 h4;have hq:=he.at' q
  have hload:∃v,(do loadVar t (<-asAddr (a.tmps.getD q undef)):Sem Value).run P w = .ok v w/\gj j M w c0 v:=by
   cases g with
   |true =>
    simp only[aJ,Ew] at hc0;split at hc0
    ·rename_i id off e;rw[e] at hq;obtain⟨b,_,_,hj,hv⟩:=hq.p9;rw[fc] at hc0;split at hc0
     ·rename_i cs hM;split at hc0
      ·rename_i hle;cases hc0;obtain⟨us,t0,hw,hl,hcs,hcell⟩:=w5 hr hM hj
       have hrun:=o4 (P:=P) (w:=w) b off n (fun k=>(us[off+k]?).getD undef) fun k hk=>by
        rw[hcell,bg aH]; simp
       refine⟨_,by simp only[hv,asAddr,Sem.run_bind,Sem.run_pure,Result.andThen_ok,loadVar,lJ hg,aJ,jq hn,hrun]; rfl,.agg gh fun p c u hc hu=>?_⟩
       grind
      ·cases hc0
     ·cases hc0
    ·cases hc0
   |false =>
    simp only[af,aD,Ew] at hc0;split at hc0
    ·rename_i id off e;rw[e] at hq;obtain⟨b,_,_,hj,hv⟩:=hq.p9;rw[fc] at hc0;split at hc0
     ·rename_i cs hM;rw[fc] at hc0;obtain⟨us,t0,hw,hl,hcs,hcell⟩:=w5 hr hM hj;have cG:=aN hc0;have hu:us[off]?=some (us[off]'(by omega)):=bg aH
      exact⟨_,by simp[hv,asAddr,loadVar,lJ hg,hcell,hu],hcs _ _ _ hc0 hu⟩
     ·cases hc0
    ·cases hc0
  obtain⟨v0,hv0,hr0⟩:=hload;refine⟨v0::vs,?_,by simp[g2],fun i c v hc hv=>?_⟩
  ·rw[List.mapM_cons,Sem.run_bind,hv0];simp_all
  grind
def A8:∀(args:List ag)(i t:Nat),hV (eF i args) t=if i<=t then (args[t-i]?).getD .any else .any
 | [],i,t=>by simp[eF,hV]
 |v::r,i,t=>by
  rw[eF,hV,A8 r (i+1) t]
  by_cases h:i=t
  ·subst h; simp
  ·rw[aR h]
   by_cases h2:i<=t
   ·rw[aZ aH,aZ h2,show t-i=(t-(i+1))+1 by omega]; simp
   ·rw[aR aH,aR h2]
def NG{j:J}{M:aC}{w:World}:∀ {l:List ag} {us:List Value},l.length=us.length->(∀(i:Nat)(c:ag)(v:Value),l[i]?=some c->us[i]?=some v->gj j M w c v) ->
  gj j M w (one l) (if h:us.toArray.size=1 then us.toArray[0] else .tuple us.toArray)
 | [c0],[v0],_,h=>by simpa[one] using h 0 c0 v0 rfl rfl
 | [],[],_,_=>by simpa[one] using(gj.tuple (j:=j) (M:=M) (w:=w) (cs:=[]) (vs := #[]) rfl fun i c v h=>by simp at h)
 |c0::c1::r,v0::v1::s,hl,h=>by
  have:¬(v0::v1::s).toArray.size=1:=dy;rw[dif_neg this];exact .tuple (by simpa using hl) fun i c v h1 h2=>h i c v h1 (by simpa using h2)
 | [],_::_,hl,_=>by simp at hl
 | [_],[],hl,_=>by simp at hl
 | [_],_::_::_,hl,_=>by simp at hl
 |_::_::_,[],hl,_=>by simp at hl
 |_::_::_,[_],hl,_=>by simp at hl
def A5(hmix:P.follows .mixedOrders=true)(hC:nJ P C){f:Nat}{fn:eH}{A:Cz}{func:Func}(hf:P.funcs[f]?=some func)(hc:pa P A func=some fn){args:List ag}{M:aC}{x:ag×aC}{B:Nat}(hB:M.length<=B)(hB2:B<=M.length\/B<=x.2.length)
  (hl:args.length=fn.nparams) (h:bJ (eO C fn.body (eF 0 args) M) (finish fn.results B)=some x):lF P f=true/\db P f args M x:=by
 unfold pa at hc;split at hc
 ·cases hc
 ·rename_i c hbody;split at hc
  ·rename_i hcond;obtain⟨hname,hn,hle⟩:=hcond;obtain⟨b,hb,hc⟩:=bf hc;obtain⟨rs,hrs,hc⟩:=bf hc;cases hc;refine⟨by simp[lF,hf,hbody,hname],fun j w vs hr hG dJ hv=>?_⟩
   obtain⟨o,ho,hfin⟩:=bo h;simp only at hl;refine calls_of_wp hf hbody ?_;have hsz:(vs++Array.replicate (func.ntmps-vs.size) undef).size=A.n:=gh
   have he:cn j M w (eF 0 args) { tmps:=vs++Array.replicate (func.ntmps-vs.size) undef,defers:=[] }:=by
    refine⟨fun t=>?_,hG⟩
    rw[A8,aZ (cL _),bO];rcases bz t args.length with ht|ht
    ·have h1:=ai ht;have cG:t<vs.size:=aH;have h2:=bg cG;rw[h1];have h3:=hv t _ _ h1 h2
     have:(vs++Array.replicate (func.ntmps-vs.size) undef).getD t undef=vs[t]:=by
      simp[dq,cj cG,h2]
     rw[this];exact h3
    ·rw[fX ht]; exact .any _
   refine wp_mono (wpIn_wide.1 (mJ (rd:=none) (nd:=0) hmix hC c hb ho hr hG he hsz)) ?_;rintro e a' w' ⟨he1,hs1,hd1,j1,r1,e1,x1⟩
   by_cases hpan:∃u,o.e = .nF u
   ·obtain⟨u,hu⟩:=hpan;rw[hu] at he1; subst he1;simp only[finish,hu] at hfin;cases hfin
    have hb:B<=o.mem.length:=by
     have:=x1.len;rcases hB2 with h|h
     ·omega
     ·simp[iQ] at h; omega
    exact⟨hd1,.inr ⟨u,rfl,rfl,j1,zz hb r1,wY hb hB x1⟩⟩
   have hno:∀i,o.e ≠ .exit i:=by
    intro i hi;simp[finish,hi] at hfin
   have hfin':bJ (sV o.bp o.mem rs) (fun l=>some ((one l).lC B o.mem,iQ B o.mem))=some x:=by
    unfold finish at hfin;split at hfin
    ·rename_i i hi; exact absurd hi (hno i)
    ·rename_i u hu; exact absurd ⟨u,hu⟩ hpan
    ·exact hfin
   obtain⟨l,hl',hfin'⟩:=bo hfin';cases hfin';obtain⟨us,u1,u2,u3⟩:=C1 (P:=P) r1 e1 hrs hl'
   have hbase:B<=o.mem.length:=by
    have:=x1.len;rcases hB2 with h|h
    ·omega
    ·simp[iQ] at h; omega
   have hres:(results func a'.tmps).run P w' = .ok (if h:us.toArray.size=1 then us.toArray[0] else .tuple us.toArray) w':=by
    unfold results;rw[lN,Sem.run_bind,Sem.run_map];refine ik (congrArg (fun r:Result (List Value)=>Result.andThen (r.andThen fun a w' => .ok a.toArray w') _) (ik ?_ u1)) rfl
    rfl
   have hone:gj j1 o.mem w' (one l) (if h:us.toArray.size=1 then us.toArray[0] else .tuple us.toArray):=by
    exact NG u2 u3
   have hfinal:∃v,(results func a'.tmps).run P w' = .ok v w'/\vS j M w ((one l).lC B o.mem,iQ B o.mem) (.returned v) w' :=
    ⟨_,hres,.inl ⟨_,rfl,j1,zz hbase r1,wY hbase hB x1,Ft hbase r1 hone⟩⟩
   cases hoe:o.e with
   |exit i=>exact absurd hoe (hno i)
   |nF u=>exact absurd ⟨u,hoe⟩ hpan
   |normal=>rw[hoe] at he1; subst he1; exact⟨hd1,hfinal⟩
   |ret=>rw[hoe] at he1; subst he1; exact⟨hd1,hfinal⟩
  ·cases hc
def SA(hmix:P.follows .mixedOrders=true)(hC:nJ P C){f:Nat}{fn:eH}{A:Cz}{func:Func}(hf:P.funcs[f]?=some func)(hc:pa P A func=some fn){args:List ag}{M:aC}{x:ag×aC}
  (hl:args.length=fn.nparams) (h:bJ (eO C fn.body (eF 0 args) M) (finish fn.results M.length)=some x):lF P f=true/\db P f args M x :=
 A5 hmix hC hf hc (au _) (.inl (au _)) hl h
noncomputable def JM(C:eP)(fn:eH)(d:Nat)(args:List ag)(M:aC):Option (ag×aC) :=
 if args.length=fn.nparams then bJ (bJ (eO C fn.body (eF 0 args) M) (finish fn.results (M.length+d))) fun x=>if x.2.length=M.length+d then some x else none else none
def FX(hmix:P.follows .mixedOrders=true)(hC:nJ P C){f:Nat}{fn:eH}{A:Cz}{func:Func}(hf:P.funcs[f]?=some func)(hc:pa P A func=some fn){d:Nat}{args:List ag}{M:aC}{x:ag×aC}
  (h:JM C fn d args M=some x):lF P f=true/\db P f args M x:=by
 unfold JM at h;split at h
 ·rename_i hl;obtain⟨y,hy,h⟩:=bo h;split at h
  ·rename_i dJ;cases h;exact A5 hmix hC hf hc (ko _ _) (.inr aH) hl hy
  ·cases h
 ·cases h
def afu{C:eP}{fn:eH}{d:Nat}{args:List ag}{M:aC}{x:ag×aC}(hl:args.length=fn.nparams)(h:bJ (eO C fn.body (eF 0 args) M) (finish fn.results (M.length+d))=some x)(hx:x.2.length=M.length+d):JM C fn d args M=some x:=by
 unfold JM;rw[aZ hl,h,bN,aZ hx]
structure vk(P:Program)(T:zt):Prop where
 code:∀f fn,T.code f=some fn->∃A func,P.funcs[f]?=some func/\pa P A func=some fn
 oS:∀f g,T.oS f=some g->∀args M x,g args M=some x->lF P f=true/\db P f args M x
def zu(hmix:P.follows .mixedOrders=true){T:zt}(hT:vk P T):∀n,nJ P (ka T n)
 |0,f,args,M,x,h=>by
  unfold ka at h;split at h
  ·rename_i g hg; exact hT.oS f g hg args M x h
  ·cases h
 |n+1,f,args,M,x,h=>by
  rw[ka] at h;split at h
  ·rename_i g hg; exact hT.oS f g hg args M x h
  ·split at h
   ·cases h
   ·rename_i fn hfn;split at h
    ·rename_i hl;obtain⟨A,func,h1,h2⟩:=hT.code f fn hfn;exact SA hmix (zu hmix hT n) h1 h2 hl h
    ·cases h
def qS(hmix:P.follows .mixedOrders=true){T:zt}(hT:vk P T):nJ P (aq T):=fun f args M x h=>by
 obtain⟨n,hn⟩:=ug h;exact zu hmix hT n f args M x hn
end
section
variable {j:J} {M:aC} {w w':World}
def oq(b:Nat):∀(l:List Value)(o:Nat)(w:World),w.setCells b o l=pr w b o l
 | [],_,_=>rfl
 |v::r,o,w=>by rw[World.setCells,pr,oq b r]
end
noncomputable def mQ(sz bytes:Nat):List ag->aC->Option (ag×aC)
 | [.slice _ xs],M=>match xs with
  | []=>some (.slice .c0 [],M)
  |x::r=>cr (wid (x::r) sz/\cp (x::r).length bytes) (some (.cv M.length 0 sz 0 (x::r).length,M++[.arr sz 0 (x::r)]))
 |_,_=>none
noncomputable def JK(sz bytes:Nat):List ag->aC->Option (ag×aC)
 | [.slice _ xs],M=>cr (wid xs sz/\cp xs.length bytes) (some (.slice .sh xs,M))
 |_,_=>none
noncomputable def sk(sz bytes:Nat):List ag->aC->Option (ag×aC)
 | [.slice _ xs],M=>cr (wid xs sz/\cp xs.length bytes) (some (.slice (.own M.length) xs,M++[.tick sz xs.length]))
 |_,_=>none
noncomputable def lI(sz:Nat):List ag->aC->Option (ag×aC)
 | [.cv id ver sz' lo hi,.int .i64 i,.int .i64 i'],M=>match nth M id with
  |some (.arr sz0 v xs)=>cr (v=ver/\sz'=sz/\lo=0/\hi=xs.length/\0<=i/\i.toNat<xs.length/\i'=i+1/\xs.length<=2 ^ 44)
    (some (.cv id (ver+1) sz 0 (xs.length-1),iP M id (.arr sz0 (ver+1) (xs.take i.toNat++xs.drop (i.toNat+1)))))
  |_=>none
 |_,_=>none
noncomputable def lf(sz bytes:Nat):List ag->aC->Option (ag×aC)
 | [.cv id ver sz' lo hi,.int .i64 i,.slice _ [e]],M=>match nth M id with
  |some (.arr sz0 v xs)=>cr (v=ver/\sz'=sz/\lo=0/\hi=xs.length/\0<=i/\i.toNat<=xs.length/\e.cells.length=sz/\cp (xs.length+1) bytes)
    (some (.cv id (ver+1) sz 0 (xs.length+1),iP M id (.arr sz0 (ver+1) (xs.take i.toNat++e::xs.drop i.toNat))))
  |_=>none
 | [.slice .c0 [],.int .i64 i,.slice _ [e]],M=>cr (i=0/\e.cells.length=sz) (some (.cv M.length 0 sz 0 1,M++[.arr sz 0 [e]]))
 |_,_=>none
def zq(P:Program)(f:Nat)(E:TypeId)(sz bytes:Nat):Prop:=∀(b off n c:Nat)(news:List Value)(w:World),news.length=n*sz->n<=maxLen->n*bytes<=140737488355328->(∀j u,news[j]?=some u->w.cell? ⟨b,off+j,none⟩=some u)->(∀u∈news,u.oneCell'=true) ->
 Calls P f #[.slice (some ⟨b,off,none⟩) n c] w fun e w'=>∃v',e = .returned v'/\w'.ownsRow w.heap.size E sz v' n news/\v' ≠ .slice none 0 0/\Below w.heap.size w w'
def wT(P:Program)(f:Nat):Prop:=∀(A:Option Addr)(c:Nat)(w:World),Calls P f #[.slice A 0 c] w fun e w'=>(∃B,e = .returned (.slice B 0 0))/\Below w.heap.size w w'
def abD(P:Program)(f sz:Nat)(z:List Value):Prop:=∀(blk cap i i' n:Nat)(cs:List Value)(w:World),cs.length=n*sz->n<=cap->n<=9223372036854775807->i<n->i'=i+1 ->
 (∀p v,cs[p]?=some v->w.cell? ⟨blk,p,none⟩=some v/\w.frozen? ⟨blk,p,none⟩=false/\v.oneCell'=true) ->
 Calls P f #[.slice (some ⟨blk,0,none⟩) n cap,.int .i64 i,.int .i64 i'] w fun e w'=>e = .returned (.slice (some ⟨blk,0,none⟩) (n-1) cap) /\
  w'=(w.drew.setCells blk (i*sz) (cs.drop (i'*sz))).setCells blk ((n-1)*sz) z
def xO(sz:Nat)(w:World)(b:Nat)(row:Array Value)(t:TypeId)(n i:Nat)(cs vs:List Value)(e:Ending)(w':World):Prop :=
 ∃b' cap' row' t',e = .returned (.slice (some ⟨b',0,none⟩) (n+1) cap')/\n+1<=cap'/\w'.heap[b']?=some (.cells row' t' (0,0))/\cap'*sz<=row'.size /\
  (∀p,p<(n+1)*sz->row'[p]?=(cs.take (i*sz)++(vs++cs.drop (i*sz)))[p]?)/\Quiet w w' /\
  ((b'=b/\t'=t/\row'.size=row.size/\∀b0,b0≠b->b0<w.heap.size->w'.heap[b0]?=w.heap[b0]?)\/(w.heap.size<=b'/\∀b0,b0<w.heap.size->w'.heap[b0]?=w.heap[b0]?))
def QZ(P:Program)(f sz bytes:Nat):Prop:=∀(b n c i vb voff vc:Nat)(cs vs:List Value)(w:World)(row:Array Value)(t:TypeId),i<=n->n<=c->(n+1)*bytes<=140737488355328->n+1<=9223372036854775807->vb≠b->cs.length=n*sz->vs.length=sz->w.heap[b]?=some (.cells row t (0,0))->c*sz<=row.size ->
 (∀(p:Nat)(v:Value),cs[p]?=some v->row[p]?=some v)->(∀(p:Nat)(v:Value),vs[p]?=some v->w.cell? ⟨vb,voff+p,none⟩=some v)->(∀v∈cs,v.oneCell'=true)->(∀v∈vs,v.oneCell'=true) ->
 Calls P f #[.slice (some ⟨b,0,none⟩) n c,.int .i64 i,.slice (some ⟨vb,voff,none⟩) 1 vc] w (xO sz w b row t n i cs vs)
def Q0(P:Program)(f sz:Nat):Prop:=∀(A:Option Addr)(vb voff vc:Nat)(vs:List Value)(w:World)(row:Array Value),vs.length=sz->(∀(p:Nat)(v:Value),vs[p]?=some v->w.cell? ⟨vb,voff+p,none⟩=some v)->(∀v∈vs,v.oneCell'=true) ->
 Calls P f #[.slice A 0 0,.int .i64 0,.slice (some ⟨vb,voff,none⟩) 1 vc] w fun e w'=>xO sz w w.heap.size row 0 0 0 [] vs e w'
section
variable {P:Program} {f:Nat} {sz bytes:Nat} {E:TypeId}
def EO{α:Type}{vs:Array α}{p q r:ag}(h:[p,q,r].length=vs.size):∃a b c,vs = #[a,b,c]:=by
 obtain⟨l⟩:=vs
 match l,h with
 | [a,b,c],_=>simp
def CZ{α:Type}{vs:Array α}{p:ag}(h:[p].length=vs.size):∃a,vs = #[a]:=by
 obtain⟨l⟩:=vs
 match l,h with
 | [a],_=>simp
def gj.xE{j:J}{M:aC}{w:World}{tk:Tk}{xs:List ag}{v:Value}(h:gj j M w (.slice tk xs) v):fQ w (oo j M w) (.slice .sh xs) v:=h.ep
theorem sx(hsz:0<sz)(hby:bytes*8<=2 ^ 20/\0<bytes)
  (hC:zq P f E sz bytes) (h0:wT P f)
  {args:List ag} {M:aC} {x:ag×aC} (h:mQ sz bytes args M=some x):db P f args M x:=by
 unfold mQ at h;split at h
 ·refine nK.call ?_;intro j w vs hr hG hl hv;obtain⟨u,rfl⟩:=CZ hl;have h1:=(hv 0 _ u rfl rfl).xE;split at h
  ·cases h;obtain⟨A,cap,rfl,_,_⟩:=nU (size:=sz) h1 (fun y hy=>by cases hy)
   refine(h0 A cap w).mono ?_;rintro e w' ⟨⟨B,rfl⟩,hb⟩;exact⟨_,j,rfl,hr.grow hb.size hb.os hb.tape hb.output hb.block,Ext.grow hb.size hb.os hb.tape hb.output hb.block,.c0 _⟩
  ·rename_i y r;obtain⟨⟨hw,hroom⟩,h⟩:=da h;cases h;obtain⟨A,cap,rfl,hcap,h2⟩:=nU h1 hw;obtain⟨b,off,rfl,us,hrl,hul,hone,hcell⟩:=h2.resolve_left dy;unfold cp at hroom;have hle:(y::r).length<=2 ^ 44:=aY (fK _ hby.2) hroom;refine(hC b off (y::r).length cap us w hul (by unfold maxLen; omega) aH (fun p u hp=>(hcell p u hp).1) hone).mono ?_
   rintro e w' ⟨v',rfl,⟨_,hown⟩,hnn,hb⟩;obtain⟨g,cap',cur,rfl,hg,hg',hn1,_,hcs,htk⟩:=hown.resolve_left (fun h=>hnn h.1)
   have q:Quiet w w':=⟨hb.size,hb.os,hb.tape,hb.output⟩;have hob:∀b,some g=some b->w.heap.size<=b/\b<w'.heap.size:=fun b h=>jK
   have hcl:∀p,p<us.length->cur[p]?=us[p]?:=fun p hp=>by
    rw[<-htk,bH (by rw[<-hul]; exact hp)]; simp
   have ext:Ext j M w (gz j M.length (some g)) (M++[.arr sz 0 (y::r)]) w':=Ext.push (fun b h=>(hob b h).1) q hb.block
   refine⟨_,gz j M.length (some g),rfl,hr.push hob q hb.block (fun h=>by cases h) (fun sz n b h _=>by cases h) (fun sz0 v0 xs0 he=>?_),ext,?_⟩
   ·injection he with e1 e2 e3
    subst e1; subst e3;have hat:∀j' M',Ext j M w j' M' w'->Fk j' M' w' g sz (y::r):=fun j' M' hx=>mG hg' hw (hrl.mono hx.iy) hcl
    refine .inr ⟨g,cur,E,rfl,hg',by rw[hcs]; grind,hw,fun j' M' hx q x k c hx' hk=>?_⟩
    obtain⟨vs,t,a1,a2,a3,a4⟩:=hat j' M' hx;rw[hg'] at a1; injection a1 with a1; injection a1 with a1 a1'
    subst a1;exact a4 q x k c hx' hk
   ·refine .cv (.inl ⟨g,0,cap',rfl,aH⟩) dy (fun bx hbx=>by rw[kg] at hbx; cases hbx; rfl) fun sz' v' xs hx=>?_
    rw[kg] at hx; injection hx with hx; injection hx with e1 e2 e3
    subst e1; subst e2; subst e3;exact⟨au _,fun _=>⟨rfl,cL _,au _,.inr ⟨g,cap',cur,E,by simp[gz],dy,aH,hg',by rw[aG]; omega⟩⟩⟩
 ·cases h
theorem K5(hsz:0<sz)(hby:bytes*8<=2 ^ 20/\0<bytes)
  (hC:zq P f E sz bytes) (h0:wT P f)
  {args:List ag} {M:aC} {x:ag×aC} (h:JK sz bytes args M=some x):db P f args M x:=by
 unfold JK at h;split at h
 ·rename_i tk xs;refine nK.call ?_;intro j w vs hr hG hl hv;obtain⟨u,rfl⟩:=CZ hl;have h1:=(hv 0 _ u rfl rfl).xE;obtain⟨⟨hw,hroom⟩,h⟩:=da h;cases h;obtain⟨A,cap,rfl,hcap,h2⟩:=nU h1 hw;rcases h2 with rfl|⟨b,off,rfl,us,hrl,hul,hone,hcell⟩
  ·refine(h0 A cap w).mono ?_;rintro e w' ⟨⟨B,rfl⟩,hb⟩;exact⟨_,j,rfl,hr.grow hb.size hb.os hb.tape hb.output hb.block,Ext.grow hb.size hb.os hb.tape hb.output hb.block,.plain (fQ.nil _ _ _)⟩
  ·unfold cp at hroom;have hle  := aY (fK _ hby.2) hroom;refine(hC b off xs.length cap us w hul (by grind [maxLen]) aH (fun p u hp=>(hcell p u hp).1) hone).mono ?_
   rintro e w' ⟨v',rfl,⟨_,hown⟩,hnn,hb⟩;obtain⟨g,cap',cur,rfl,hg,hg',hn1,_,hcs,htk⟩:=hown.resolve_left (fun h=>hnn h.1)
   have ext:Ext j M w j M w':=Ext.grow hb.size hb.os hb.tape hb.output hb.block;refine⟨_,j,rfl,hr.grow hb.size hb.os hb.tape hb.output hb.block,ext,.plain ?_⟩
   have hcl:∀p,p<us.length->cur[p]?=us[p]?:=fun p hp=>by
    rw[<-htk,bH aH]; simp
   obtain⟨vs,t,a1,a2,a3,a4⟩:=mG (j':=j) hg' hw (hrl.mono ext.iy) hcl;rw[hg'] at a1; injection a1 with a1; injection a1 with a1 a1'
   subst a1;have:=xU hg' a3 a4 (fun b off h=>h) (fun off ho=>⟨lt_of_block hg',fun id hid hji=>by have:=hr.lt id g hid hji; omega,fun hx=>by have:=hr.AB g off hx; omega⟩) (cL _) (au _) aH
   simpa using this
 grind
theorem zG(hsz:0<sz)(hby:bytes*8<=2 ^ 20/\0<bytes)
  (hC:zq P f E sz bytes) (h0:wT P f)
  {args:List ag} {M:aC} {x:ag×aC} (h:sk sz bytes args M=some x):db P f args M x:=by
 unfold sk at h;split at h
 ·rename_i tk xs;refine nK.call ?_;intro j w vs hr hG hl hv;obtain⟨u,rfl⟩:=CZ hl;have h1:=(hv 0 _ u rfl rfl).xE;obtain⟨⟨hw,hroom⟩,h⟩:=da h;cases h;obtain⟨A,cap,rfl,hcap,h2⟩:=nU h1 hw;rcases h2 with rfl|⟨b,off,rfl,us,hrl,hul,hone,hcell⟩
  ·refine(h0 A cap w).mono ?_;rintro e w' ⟨⟨B,rfl⟩,hb⟩;have q:Quiet w w':=⟨hb.size,hb.os,hb.tape,hb.output⟩;refine⟨_,gz j M.length none,rfl,hr.push (fun b h=>by cases h) q hb.block (fun h=>by cases h) (fun _ _ _ _ h=>by cases h),Ext.push (fun b h=>by cases h) q hb.block,?_⟩
   refine .own (kg ..) (au _) (fQ.nil _ _ _) fun _ => .inl ⟨by simp[gz],rfl,B,rfl⟩
  ·unfold cp at hroom;have hle:xs.length<=2 ^ 44:=aY (fK _ hby.2) hroom;refine(hC b off xs.length cap us w hul (by grind [maxLen]) aH (fun p u hp=>(hcell p u hp).1) hone).mono ?_
   rintro e w' ⟨v',rfl,⟨_,hown⟩,hnn,hb⟩;obtain⟨g,cap',cur,rfl,hg,hg',hn1,_,hcs,htk⟩:=hown.resolve_left (fun h=>hnn h.1)
   have q:Quiet w w':=⟨hb.size,hb.os,hb.tape,hb.output⟩;have hob:∀b,some g=some b->w.heap.size<=b/\b<w'.heap.size:=fun b h=>jK
   have ext:Ext j M w (gz j M.length (some g)) (M++[.tick sz xs.length]) w':=Ext.push (fun b h=>(hob b h).1) q hb.block
   refine⟨_,gz j M.length (some g),rfl,hr.push hob q hb.block (fun h=>by cases h) (fun _ _ b _ h=>jK),ext,?_⟩
   have hcl:∀p,p<us.length->cur[p]?=us[p]?:=fun p hp=>by
    rw[<-htk,bH (by rw[<-hul]; exact hp)]; simp
   obtain⟨vs,t,a1,a2,a3,a4⟩:=mG (j':=gz j M.length (some g)) (M':=M++[.tick sz xs.length]) hg' hw (hrl.mono ext.iy) hcl;rw[hg'] at a1; injection a1 with a1; injection a1 with a1 a1'
   subst a1
   have:=xU (lo:=0) (hi:=xs.length) (cap:=cap') hg' a3 a4 (fun b off h=>h) (fun off ho=>⟨lt_of_block hg',fun id hid hji=>by
    rcases bz id M.length with hid'|hid'
    ·have hj:j id=some g:=by simpa[gz,gG hid'] using hji
     have:=hr.lt id g hid' hj; omega
    grind,fun hx=>by have:=hr.AB g off hx; omega⟩) (cL _) (au _) aH
   refine .own (kg ..) (au _) (by simpa using this) fun _ => .inr ⟨g,cap',cur,E,by simp[gz],dy,hg',aH,aH⟩
 ·cases h
noncomputable def pCC(sz bytes:Nat)(args:List ag):aC->Option (ag×aC)
 | []=>JK sz bytes args []
 |b::M=>mQ sz bytes args (b::M)
def Rm(hsz:0<sz)(hby:bytes*8<=2 ^ 20/\0<bytes)
  (hC:zq P f E sz bytes) (h0:wT P f)
  {args:List ag} {M:aC} {x:ag×aC} (h:pCC sz bytes args M=some x):db P f args M x:=by
 cases M with
 |nil=>exact K5 hsz hby hC h0 h
 |cons b M=>exact sx hsz hby hC h0 h
def tj(hsz:0<sz){z:List Value}(hz:z.length=sz)
  (hD:abD P f sz z)
  {args:List ag} {M:aC} {x:ag×aC} (h:lI sz args M=some x):db P f args M x:=by
 unfold lI at h;split at h
 ·rename_i id ver sz' lo hi i i';rw[fc] at h;split at h
  ·rename_i sz0 v0 xs hM;obtain⟨hc,h⟩:=da h;cases h;obtain⟨rfl,rfl,rfl,rfl,hi0,hin,rfl,hbig⟩:=hc;refine nK.call ?_;intro j w vs hr hG hl hv;obtain⟨u1,u2,u3,rfl⟩:=EO hl;have h2:=(hv 1 _ u2 rfl rfl).fT;have h3:=(hv 2 _ u3 rfl rfl).fT;subst h2; subst h3;obtain⟨_,hid,_,g⟩:=(hv 0 _ u1 rfl rfl).ni;obtain⟨e1,_,_,⟨rfl,l3,B,rfl⟩|⟨b,cap,row,t0,l3,l4,l5,l6,l7⟩⟩:=(g sz0 v0 xs hM).2 rfl
   ·exact absurd hin dy
   subst e1; subst l4;obtain⟨b',row',t',k1,k2,k3,k4,k5⟩:=hr.yN hM l3;rw[l3] at k1; cases k1;rw[l6] at k2; injection k2 with k2; injection k2 with k2 k2'
   subst k2; subst k2';have hrow:=xT (b:=b) k3 k4 k5;rw[bO] at l5;rw[aG] at l7;generalize hcs:row.toList.take (xs.length*sz0)=cs at hrow;have hcl:cs.length=xs.length*sz0:=by rw[<-hcs]; simp; omega
   have hat:∀p v,cs[p]?=some v->row[p]?=some v:=fun p v hp=>by
    have cG:p<xs.length*sz0:=by rw[<-hcl]; exact aN hp
    rw[<-hcs,bH cG] at hp; simpa using hp
   obtain⟨m,rfl⟩:∃m:Nat,i=m:=⟨i.toNat,(oy (by assumption)).symm⟩
   simp only[eL] at hin ⊢;have e0:((m:Int)+1)=((m+1:Nat):Int):=rfl;rw[bO,jG,e0];refine(hD b cap m (m+1) xs.length cs w hcl l5 aH hin rfl (fun p v hp=>⟨by simp[World.cell?,l6,hat p v hp],by simp[World.frozen?,l6],?_⟩)).mono ?_
   ·have hp':p<(j9 xs).length:=by rw[hrow.1]; exact aN hp
    exact fQ.one (hrow.2 p _ v (ai hp') hp)
   ·rintro e w' ⟨rfl,hw'⟩;rw[oq,oq] at hw';have hl1:(cs.drop ((m+1)*sz0)).length=(xs.length-(m+1))*sz0:=by rw[gZ,hcl,mF]
    have ha1:(m+1)*sz0=m*sz0+sz0:=by rw[bP,fL]
    have ha2:(xs.length-(m+1))*sz0=xs.length*sz0-(m*sz0+sz0):=by rw[mF,ha1]
    have ha3:(xs.length-1)*sz0=xs.length*sz0-sz0:=by rw[mF,fL]
    have ha4:m*sz0+sz0<=xs.length*sz0:=by rw[<-ha1]; exact bd _ hin
    have hd:w.drew.heap=w.heap:=rfl;obtain⟨s1,s2,s3,s4,s5,r1,s6,s7,s8,s9⟩:=mw (t:=t0) (cs.drop ((m+1)*sz0)) w.drew (m*sz0) row (by rw[hd]; exact l6) (by rw[hl1]; omega)
    obtain⟨q1,q2,q3,q4,q5,r2,q6,q7,q8,q9⟩:=mw (t:=t0) z _ ((xs.length-1)*sz0) r1 s6 (by rw[hz,s7]; omega)
    rw[<-hw'] at q1 q2 q3 q4 q5 q6;have hwd:wid (xs.take m++xs.drop (m+1)) sz0:=nB (vP k4) (vO k4)
    have jv:RL w (oo j M w) (j9 (xs.take m++xs.drop (m+1))) (cs.take (m*sz0)++cs.drop ((m+1)*sz0)):=by
     rw[oO,r9 m k4,tY (m+1) k4];exact(hrow.take _).append (hrow.drop _)
    have htk:(cs.take (m*sz0)).length=m*sz0:=by rw[cq,hcl]; omega
    have hput:=xR (ver':=v0+1) (xs':=xs.take m++xs.drop (m+1)) hr hM l3 (w':=w') ⟨by rw[q1,s1]; simp,q2.trans s2,q3.trans s3,q4.trans s4⟩ (fun b' hb' _=>(q5 b' hb').trans (s5 b' hb')) l6 q6 (q7.trans s7) aH (fun h=>aH) hwd jv (fun p hp=>by
     rw[aA,htk,hl1] at hp;rw[q8 p (.inl aH)];rcases bz p (m*sz0) with c1|c1
     ·rw[s8 p (.inl c1),aO (by rw[htk]; exact c1),bH c1]
      have hp1:p<cs.length:=aH;rw[hat p _ (ai hp1),ai hp1]
     ·rw[bj (by rw[htk]; exact c1),htk]
      have:=s9 (p-m*sz0) (by rw[hl1]; omega)
      rw[dj c1] at this;exact this)
    rw[fi];refine⟨_,j,rfl,hput.1,hput.2,.cv (.inl ⟨b,0,cap,rfl,aH⟩) (by simpa using hid) (fun bx hbx=>by rw[ec (aN hM)] at hbx; cases hbx; rfl) fun sz' v' ys hx=>?_⟩
    rw[ec (aN hM)] at hx; injection hx with hx; injection hx with e1 e2 e3
    subst e1; subst e2; subst e3;exact⟨au _,fun _=>⟨rfl,cL _,gh,.inr ⟨b,cap,r2,t0,l3,dy,aH,q6,by rw[aG,q7,s7]; exact l7⟩⟩⟩
  ·cases h
 ·cases h
end
section
variable {sz:Nat} {w:World} {b n c i:Nat} {row:Array Value} {t:TypeId} {cs vs:List Value} {e:Ending} {w':World}
def rV(w:World)(o:Obj):(w.alloc o).heap=w.heap.push o:=rfl
def tD(w:World):w.drew.heap=w.heap:=rfl
def Cw{A B C:List Value}{p:Nat}:(A++(B++C))[p]?=if p<A.length then A[p]? else if p<A.length+B.length then B[p-A.length]? else C[p-A.length-B.length]?:=by
 split
 ·rw[aO (by assumption)]
 ·rw[bj aH];split
  ·rw[aO aH]
  ·rw[bj aH]
def Ps(hi:i<n)(hroom:n+1<=c)(hcl:cs.length=n*sz)(hvl:vs.length=sz)(hw:w.heap[b]?=some (.cells row t (0,0)))(hrow:c*sz<=row.size)(hat:∀(p:Nat)(v:Value),cs[p]?=some v->row[p]?=some v)
  (he:e = .returned (.slice (some ⟨b,0,none⟩) (n+1) c)) (hw':w'=(w.drew.setCells b ((i+1)*sz) (cs.drop (i*sz))).setCells b (i*sz) vs):xO sz w b row t n i cs vs e w':=by
 have a1:(i+1)*sz=i*sz+sz:=by rw[bP,fL]
 have a2:(n+1)*sz=n*sz+sz:=by rw[bP,fL]
 have a3:i*sz+sz<=n*sz:=by rw[<-a1]; exact bd _ hi
 have a4:(n+1)*sz<=row.size:=aY (bd _ hroom) hrow;have hdl:(cs.drop (i*sz)).length=n*sz-i*sz:=by rw[gZ,hcl]
 rw[oq,oq] at hw';obtain⟨s1,s2,s3,s4,s5,r1,s6,s7,s8,s9⟩:=mw (t:=t) (cs.drop (i*sz)) w.drew ((i+1)*sz) row hw aH;obtain⟨q1,q2,q3,q4,q5,r2,q6,q7,q8,q9⟩:=mw (t:=t) vs _ (i*sz) r1 s6 aH;rw[<-hw'] at q1 q2 q3 q4 q5 q6;have htk:(cs.take (i*sz)).length=i*sz:=by rw[cq,hcl]; omega
 refine⟨b,c,r2,t,he,hroom,q6,by rw[q7,s7]; exact hrow,fun p hp=>?_,⟨by rw[q1,s1]; exact au _,q2.trans s2,q3.trans s3,q4.trans s4⟩,.inl ⟨rfl,rfl,q7.trans s7,fun b0 h0 _=>(q5 b0 h0).trans (s5 b0 h0)⟩⟩
 rw[Cw,htk,hvl];split
 ·rename_i c1;rw[q8 p (.inl c1),s8 p (.inl aH),bH c1];have hp1:p<cs.length:=aH;rw[hat p _ (ai hp1),ai hp1]
 ·rename_i c1;split
  ·have:=q9 (p-i*sz) aH;rwa[dj aH] at this
  ·rw[q8 p (.inr aH)];have:=s9 (p-(i+1)*sz) aH;rw[dj aH] at this;rw[this]; congr 1; omega
def SU(hroom:n+1<=c)(hcl:cs.length=n*sz)(hvl:vs.length=sz)(hw:w.heap[b]?=some (.cells row t (0,0)))(hrow:c*sz<=row.size)(hat:∀(p:Nat)(v:Value),cs[p]?=some v->row[p]?=some v)
  (he:e = .returned (.slice (some ⟨b,0,none⟩) (n+1) c)) (hw':w'=w.setCells b (n*sz) vs):xO sz w b row t n n cs vs e w':=by
 have a2:(n+1)*sz=n*sz+sz:=by rw[bP,fL]
 have a4:(n+1)*sz<=row.size:=aY (bd _ hroom) hrow;rw[oq] at hw';obtain⟨q1,q2,q3,q4,q5,r2,q6,q7,q8,q9⟩:=mw (t:=t) vs w (n*sz) row hw aH;rw[<-hw'] at q1 q2 q3 q4 q5 q6;refine⟨b,c,r2,t,he,hroom,q6,by rw[q7]; exact hrow,fun p hp=>?_,⟨by rw[q1]; exact au _,q2,q3,q4⟩,.inl ⟨rfl,rfl,q7,fun b0 h0 _=>q5 b0 h0⟩⟩
 rw[<-hcl,bE,List.drop_length,cX];rcases bz p cs.length with c1|c1
 ·rw[q8 p (.inl aH),aO c1,hat p _ (ai c1),ai c1]
 ·rw[bj c1];have:=q9 (p-n*sz) aH;rw[dj aH] at this;rw[this,hcl]
def zV{z:Value}{E:TypeId}(hsz:0<sz)(hz:z.cells.size=sz)(hcl:cs.length=n*sz)(hvl:vs.length=sz)(hG:n+1<=c)
  (he:e = .returned (.slice (some ⟨w.heap.size,0,none⟩) (n+1) c)) (hw':w'=w.drew.alloc (.cells ((cs++vs).toArray++Builtin.zeroCells z.cells (c-(n+1))) E)):xO sz w b row t n n cs vs e w':=by
 have a2:(n+1)*sz=n*sz+sz:=by rw[bP,fL]
 have hzl:(Builtin.zeroCells z.cells (c-(n+1))).size=(c-(n+1))*sz:=by simp[Builtin.zeroCells,hz]
 have a3:c*sz=(n+1)*sz+(c-(n+1))*sz:=by rw[<-bP,dj hG]
 subst hw';refine⟨w.heap.size,c,(cs++vs).toArray++Builtin.zeroCells z.cells (c-(n+1)),E,he,hG,by rw[rV,tD]; simp,by simp[hzl,hcl,hvl]; omega,fun p hp=>?_,⟨by rw[rV,tD]; simp,rfl,rfl,rfl⟩,.inr ⟨au _,fun b0 h0=>by rw[rV,tD]; simp[fS,gG h0]⟩⟩
 rw[cj gh,<-hcl,bE,List.drop_length,cX];simp
def SS{z:Value}{E:TypeId}(hsz:0<sz)(hz:z.cells.size=sz)(hi:i<n)(hcl:cs.length=n*sz)(hvl:vs.length=sz)(hG:n+1<=c)
  (he:e = .returned (.slice (some ⟨w.heap.size,0,none⟩) (n+1) c))
  (hw':w'=(((w.alloc (.cells ((cs.take (i*sz)).toArray++Builtin.zeroCells z.cells (n+1-i)++Builtin.zeroCells z.cells (c-(n+1))) E)).drew.setCells w.heap.size (i*sz) vs).drew).setCells w.heap.size ((i+1)*sz) (cs.drop (i*sz))):xO sz w b row t n i cs vs e w':=by
 have a1:(i+1)*sz=i*sz+sz:=by rw[bP,fL]
 have a2:(n+1)*sz=n*sz+sz:=by rw[bP,fL]
 have a3:i*sz+sz<=n*sz:=by rw[<-a1]; exact bd _ hi
 have hz1:(Builtin.zeroCells z.cells (n+1-i)).size=(n+1-i)*sz:=by simp[Builtin.zeroCells,hz]
 have hz2:(Builtin.zeroCells z.cells (c-(n+1))).size=(c-(n+1))*sz:=by simp[Builtin.zeroCells,hz]
 have a4:c*sz=(n+1)*sz+(c-(n+1))*sz:=by rw[<-bP,dj hG]
 have a5:(n+1)*sz=i*sz+(n+1-i)*sz:=by rw[<-bP,dj aH]
 have htk:(cs.take (i*sz)).length=i*sz:=by rw[cq,hcl]; omega
 have hdl:(cs.drop (i*sz)).length=n*sz-i*sz:=by rw[gZ,hcl]
 generalize hR:(cs.take (i*sz)).toArray++Builtin.zeroCells z.cells (n+1-i)++Builtin.zeroCells z.cells (c-(n+1))=ROW at hw';have hRs:ROW.size=c*sz:=by rw[<-hR]; simp only[fW,hz1,hz2,cU,htk]; omega
 have hR0:∀p,p<i*sz->ROW[p]?=cs[p]?:=fun p hp=>by
  rw[<-hR,cj (by simp only[fW,hz1,cU,htk]; omega),cj (by simp only[cU,htk]; exact hp)]
  simp[bH hp]
 rw[oq,oq] at hw';have h0:((w.alloc (.cells ROW E)).drew).heap[w.heap.size]?=some (.cells ROW E (0,0)):=by rw[tD,rV]; simp
 obtain⟨s1,s2,s3,s4,s5,r1,s6,s7,s8,s9⟩:=mw (t:=E) vs _ (i*sz) ROW h0 aH;obtain⟨q1,q2,q3,q4,q5,r2,q6,q7,q8,q9⟩:=mw (t:=E) (cs.drop (i*sz)) (pr ((w.alloc (.cells ROW E)).drew) w.heap.size (i*sz) vs).drew ((i+1)*sz) r1 s6 aH;rw[<-hw'] at q1 q2 q3 q4 q5 q6;have hpush:((w.alloc (.cells ROW E)).drew).heap.size=w.heap.size+1:=by rw[tD,rV]; simp
 refine⟨w.heap.size,c,r2,E,he,hG,q6,aH,fun p hp=>?_,⟨?_,q2.trans s2,q3.trans s3,q4.trans s4⟩,.inr ⟨au _,fun b0 hb0=>?_⟩⟩
 ·rw[Cw,htk,hvl];split
  ·rename_i c1;rw[q8 p (.inl aH),s8 p (.inl c1),hR0 p c1,bH c1]
  ·rename_i c1;split
   ·rw[q8 p (.inl aH)];have:=s9 (p-i*sz) aH;rwa[dj aH] at this
   ·have:=q9 (p-(i+1)*sz) aH;rw[dj aH] at this;rw[this]; congr 1; omega
 ·have e1:(pr ((w.alloc (.cells ROW E)).drew) w.heap.size (i*sz) vs).drew.heap.size=(pr ((w.alloc (.cells ROW E)).drew) w.heap.size (i*sz) vs).heap.size:=rfl;omega
 ·rw[q5 b0 aH];refine(s5 b0 aH).trans ?_;rw[tD,rV]; simp[fS,gG hb0]
end
def tn{P:Program}{f sz bytes:Nat}(hsz:0<sz)(hby:0<bytes)
  (hI:QZ P f sz bytes) (h0:Q0 P f sz)
  {args:List ag} {M:aC} {x:ag×aC} (h:lf sz bytes args M=some x):db P f args M x:=by
 unfold lf at h;split at h
 ·rename_i id ver sz' lo hi i tk el;rw[fc] at h;split at h
  ·rename_i sz0 v0 xs hM;obtain⟨hc,h⟩:=da h;cases h;obtain⟨rfl,rfl,rfl,rfl,hi0,hin,hel,hroom⟩:=hc;refine nK.call ?_;intro j w vs hr hG hl hv;obtain⟨u1,u2,u3,rfl⟩:=EO hl;have h2:=(hv 1 _ u2 rfl rfl).fT;subst h2;have h3:=(hv 2 _ u3 rfl rfl).xE;have hwe:wid [el] sz':=fun y hy=>by rw[bS.1 hy]; exact hel
   obtain⟨A,vc,rfl,_,h4⟩:=nU h3 hwe;obtain⟨vb,voff,rfl,us,hrl,hul,hone,hcell⟩:=h4.resolve_left dy;obtain⟨_,hid,_,g⟩:=(hv 0 _ u1 rfl rfl).ni;obtain⟨e1,_,_,⟨rfl,l3,B,rfl⟩|⟨b,cap,row,t0,l3,l4,l5,l6,l7⟩⟩:=(g sz0 v0 xs hM).2 rfl
   ·subst e1;have hm0:i=0:=by simp at hin; omega
    subst hm0;have hvl:us.length=sz0:=by simpa using hul
    refine(h0 B vb voff vc us w #[] hvl (fun p v hp=>(hcell p v hp).1) hone).mono ?_
    rintro e w' ⟨b',cap',row',t',rfl,d1,d2,d3,d4,q,d5⟩
    have hbk:w.heap.size<=b'/\∀b0,b0<w.heap.size->w'.heap[b0]?=w.heap[b0]?:=by
     rcases d5 with ⟨rfl,_,_,d7⟩|d5
     ·exact⟨au _,fun b0 hb0=>d7 b0 (gG hb0) hb0⟩
     ·exact d5
    have hrel:=Rel.uW (ver':=v0+1) (xs':=[el]) hM hr q hbk.2 hbk.1 (lt_of_block d2) aH (fun j' M' hx=>mG d2 hwe (hrl.mono hx.iy) (fun p hp=>by have:=d4 p aH; simpa using this))
    have hext:=Ext.uW (j:=j) (ver':=v0+1) (xs':=[el]) hM q hbk.2 hbk.1 aH;rw[fi];refine⟨_,_,rfl,by simpa using hrel,by simpa using hext,.cv (.inl ⟨b',0,cap',rfl,by simpa using d1⟩) (by simpa using hid) (fun bx hbx=>by rw[ec (aN hM)] at hbx; cases hbx; rfl) fun sz' v' ys hx=>?_⟩
    rw[ec (aN hM)] at hx; injection hx with hx; injection hx with e1 e2 e3
    subst e1; subst e2; subst e3;exact⟨au _,fun _=>⟨rfl,cL _,dy,.inr ⟨b',cap',row',t',by simp[gz],dy,by simpa using d1,d2,by rw[aG]; exact d3⟩⟩⟩
   subst e1; subst l4;obtain⟨b',row',t',k1,k2,k3,k4,k5⟩:=hr.yN hM l3;rw[l3] at k1; cases k1;rw[l6] at k2; injection k2 with k2; injection k2 with k2 k2'
   subst k2; subst k2';have hrow:=xT (b:=b) k3 k4 k5;rw[bO] at l5;rw[aG] at l7;generalize hcs:row.toList.take (xs.length*sz0)=cs at hrow;have hcl:cs.length=xs.length*sz0:=by rw[<-hcs]; simp; omega
   have hat:∀p v,cs[p]?=some v->row[p]?=some v:=fun p v hp=>by
    have cG:p<xs.length*sz0:=by rw[<-hcl]; exact aN hp
    rw[<-hcs,bH cG] at hp; simpa using hp
   obtain⟨m,rfl⟩:∃m:Nat,i=m:=⟨i.toNat,(oy (by assumption)).symm⟩
   simp only[eL] at hin ⊢;unfold cp at hroom;have hbig:xs.length+1<=2 ^ 44:=aY (fK _ hby) hroom;have hvl:us.length=sz0:=by simpa using hul
   have hvb:vb≠b:=by
    rintro rfl;obtain⟨s,n,hs1,_⟩:=(hcell 0 _ (ai aH)).2.ids id hid l3;rw[hM] at hs1; cases hs1
   rw[bO,jG];refine(hI b xs.length cap m vb voff vc cs us w row t0 hin l5 aH aH hvb hcl hvl l6 l7 hat (fun p v hp=>(hcell p v hp).1) (fun v hv=>?_) hone).mono ?_
   ·obtain⟨p,hp⟩:=bV hv;have hp':p<(j9 xs).length:=by rw[hrow.1]; exact aN hp
    exact fQ.one (hrow.2 p _ v (ai hp') hp)
   ·rintro e w' ⟨b',cap',row',t',rfl,d1,d2,d3,d4,q,d5⟩
    have hwd:wid (xs.take m++el::xs.drop m) sz0:=nB (vP k4) (fun y hy=>by
     rcases bI.1 hy with rfl|hy
     ·exact hel
     ·exact vO k4 y hy)
    have jv:RL w (oo j M w) (j9 (xs.take m++el::xs.drop m)) (cs.take (m*sz0)++(us++cs.drop (m*sz0))):=by
     rw[oO,oQ,r9 m k4,tY m k4];have hrl':RL w (oo j M w) el.cells us:=by simpa[j9] using hrl
     exact(hrow.take _).append (hrl'.append (hrow.drop _))
    have dJ:(xs.take m++el::xs.drop m).length=xs.length+1:=gh;have hpl:(cs.take (m*sz0)++(us++cs.drop (m*sz0))).length=(xs.length+1)*sz0:=by rw[<-jv.1,iM hwd,dJ]
    rw[fi];rcases d5 with ⟨rfl,rfl,d6,d7⟩|⟨d6,d7⟩
    ·have hput:=xR (ver':=v0+1) (xs':=xs.take m++el::xs.drop m) hr hM l3 q d7 l6 d2 d6 aH (fun h=>aH) hwd jv (fun p hp=>d4 p (by rw[<-hpl]; exact hp))
     refine⟨_,j,rfl,hput.1,hput.2,.cv (.inl ⟨b',0,cap',rfl,aH⟩) (by simpa using hid) (fun bx hbx=>by rw[ec (aN hM)] at hbx; cases hbx; rfl) fun sz' v' ys hx=>?_⟩
     rw[ec (aN hM)] at hx; injection hx with hx; injection hx with e1 e2 e3
     subst e1; subst e2; subst e3;exact⟨au _,fun _=>⟨rfl,cL _,aH,.inr ⟨b',cap',row',t',l3,dy,aH,d2,by rw[aG]; exact d3⟩⟩⟩
    ·have hrel:=Rel.uW (ver':=v0+1) (xs':=xs.take m++el::xs.drop m) hM hr q d7 d6 (lt_of_block d2) aH (fun j' M' hx=>mG d2 hwd (jv.mono hx.iy) (fun p hp=>d4 p (by rw[<-hpl]; exact hp)))
     have hext:=Ext.uW (j:=j) (ver':=v0+1) (xs':=xs.take m++el::xs.drop m) hM q d7 d6 aH;refine⟨_,_,rfl,hrel,hext,.cv (.inl ⟨b',0,cap',rfl,aH⟩) (by simpa using hid) (fun bx hbx=>by rw[ec (aN hM)] at hbx; cases hbx; rfl) fun sz' v' ys hx=>?_⟩
     rw[ec (aN hM)] at hx; injection hx with hx; injection hx with e1 e2 e3
     subst e1; subst e2; subst e3;exact⟨au _,fun _=>⟨rfl,cL _,aH,.inr ⟨b',cap',row',t',by simp[gz],dy,aH,d2,by rw[aG]; exact d3⟩⟩⟩
  ·cases h
 ·rename_i i tk el;obtain⟨hc,h⟩:=da h;cases h;obtain⟨rfl,hel⟩:=hc;refine nK.call ?_;intro j w vs hr hG hl hv;obtain⟨u1,u2,u3,rfl⟩:=EO hl;have h2:=(hv 1 _ u2 rfl rfl).fT;subst h2;have h3:=(hv 2 _ u3 rfl rfl).xE;have hwe:wid [el] sz:=fun y hy=>by rw[bS.1 hy]; exact hel
  obtain⟨A,vc,rfl,_,h4⟩:=nU h3 hwe;obtain⟨vb,voff,rfl,us,hrl,hul,hone,hcell⟩:=h4.resolve_left dy;obtain⟨B,rfl⟩:=(hv 0 _ u1 rfl rfl).Dk;have hvl:us.length=sz:=by simpa using hul
  refine(h0 B vb voff vc us w #[] hvl (fun p v hp=>(hcell p v hp).1) hone).mono ?_
  rintro e w' ⟨b',cap',row',t',rfl,d1,d2,d3,d4,q,d5⟩
  have hbk:w.heap.size<=b'/\∀b0,b0<w.heap.size->w'.heap[b0]?=w.heap[b0]?:=by
   rcases d5 with ⟨rfl,_,_,d7⟩|d5
   ·exact⟨au _,fun b0 hb0=>d7 b0 (gG hb0) hb0⟩
   ·exact d5
  have hob:∀b,some b'=some b->w.heap.size<=b/\b<w'.heap.size:=fun b h=>by cases h; exact⟨hbk.1,lt_of_block d2⟩
  have ext:Ext j M w (gz j M.length (some b')) (M++[.arr sz 0 [el]]) w':=Ext.push (fun b h=>(hob b h).1) q hbk.2
  refine⟨_,gz j M.length (some b'),rfl,hr.push hob q hbk.2 (fun h=>by cases h) (fun sz n b h _=>by cases h) (fun sz0 v0 xs0 he=>?_),ext,?_⟩
  ·injection he with e1 e2 e3
   subst e1; subst e3;refine .inr ⟨b',row',t',rfl,d2,by simp at d1 d3 ⊢; exact aY (Nat.le_mul_of_pos_left _ aH) d3,hwe,fun j' M' hx q x k c hx' hk=>?_⟩
   obtain⟨vs,t,a1,a2,a3,a4⟩:=mG (j':=j') (M':=M') d2 hwe (hrl.mono hx.iy) (fun p hp=>by have:=d4 p aH; simpa using this)
   rw[d2] at a1; injection a1 with a1; injection a1 with a1 a1'
   subst a1;exact a4 q x k c hx' hk
  ·refine .cv (.inl ⟨b',0,cap',rfl,aH⟩) dy (fun bx hbx=>by rw[kg] at hbx; cases hbx; rfl) fun sz' v' xs hx=>?_
   rw[kg] at hx; injection hx with hx; injection hx with e1 e2 e3
   subst e1; subst e2; subst e3;exact⟨au _,fun _=>⟨rfl,cL _,au _,.inr ⟨b',cap',row',t',by simp[gz],dy,aH,d2,by rw[aG]; exact d3⟩⟩⟩
 ·cases h
end Go.Abs
namespace Go.Proofs.YteoamaffclmdbaaGreatDoor
open Go Go.Abs
open Go.RowKit Go.Lib
def GN{P:Program}(w:World){o:Oper}{a:Act}{K:Act->World->Prop}{Q:Exit->Act->World->Prop}(d s:Operand)(t t':TypeId)
  (ho:o.op = .call { callee := .builtin .copy,args := #[d,s],argTypes := #[t,t'] }) (v u:Value) (hd:a.eval d=v) (hs:a.eval s=u) {v':Value} {w':World}
  (hr:(Builtin.copy_ #[t,t'] o.type #[v,u]).run P w = .ok v' w') (h:K (a.put o.dst v') w'):o.wp P a w K Q:=by
 unfold Oper.wp execOp;simp only[ho,resolve,invoke,builtin,Sem.run_bind,Sem.run_pure,Result.andThen_ok,List.map_toArray,aE,aQ,hd,hs,hr];exact h
def ve{P:Program}(w:World){ops:Array Oper}{rest:List Oper}{o:Oper}{a:Act}{Q:Exit->Act->World->Prop}(hgd:o.guard=none)(d s:Operand)(t t':TypeId)
  (ho:o.op = .call { callee := .builtin .copy,args := #[d,s],argTypes := #[t,t'] }) (v u:Value) (hd:a.eval d=v) (hs:a.eval s=u) {v':Value} {w':World}
  (hr:(Builtin.copy_ #[t,t'] o.type #[v,u]).run P w = .ok v' w') (h:wpList P ops Q rest (a.put o.dst v') w'):wpList P ops Q (o::rest) a w :=
 wpList_plain hgd fun _ hK=>GN w d s t t' ho v u hd hs hr (hK _ _ h)
def Ct{P:Program}{ops:Array Oper}{o:Oper}{a:Act}{w:World}{K:Act->World->Prop}{Q:Exit->Act->World->Prop}{E:Prop}
  (hg:o.guard=none) (d x:Operand) (dT sT:TypeId) (hop:o.op=Op.call { callee:=Callee.builtin Builtin.copy,args := #[d,x],argTypes := #[dT,sT] })
  (v u:Value) (hd:a.eval d=v) (hx:a.eval x=u) {v':Value} {w':World} (hr:(Builtin.copy_ #[dT,sT] o.type #[v,u]).run P w = .ok v' w') (hK:K (a.put o.dst v') w') :
  if Region.wanted o (yielded ops a.tmps) then Oper.wp P o a w K Q else E:=by
 rw[aZ (show Region.wanted o (yielded ops a.tmps)=true by simp[Region.wanted,hg])]
 exact GN w d x dT sT hop v u hd hx hr hK
def Fh{P:Program}{ops:Array Oper}{o:Oper}{a:Act}{w:World}{K:Act->World->Prop}{Q:Exit->Act->World->Prop}{E:Prop}
  (hg:o.guard=none) (d x:Operand) (dT sT:TypeId) (hop:o.op=Op.call { callee:=Callee.builtin Builtin.append,args := #[d,x],argTypes := #[dT,sT] })
  (v u:Value) (hd:a.eval d=v) (hx:a.eval x=u) {v':Value} {w':World} (hr:(Builtin.append_ #[dT,sT] o.type #[v,u]).run P w = .ok v' w') (hK:K (a.put o.dst v') w') :
  if Region.wanted o (yielded ops a.tmps) then Oper.wp P o a w K Q else E:=by
 rw[aZ (show Region.wanted o (yielded ops a.tmps)=true by simp[Region.wanted,hg])]
 exact wp_append_run w d x dT sT hop v u hd hx v' w' hr hK
section
variable {P:Program} {S E:TypeId} {k by' f fo:Nat} {z:Value}
def ye(w:World)(dT sT ty elem:TypeId)(k b o dLen dCap:Nat)(a:Addr)(sLen sCap:Nat)(cs:List Value)(m:Nat)
  (hu:P.underlying dT=some (.slice elem)) (hs:(P.info? elem).map (·.size)=some k) (hm:m=Nat.min sLen dLen) (hn:cs.length=m*k)
  (hsrc:∀j v,cs[j]?=some v->w.cell? (a.add j)=some v) (hc:∀j,j<cs.length->(w.cell? ⟨b,o+j,none⟩).isSome=true) (hf:∀j,j<cs.length->w.frozen? ⟨b,o+j,none⟩=false) (h1:∀v∈cs,v.oneCell'=true) :
  (Builtin.copy_ #[dT,sT] ty #[.slice (some ⟨b,o,none⟩) dLen dCap,.slice (some a) sLen sCap]).run P w = .ok (goInt m) (w.setCells b o cs):=by
 have hl:=run_loadCells_list (P:=P) w a cs hsrc;have hst:=run_storeCells_cells (P:=P) b o cs 0 w (by simpa using hc) (by simpa using hf) h1
 cases hq:P.info? elem with
 |none=>simp[hq] at hs
 |some i =>
  have hi:i.size=k:=by simpa[hq] using hs
  simp only[c8] at hst;rw[hn] at hl;subst hm;simp[Builtin.copy_,run_underlying hu,Builtin.lenOf,Builtin.firstCells,sizeOf,typeInfo,hq,hi,hl,hst]
def EA(w:World)(tS tR e:TypeId)(ht:P.underlying tS=some (.slice e))(size:Nat)(hz:∀w,(Go.sizeOf e).run P w = .ok size w)
  (a b:Addr) (la ca lb cb:Nat) (hne:a.block≠b.block) (tA tB:TypeId) (kA:Nat) (vs:Array Value) (hsa:w.shape? a.block=some (tA,kA+1)) (hb:w.heap[b.block]?=some (.cells vs tB (0,0))) :
  (Extern.SlicesOverlaps.overlaps #[tS,tS] #[tR] #[.slice (some a) la ca,.slice (some b) lb cb]).run P w = .ok (.bool false) w:=by
 have hnb:(a.block != b.block)=true:=by simpa using hne
 have hnb':(a.block==b.block)=false:=by simpa using hne
 have hsb:w.shape? b.block=some (tB,vs.size):=by simp[World.shape?,hb]
 have hfb:∀o s,w.frozen? ⟨b.block,o,s⟩=false:=fun o s=>by simp[World.frozen?,hb]
 have hfb':w.frozen? b=false:=by simp[World.frozen?,hb]
 rw[show Extern.SlicesOverlaps.overlaps #[tS,tS] #[tR] #[.slice (some a) la ca,.slice (some b) lb cb]=(underlying tS >>= _) from rfl]
 by_cases h0:la=0\/lb=0\/size=0
 ·simp[run_underlying ht,hz,h0]
 ·cases hfa:w.frozen? a with
  |true=>simp[run_underlying ht,hz,h0,hnb,hnb',frozen,noView,viewAt,mayBeOne,stringish,shape,Sem.run,hsa,hsb,hfa,hfb,hfb']
  |false =>
   cases hfe:w.frozen? { block:=a.block,off:=kA+1 } <;>
   simp[run_underlying ht,hz,h0,hnb,hnb',frozen,noView,viewAt,mayBeOne,stringish,shape,Sem.run,hsa,hsb,hfa,hfb,hfb',hfe]
def CN(w:World)(t e ty:TypeId)(ht:P.underlying t=some (.slice e)){i:TypeInfo}(hi:P.info? e=some i){z:Value}(hz:i.zero=some z)(b o n c:Nat)(hn:0<n)
  (zs:List Value) (hzs:zs=(Builtin.zeroCells z.cells n).toList) (hc:∀j,j<zs.length->(w.cell? ⟨b,o+j,none⟩).isSome=true) (hf:∀j,j<zs.length->w.frozen? ⟨b,o+j,none⟩=false) (h1:∀v∈zs,v.oneCell'=true) :
  (Builtin.clear_ #[t] ty #[.slice (some ⟨b,o,none⟩) n c]).run P w = .ok (.tuple #[]) (w.setCells b o zs):=by
 have hst:=run_storeCells_cells (P:=P) b o zs 0 w (by simpa using hc) (by simpa using hf) h1
 simp only[c8] at hst;rw[hzs] at hst;obtain⟨m,rfl⟩:∃m,n=m+1:=⟨n-1,aH⟩;rw[hzs];simp[Builtin.clear_,run_underlying ht,zeroValue,typeInfo,hi,hz,hst]
def qN(b:Nat)(vs:List Value)(o:Nat)(w:World)(h:∀j,j<vs.length->(w.cell? ⟨b,o+j,none⟩).isSome=true)(k:Nat)(hk:(w.cell? ⟨b,k,none⟩).isSome=true):((w.setCells b o vs).cell? ⟨b,k,none⟩).isSome=true:=by
 by_cases hin:o<=k/\k<o+vs.length
 ·have:=World.cell?_setCells_in b vs o w h (k-o) aH;rw[show o+(k-o)=k by omega] at this
  rw[this];simp
 ·rw[World.cell?_setCells_out b vs o w ⟨b,k,none⟩ (fun _ _=>by show k<o\/o+vs.length<=k; omega)]
  exact hk
structure El(P:Program)(S E:TypeId)(k by':Nat)(z:Value):Prop where
 u:P.underlying S=some (.slice E)
 i:∃i0,P.info? E=some i0/\i0.size=k/\i0.zero=some z/\i0.bytes=by'
 c:z.cells.size=k
 o:∀v∈z.cells.toList,v.oneCell'=true
 p:0<k
 b:0<by'
def El.of(hu:P.underlying S=some (.slice E))(hi:(P.info? E).map (fun i=>(i.size,i.zero,i.bytes))=some (k,some z,by'))(hc:z.cells.size=k/\z.cells.toList.all (·.oneCell')=true)(hp:0<k)(hb:0<by'):El P S E k by' z:=by
 obtain⟨i0,h1,h2⟩:=aV.1 hi;injection h2 with h2 h3
 injection h3 with h3 h4
 exact⟨hu,⟨i0,h1,h2,h3,h4⟩,hc.1,bM.1 hc.2,hp,hb⟩
def El.s(h:El P S E k by' z):(P.info? E).map (·.size)=some k:=by
 obtain⟨i0,h1,h2,_⟩:=h.i;rw[h1]; simp[h2]
def El.so(h:El P S E k by' z)(w:World):(Go.sizeOf E).run P w = .ok k w:=by
 obtain⟨i0,h1,h2,_⟩:=h.i;simp[sizeOf,typeInfo,h1,h2]
def El.q(h:El P S E k by' z):(∀(w:World)(a:Option Addr)(n c n' c':Nat),(binOp .eql S (.slice a n c) (.slice none n' c')).run P w = .ok (.bool a.isNone) w)/\∀w,Sem.run P (underlying S) w = .ok (TypeDesc.slice E) w :=
 ⟨fun w a n c n' c'=>Lib.run_eql_slice_nil w _ _ a n c n' c' h.u,run_underlying h.u⟩
def wU(P:Program)(f:Nat)(S E:TypeId):Prop:=∀(b off n c:Nat)(w:World)(K:Value->World->Prop),
 (∀ {ops:Array Oper} {rest:List Oper} {o:Oper} {a:Act} {Q:Exit->Act->World->Prop},o.guard=none->∀s x,o.op = .call { callee := .builtin .append,args := #[s,x],argTypes := #[S,S] }->a.eval s = .slice (some ⟨w.heap.size,0,none⟩) 0 0 ->
  a.eval x = .slice (some ⟨b,off,none⟩) n c->(∀v' w1,K v' w1->wpList P ops Q rest (a.put o.dst v') w1)->wpList P ops Q (o::rest) a (w.alloc (.cells #[] E))) ->
 Calls P f #[.slice (some ⟨b,off,none⟩) n c] w fun e w'=>∃v',e = .returned v'/\K v' w'
def wS(P:Program)(f:Nat)(S E:TypeId):Prop:=∀(A:Option Addr)(c:Nat)(w:World),
 (∀ty a,(Builtin.append_ #[S,S] ty #[.slice (some ⟨w.heap.size,0,none⟩) 0 0,.slice (some a) 0 c]).run P (w.alloc (.cells #[] E)) = .ok (.slice (some ⟨w.heap.size,0,none⟩) 0 0) (w.alloc (.cells #[] E))) ->
 Calls P f #[.slice A 0 c] w fun e w'=>(∃B,e = .returned (.slice B 0 0))/\(w'=w\/w'=w.alloc (.cells #[] E))
def tT(h:El P S E k by' z)(hw:wU P f S E):zq P f E k by':=by
 intro b off n c news w hl hn hbig hc h1;obtain⟨i0,g1,g2,g3,g4⟩:=h.i;refine(hw b off n c w (fun v' w'=>w'.ownsRow w.heap.size E k v' n news/\v' ≠ .slice none 0 0/\Below w.heap.size w w') ?_).mono fun e w' ⟨v',e1,e2⟩=>⟨v',e1,e2⟩
 intro ops rest o a Q hg s x ho hs hx hK;refine wpList_append_own _ hg s x S ho w.heap.size E i0 z k by' h.u g1 g3 g2 g4 h.c h.p _ _ _ hs (World.ownsRow_made w #[] 0 (au _) (cL _) dy) ⟨b,off,none⟩ n c news hx hl (fun j u hj=>?_) h1 (by rw[aG]; exact hn) (by rw[aG]; exact hbig) dy ?_
 ·rw[Addr.add_lit];exact Lib.cell?_alloc_some _ (hc j u hj)
 ·intro v' w1 hown hgrow hnil;refine hK v' w1 ⟨by simpa using hown,by simpa using hnil,?_⟩
  exact((Below.refl _ w).alloc (au _) _).grown hgrow dy (by intro k hk; simp[Value.ownBlock] at hk; omega)
def rZ(h:El P S E k by' z)(hw:wS P f S E):wT P f:=by
 intro A c w;refine(hw A c w fun ty a=>?_).mono fun e w' ⟨h1,h2⟩=>⟨h1,?_⟩
 ·simp[Builtin.append_,run_underlying h.u,h.so,Builtin.lenOf,Builtin.firstCells,loadCells,loadCellsFrom,storeCells]
 ·rcases h2 with rfl|rfl
  ·exact Below.refl _ _
  ·exact(Below.refl _ w).alloc (au _) _
def QN(P:Program)(f:Nat)(S:TypeId)(k:Nat):Prop:=∀(blk cap i j n:Nat)(A:Addr)(w W1 W2:World),(if cap=j then some (⟨blk,0,none⟩:Addr) else some ⟨blk,j*k,none⟩)=some A ->
 (∀ty,(Builtin.append_ #[S,S] ty #[.slice (some ⟨blk,0,none⟩) i cap,.slice (some A) (n-j) (cap-j)]).run P w.drew = .ok (.slice (some ⟨blk,0,none⟩) (i+(n-j)) cap) W1) ->
 (∀ty,(Builtin.clear_ #[S] ty #[.slice (some ⟨blk,(i+(n-j))*k,none⟩) (n-(i+(n-j))) (cap-(i+(n-j)))]).run P W1 = .ok (.tuple #[]) W2) ->
 n<=cap->n<=9223372036854775807->i<n->i<=cap->i<j->j<=cap->j<=n ->
 Calls P f #[.slice (some ⟨blk,0,none⟩) n cap,.int .i64 i,.int .i64 j] w fun e w'=>e = .returned (.slice (some ⟨blk,0,none⟩) (i+(n-j)) cap)/\w'=W2
def G7(h:El P S E k by' z)(hw:QN P f S k):abD P f k z.cells.toList:=by
 intro blk cap i j n cs w hl hcap hm hi hj hH;obtain⟨i0,g1,g2,g3,g4⟩:=h.i;have a1:j*k=i*k+k:=by rw[hj,mW]
 have a2:j*k<=n*k:=bd _ aH;have a3:(n-j)*k=n*k-j*k:=mF ..;have a4:(n-1)*k=n*k-k:=by rw[mF,fL]
 obtain⟨news,hnews⟩:∃news,news=cs.drop (j*k):=⟨_,rfl⟩;have dJ:news.length=(n-j)*k:=by rw[hnews,gZ,hl,a3]
 have hsome:∀p,p<n*k->(w.cell? ⟨blk,p,none⟩).isSome=true/\w.frozen? ⟨blk,p,none⟩=false:=fun p hp=>by
  obtain⟨h1,h2,_⟩:=hH p _ (ai aH);exact⟨by rw[h1]; rfl,h2⟩
 obtain⟨A,hA,hsrc⟩:∃A:Addr,(if cap=j then some (⟨blk,0,none⟩:Addr) else some ⟨blk,j*k,none⟩)=some A/\∀t u,news[t]?=some u->w.drew.cell? (A.add t)=some u:=by
  by_cases hc:cap=j
  ·refine⟨⟨blk,0,none⟩,by simp[hc],fun t u hu=>?_⟩
   have e0:n-j=0:=aH;have h0:news.length=0:=by rw[dJ,e0,jG]
   rw[dM.1 h0] at hu;simp at hu
  ·refine⟨⟨blk,j*k,none⟩,by simp[hc],fun t u hu=>?_⟩
   rw[hnews,cH] at hu;rw[Addr.add_lit];exact(hH _ _ hu).1
 have s2:∀u∈news,u.oneCell'=true:=by
  intro u hu;rw[hnews] at hu;obtain⟨p,hp⟩:=bV (dr hu);exact(hH p u hp).2.2
 have hW1c:∀p,p<n*k->((w.drew.setCells blk (i*k) news).cell? ⟨blk,p,none⟩).isSome=true:=fun p hp =>
  qN blk news _ w.drew (fun q hq=>(hsome (i*k+q) (by rw[dJ] at hq; omega)).1) p (hsome p hp).1
 have hW1f:∀p,p<n*k->(w.drew.setCells blk (i*k) news).frozen? ⟨blk,p,none⟩=false:=fun p hp=>by
  rw[World.frozen?_setCells];exact(hsome p hp).2
 have hin:i+(n-j)=n-1:=aH;have hzl:z.cells.toList.length=k:=by simp[h.c]
 have hzz:∀q,q<z.cells.toList.length->(n-1)*k+q<n*k:=fun q hq=>by
  have:k<=n*k:=Nat.le_mul_of_pos_left _ aH;omega
 refine(hw blk cap i j n A w (w.drew.setCells blk (i*k) news) ((w.drew.setCells blk (i*k) news).setCells blk ((n-1)*k) z.cells.toList) hA (fun ty=>?_) (fun ty=>?_) hcap hm hi aH aH aH aH).mono ?_
 ·have hr:=run_append_room_cells (P:=P) w.drew S ty E i0 h.u g1 blk 0 i cap A (n-j) (cap-j) news (by rw[g2,dJ]) hsrc s2 aH (fun q hq=>by rw[g2,aG]; exact(hsome _ aH).1) (fun q hq=>by rw[g2,aG]; exact(hsome _ aH).2)
  rw[g2,aG] at hr;exact hr
 ·rw[hin];exact CN _ _ _ ty h.u g1 g3 blk _ _ _ aH _ (by rw[show n-(n-1)=1 by omega,rN]; simp) (fun q hq=>hW1c _ (hzz q hq)) (fun q hq=>hW1f _ (hzz q hq)) h.o
 ·rintro e w' ⟨rfl,rfl⟩;exact⟨by rw[hin],by rw[hnews]⟩
def C8(P:Program)(f fo:Nat)(S:TypeId)(k:Nat):Prop:=∀(b n c i vb voff vc:Nat)(vs:List Value)(w W1:World),
 (∀lb cb,(callFunc fo #[.slice (some ⟨vb,voff,none⟩) 1 vc,.slice (some ⟨b,(i+1)*k,none⟩) lb cb]).run P w = .ok (.value (.bool false)) w) ->
 (∀ty dc sc,(Builtin.copy_ #[S,S] ty #[.slice (some ⟨b,(i+1)*k,none⟩) (n-i) dc,.slice (some ⟨b,i*k,none⟩) (n+1-i) sc]).run P w.drew = .ok (goInt ((n-i:Nat):Int)) W1) ->
 (∀W:World,(∀x,W.cell? x=W1.cell? x)->(∀x,W.frozen? x=W1.frozen? x)->∀ty dc,(Builtin.copy_ #[S,S] ty #[.slice (some ⟨b,i*k,none⟩) (n+1-i) dc,.slice (some ⟨vb,voff,none⟩) 1 vc]).run P W = .ok (goInt 1) (W.setCells b (i*k) vs)) ->
 i<n->n+1<=c->n+1<=9223372036854775807->¬((i:Int)=(n:Int))->IntKind.i64.wrap ((i:Int)+1)=(i:Int)+1->(0:Int)<=(i:Int)+1->i<=n->((i:Int)+1).toNat=i+1->¬(c=i+1)->(i:Int)<=(n:Int)+1->¬(c=i) ->
 Calls P f #[.slice (some ⟨b,0,none⟩) n c,.int .i64 i,.slice (some ⟨vb,voff,none⟩) 1 vc] w fun e w'=>e = .returned (.slice (some ⟨b,0,none⟩) (n+1) c)/\w'=W1.setCells b (i*k) vs
def Ot(P:Program)(f:Nat)(S:TypeId):Prop:=∀(bR:Option Addr)(n c vb voff vc:Nat)(V:Value)(w W:World),
 (∀ty,(Builtin.append_ #[S,S] ty #[.slice bR n c,.slice (some ⟨vb,voff,none⟩) 1 vc]).run P w = .ok V W)->n<=c->n+1<=9223372036854775807->(bR=none->n=0) ->
 Calls P f #[.slice bR n c,.int .i64 n,.slice (some ⟨vb,voff,none⟩) 1 vc] w fun e w'=>e = .returned V/\w'=W
def HY(P:Program)(f:Nat)(S E:TypeId)(k:Nat):Prop:=∀(b n c i G vb voff vc:Nat)(ROW:Array Value)(vs ds:List Value)(w:World),
 (∀ty,(Builtin.append_ #[S,3] ty #[.slice (some ⟨b,0,none⟩) i c,.int .i64 ((n:Int)+1-(i:Int))]).run P w = .ok (.slice (some ⟨w.heap.size,0,none⟩) (n+1) G) (w.drew.alloc (.cells ROW E))) ->
 (∀W:World,(∀x,W.cell? x=(w.drew.alloc (.cells ROW E)).cell? x)->(∀x,W.frozen? x=(w.drew.alloc (.cells ROW E)).frozen? x)->∀ty dc,(Builtin.copy_ #[S,S] ty #[.slice (some ⟨w.heap.size,i*k,none⟩) (n+1-i) dc,.slice (some ⟨vb,voff,none⟩) 1 vc]).run P W = .ok (goInt 1) (W.setCells w.heap.size (i*k) vs)) ->
 (∀W:World,(∀x,W.cell? x=((w.drew.alloc (.cells ROW E)).setCells w.heap.size (i*k) vs).cell? x)->(∀x,W.frozen? x=((w.drew.alloc (.cells ROW E)).setCells w.heap.size (i*k) vs).frozen? x)->∀ty dc sc,
  (Builtin.copy_ #[S,S] ty #[.slice (some ⟨w.heap.size,(i+1)*k,none⟩) (n+1-(i+1)) dc,.slice (some ⟨b,i*k,none⟩) (n-i) sc]).run P W = .ok (goInt ((n-i:Nat):Int)) (W.setCells w.heap.size ((i+1)*k) ds)) ->
 (∀x,((w.alloc (.cells ROW E)).drew).cell? x=(w.drew.alloc (.cells ROW E)).cell? x)->(∀x,((w.alloc (.cells ROW E)).drew).frozen? x=(w.drew.alloc (.cells ROW E)).frozen? x) ->
 (∀x,(((w.alloc (.cells ROW E)).drew.setCells w.heap.size (i*k) vs).drew).cell? x=((w.drew.alloc (.cells ROW E)).setCells w.heap.size (i*k) vs).cell? x) ->
 (∀x,(((w.alloc (.cells ROW E)).drew.setCells w.heap.size (i*k) vs).drew).frozen? x=((w.drew.alloc (.cells ROW E)).setCells w.heap.size (i*k) vs).frozen? x) ->
 i<n->n<=c->c<n+1->¬((i:Int)=(n:Int))->(c:Int)<(n:Int)+1->n+1<=G->G<=9223372036854775807->¬(G=i)->¬(G=i+1)->¬(c=i)->IntKind.i64.wrap ((i:Int)+1)=(i:Int)+1->(0:Int)<=(i:Int)+1->i<=n->((i:Int)+1).toNat=i+1->(i:Int)<=(n:Int)->n+1<=140737488355328 ->
 Calls P f #[.slice (some ⟨b,0,none⟩) n c,.int .i64 i,.slice (some ⟨vb,voff,none⟩) 1 vc] w fun e w'=>e = .returned (.slice (some ⟨w.heap.size,0,none⟩) (n+1) G) /\
  w'=(((w.alloc (.cells ROW E)).drew.setCells w.heap.size (i*k) vs).drew).setCells w.heap.size ((i+1)*k) ds
def Xj{w:World}{vb voff:Nat}{v:Value}(h0:w.cell? ⟨vb,voff,none⟩=some v):∃tA kA,w.shape? vb=some (tA,kA+1):=by
 unfold World.cell? at h0;unfold World.shape?;split at h0
 ·rename_i cc ee ff hb;simp only[hb];simp at h0;have:=(fJ.1 h0).1;exact⟨ee,cc.size-1,gh⟩
 ·cases h0
def CW(h:El P S E k by' z)(h3:P.underlying 3=some (.int .i64))(ho:∀args w,(callFunc fo args).run P w=((Extern.SlicesOverlaps.overlaps #[S,S] #[4] args).run P w).andThen fun v w' => .ok (.value v) w')
  (hS:C8 P f fo S k) (hE:Ot P f S) (hG:HY P f S E k):QZ P f k by':=by
 intro b n c i vb voff vc cs vs w row tB hi hnc hbig h63 hvb hcl hvl hw hrow hat hvs h1c h1v;obtain⟨i0,hi0,hzs,hz0,hzb⟩:=h.i;have hk:=h.p;have hcs:∀(p:Nat)(v:Value),cs[p]?=some v->w.cell? ⟨b,p,none⟩=some v:=fun p v hp=>by simp[World.cell?,hw,hat p v hp]
 have hfz:∀j,w.frozen? ⟨b,j,none⟩=false:=fun j=>by simp[World.frozen?,hw]
 have a1:(n+1)*k=n*k+k:=mW ..;have a2:(i+1)*k=i*k+k:=mW ..;have a3:(n-i)*k=n*k-i*k:=mF ..;have a4:i*k<=n*k:=bd _ hi;have hdl:(cs.drop (i*k)).length=(n-i)*k:=by rw[gZ,hcl,a3]
 have hv0:=hvs 0 _ (ai aH);have hle:n+1<=140737488355328:=aY (fK _ h.b) hbig;have hw1:IntKind.i64.wrap ((i:Int)+1)=(i:Int)+1:=by rw[IntKind.wrap_i64]; omega
 have hmin:1=Nat.min 1 (n+1-i):=by simp only[Nat.min_def]; split<;>omega
 by_cases hroom:n+1<=c
 ·have hr0:(n+1)*k<=row.size:=aY (bd _ hroom) hrow
  have hsp:∀j,j<(n+1)*k->(w.cell? ⟨b,j,none⟩).isSome=true:=fun j hj=>by
   simp[World.cell?,hw,bg (show j<row.size by omega)]
  by_cases hin:i<n
  ·have a5:(i+1)*k<=n*k:=bd _ hin;obtain⟨tA,kA,hsa⟩:=Xj hv0;refine(hS b n c i vb voff vc vs w (w.drew.setCells b ((i+1)*k) (cs.drop (i*k))) (fun lb cb=>?_) (fun ty dc sc=>?_) (fun W hWc hWf ty dc=>?_) hin hroom h63 aH hw1 aH aH aH aH aH aH).mono ?_
   ·rw[ho,EA w S 4 E h.u k h.so ⟨vb,voff,none⟩ ⟨b,(i+1)*k,none⟩ 1 vc lb cb hvb tA tB kA row hsa hw];rfl
   ·exact ye w.drew _ _ ty E k b ((i+1)*k) (n-i) dc ⟨b,i*k,none⟩ (n+1-i) sc (cs.drop (i*k)) (n-i) h.u h.s (by simp only[Nat.min_def]; split<;>omega) hdl
     (fun j v hj=>by rw[Addr.add_lit]; exact hcs (i*k+j) v (by rwa[cH] at hj))
     (fun j hj=>hsp ((i+1)*k+j) aH) (fun j hj=>hfz _) (fun v hv=>h1c v (dr hv))
   ·exact ye W _ _ ty E k b (i*k) (n+1-i) dc ⟨vb,voff,none⟩ 1 vc vs 1 h.u h.s hmin (by rw[hvl,fL])
     (fun j v hj=>by
      rw[Addr.add_lit,hWc,World.cell?_setCells_out b _ _ _ _ (fun h _=>absurd h hvb)]
      exact hvs j v hj)
     (fun j hj=>by rw[hWc]; exact qN b _ _ w.drew (fun j hj=>hsp ((i+1)*k+j) aH) _ (hsp (i*k+j) aH))
     (fun j hj=>by rw[hWf,World.frozen?_setCells]; exact hfz _) h1v
   ·rintro e w' ⟨he,hw'⟩;exact Ps hin hroom hcl hvl hw hrow hat he hw'
  ·obtain rfl:i=n:=aH;refine(hE (some ⟨b,0,none⟩) i c vb voff vc (.slice (some ⟨b,0,none⟩) (i+1) c) w (w.setCells b (i*k) vs) (fun ty=>?_) hnc h63 dy).mono ?_
   ·have hr:=run_append_room_cells (P:=P) w S ty E i0 h.u hi0 b 0 i c ⟨vb,voff,none⟩ 1 vc vs (by rw[hzs,hvl,fL]) (fun j u hj=>by rw[Addr.add_lit]; exact hvs j u hj) h1v hroom
     (fun j hj=>by rw[hzs,aG]; exact hsp _ aH) (fun j hj=>hfz _)
    rw[hzs,aG] at hr;exact hr
   ·rintro e w' ⟨he,hw'⟩;exact SU hroom hcl hvl hw hrow hat he hw'
 ·have hGc:=grownCap_ge w (n+1) c E
  by_cases hin:i<n
  ·have a5:(i+1)*k<=n*k:=bd _ hin;have hbw:b<w.heap.size:=lt_of_block hw;have hvw:vb<w.heap.size:=block_lt_of_cell hv0;have hik:i+(n+1-i)=n+1:=aH
   have hold:(Builtin.firstCells i0.size i (.slice (some ⟨b,0,none⟩) i c)).run P w.drew = .ok (cs.take (i*k)).toArray w.drew:=by
    rw[hzs]
    exact run_firstCells_some w.drew k i ⟨b,0,none⟩ i c (cs.take (i*k)) (by rw[cq]; omega) (fun j v hj=>by
     rw[Addr.add_lit,aG];rw[fy] at hj;split at hj
     ·exact hcs j v hj
     ·cases hj)
   obtain⟨ROW,hROW⟩:∃ROW:Array Value,ROW=(cs.take (i*k)).toArray++Builtin.zeroCells z.cells (n+1-i)++Builtin.zeroCells z.cells (grownCap w (n+1) c E-(n+1)):=⟨_,rfl⟩
   have hRl:(n+1)*k<=ROW.size:=by
    have e1:(n+1-i)*k=(n+1)*k-i*k:=mF ..;rw[hROW];simp only[Builtin.zeroCells,fW,Array.size_map,Array.size_range,h.c,cU,cq,hcl];omega
   have hN:∀j,j<(n+1)*k->((w.drew.alloc (.cells ROW E)).cell? ⟨w.heap.size,j,none⟩).isSome=true:=fun j hj=>by
    rw[World.cell?_alloc_at (w:=w.drew) ROW _ w.heap.size j rfl,bg aH]; rfl
   have hNf:∀j,(w.drew.alloc (.cells ROW E)).frozen? ⟨w.heap.size,j,none⟩=false:=fun j=>World.frozen?_alloc_at (w:=w.drew) ROW _ w.heap.size j rfl
   have hG63:grownCap w (n+1) c E<=9223372036854775807:=by
    have:=grownCap_le_maxLen w (n+1) c E (by unfold maxLen; omega)
    unfold maxLen at this;omega
   refine(hG b n c i (grownCap w (n+1) c E) vb voff vc ROW vs (cs.drop (i*k)) w (fun ty=>?_) (fun W hWc hWf ty dc=>?_) (fun W hWc hWf ty dc sc=>?_) (fun _=>rfl) (fun _=>rfl) (fun _=>rfl) (fun _=>rfl)
    hin hnc aH aH aH hGc hG63 aH aH aH hw1 aH aH aH aH hle).mono ?_
   ·have hr:=Lib.run_append_grow_zeros w S 3 ty E i0 _ .i64 .i64 h.u h3 hi0 hz0 (some ⟨b,0,none⟩) i c (cs.take (i*k)) hold (n+1-i) aH aH aH aH
     (by rw[hzb]; exact aY (bd _ (by omega:n+1-i<=n+1)) aH) (by rw[hzb,hik]; exact growslice_fits aH hbig)
    rw[hik] at hr;rw[show(n:Int)+1-(i:Int)=((n+1-i:Nat):Int) by omega,hROW]
    exact hr
   ·exact ye W _ _ ty E k w.heap.size (i*k) (n+1-i) dc ⟨vb,voff,none⟩ 1 vc vs 1 h.u h.s hmin (by rw[hvl,fL])
     (fun j v hj=>by rw[Addr.add_lit,hWc,World.cell?_alloc_past (w:=w.drew) _ vb _ hvw]; exact hvs j v hj)
     (fun j hj=>by rw[hWc]; exact hN (i*k+j) aH) (fun j hj=>by rw[hWf]; exact hNf _) h1v
   ·exact ye W _ _ ty E k w.heap.size ((i+1)*k) (n+1-(i+1)) dc ⟨b,i*k,none⟩ (n-i) sc (cs.drop (i*k)) (n-i) h.u h.s (by simp only[Nat.min_def]; split<;>omega) hdl
     (fun j v hj=>by
      rw[Addr.add_lit,hWc,World.cell?_setCells_out _ _ _ _ _ (fun h _=>absurd h (by show b≠w.heap.size; omega)),World.cell?_alloc_past (w:=w.drew) _ b _ hbw]
      exact hcs (i*k+j) v (by rwa[cH] at hj))
     (fun j hj=>by rw[hWc]; exact qN _ _ _ _ (fun t ht=>hN (i*k+t) aH) _ (hN ((i+1)*k+j) aH))
     (fun j hj=>by rw[hWf,World.frozen?_setCells]; exact hNf _) (fun v hv=>h1c v (dr hv))
   ·rintro e w' ⟨he,hw'⟩;rw[hROW] at hw';exact SS hk h.c hin hcl hvl hGc he hw'
  ·obtain rfl:i=n:=aH;refine(hE (some ⟨b,0,none⟩) i c vb voff vc _ w _ (fun ty=>run_append_grow_src w S S ty E i0 z h.u hi0 hz0 (some ⟨b,0,none⟩) i c cs ?_ _ 1 vs ?_ aH aH (by rw[hzb]; exact growslice_fits aH hbig)) hnc h63 dy).mono ?_
   ·rw[hzs];exact run_firstCells_some w.drew k i _ i c cs hcl (fun j v hj=>by rw[Addr.add_lit,aG]; exact hcs j v hj)
   ·rw[hzs];exact Src.ofSlice w h.u ⟨vb,voff,none⟩ 1 vc vs (by rw[hvl,fL]) (fun j u hj=>by rw[Addr.add_lit]; exact hvs j u hj) h1v
   ·rintro e w' ⟨he,hw'⟩;exact zV hk h.c hcl hvl hGc he hw'
def CX(h:El P S E k by' z)(hby:by'<=140737488355328)(hE:Ot P f S):Q0 P f k:=by
 intro A vb voff vc vs w row hvl hvs h1v;obtain⟨i0,hi0,hzs,hz0,hzb⟩:=h.i;refine(hE A 0 0 vb voff vc _ w _ (fun ty=>run_append_grow_src w S S ty E i0 z h.u hi0 hz0 A 0 0 [] ?_ _ 1 vs ?_ aH aH (by rw[hzb]; exact growslice_fits aH aH)) (au _) aH (fun _=>rfl)).mono ?_
 ·rw[hzs];cases A with
  |none=>exact run_firstCells_none w.drew k 0 0 0
  |some a=>exact run_firstCells_some w.drew k 0 a 0 0 [] dy (fun j v hj=>by simp at hj)
 ·rw[hzs];exact Src.ofSlice w h.u ⟨vb,voff,none⟩ 1 vc vs (by rw[hvl,fL]) (fun j u hj=>by rw[Addr.add_lit]; exact hvs j u hj) h1v
 ·rintro e w' ⟨he,hw'⟩;exact zV h.p h.c dy hvl (grownCap_ge w 1 0 E) he hw'
end
section
set_option maxHeartbeats 4000000
set_option maxRecDepth 1000000
def mix:Tryz.prog.follows .mixedOrders=true:=fz
def Dx:El Tryz.prog 113 152 3 32 (.agg #[.string ⟨#[]⟩,.int .i64 0,.int .i64 0]) := .of underlying113 fz ⟨rfl,rfl⟩ aH aH
def Li:El Tryz.prog 28 115 6 80 (.agg #[.int .i64 0,.int .i64 0,.int .i64 0,.slice none 0 0,.slice none 0 0,.int .i64 0]) := .of underlying28 fz ⟨rfl,rfl⟩ aH aH
def Lj:El Tryz.prog 36 126 3 24 (.agg #[.int .i64 0,.int .i64 0,.int .i64 0]) := .of underlying36 fz ⟨rfl,rfl⟩ aH aH
def Ll:El Tryz.prog 37 129 3 24 (.agg #[.int .i64 0,.int .i64 0,.int .i64 0]) := .of underlying37 fz ⟨rfl,rfl⟩ aH aH
def YH:El Tryz.prog 32 117 8 96 (.agg #[.int .i64 0,.int .i64 0,.int .i64 0,.int .i64 0,.int .i64 0,.slice none 0 0,.slice none 0 0,.int .i64 0]) := .of underlying32 fz ⟨rfl,rfl⟩ aH aH
def YI:El Tryz.prog 33 123 3 24 (.agg #[.int .i64 0,.int .i64 0,.int .i64 0]) := .of underlying33 fz ⟨rfl,rfl⟩ aH aH
def YJ:El Tryz.prog 45 5 1 1 (.int .u8 0) := .of underlying45 fz ⟨rfl,rfl⟩ aH aH
def cws:wU Tryz.prog 205 113 152/\wU Tryz.prog 241 28 115/\wU Tryz.prog 215 36 126/\wU Tryz.prog 189 37 129/\wU Tryz.prog 220 32 117/\wU Tryz.prog 229 33 123/\wU Tryz.prog 160 45 5:=by
 have mixed:=mix;refine⟨?_,?_,?_,?_,?_,?_,?_⟩<;>intro b off n c w K hap
 all_goals first
 |(have t25:=underlying113; obtain⟨q22,u22⟩:=Dx.q; go_enter func205,ntmps205)
 |(have t25:=underlying28; obtain⟨q22,u22⟩:=Li.q; go_enter func241,ntmps241)
 |(have t25:=underlying36; obtain⟨q22,u22⟩:=Lj.q; go_enter func215,ntmps215)
 |(have t25:=underlying37; obtain⟨q22,u22⟩:=Ll.q; go_enter func189,ntmps189)
 |(have t25:=underlying32; obtain⟨q22,u22⟩:=YH.q; go_enter func220,ntmps220)
 |(have t25:=underlying33; obtain⟨q22,u22⟩:=YI.q; go_enter func229,ntmps229)
 |(have t25:=underlying45; obtain⟨q22,u22⟩:=YJ.q; go_enter func160,ntmps160)
 all_goals (go_wp2_with (at_builtin; refine hap rfl _ _ rfl rfl rfl ?_); intro v' w1 hK; go_wp2; go_ret; exact⟨v',rfl,hK⟩)
def cns:wS Tryz.prog 205 113 152/\wS Tryz.prog 241 28 115/\wS Tryz.prog 215 36 126/\wS Tryz.prog 189 37 129/\wS Tryz.prog 220 32 117/\wS Tryz.prog 229 33 123/\wS Tryz.prog 160 45 5:=by
 have mixed:=mix;refine⟨?_,?_,?_,?_,?_,?_,?_⟩<;>intro A c w hrun
 all_goals first
 |(have t25:=underlying113; obtain⟨q22,u22⟩:=Dx.q; cases A<;>go_enter func205,ntmps205)
 |(have t25:=underlying28; obtain⟨q22,u22⟩:=Li.q; cases A<;>go_enter func241,ntmps241)
 |(have t25:=underlying36; obtain⟨q22,u22⟩:=Lj.q; cases A<;>go_enter func215,ntmps215)
 |(have t25:=underlying37; obtain⟨q22,u22⟩:=Ll.q; cases A<;>go_enter func189,ntmps189)
 |(have t25:=underlying32; obtain⟨q22,u22⟩:=YH.q; cases A<;>go_enter func220,ntmps220)
 |(have t25:=underlying33; obtain⟨q22,u22⟩:=YI.q; cases A<;>go_enter func229,ntmps229)
 |(have t25:=underlying45; obtain⟨q22,u22⟩:=YJ.q; cases A<;>go_enter func160,ntmps160)
 all_goals (first
  |(go_wp2; go_ret; exact⟨⟨_,rfl⟩,.inl rfl⟩)
  |(go_wp2_with (at_builtin; refine Lib.wpList_append_run _ rfl _ _ _ _ rfl _ _ rfl rfl _ _ (hrun _ _) ?_); go_ret; exact⟨⟨_,rfl⟩,.inr rfl⟩))
def dws:QN Tryz.prog 283 28 6/\QN Tryz.prog 248 113 3/\QN Tryz.prog 218 36 3/\QN Tryz.prog 227 37 3:=by
 have mixed:=mix;refine⟨?_,?_,?_,?_⟩<;>intro blk cap i j n A w W1 W2 hA hap hcl hcap hm hi hic hij hjc hjn
 all_goals first
 |(have t25:=underlying28; go_enter func283,ntmps283)
 |(have t25:=underlying113; go_enter func248,ntmps248)
 |(have t25:=underlying36; go_enter func218,ntmps218)
 |(have t25:=underlying37; go_enter func227,ntmps227)
 all_goals (go_wp2_with fail; go_region_law_o (refine Fh rfl _ _ _ _ rfl _ _ (by simp[Act.eval,Act.put]) (by simp[Act.eval,Act.put]) (hap _) ?_); go_wp2; go_ret; exact⟨rfl,rfl⟩)
def sws:C8 Tryz.prog 242 279 28 6/\C8 Tryz.prog 243 281 113 3/\C8 Tryz.prog 214 260 36 3/\C8 Tryz.prog 228 269 37 3:=by
 have mixed:=mix;refine⟨?_,?_,?_,?_⟩<;>intro b n c i vb voff vc vs w W1 hov hcp1 hcp2 hi hroom hc63 hz2 hw1 hb1 hin htn hb2 hb3 hb4
 all_goals first
 |(have t25:=underlying28; go_enter func242,ntmps242)
 |(have t25:=underlying113; go_enter func243,ntmps243)
 |(have t25:=underlying36; go_enter func214,ntmps214)
 |(have t25:=underlying37; go_enter func228,ntmps228)
 all_goals (go_wp2_with (simp only[hov]); go_region_law_o (refine Ct rfl _ _ _ _ rfl _ _ (by simp[Act.eval,Act.put]) (by simp[Act.eval,Act.put]) (hcp1 _ _ _) ?_); go_wp2_with (at_builtin; refine ve _ rfl _ _ _ _ rfl _ _ rfl rfl (hcp2 _ (fun _=>rfl) (fun _=>rfl) _ _) ?_); go_ret; exact⟨rfl,rfl⟩)
def ews:Ot Tryz.prog 242 28/\Ot Tryz.prog 243 113/\Ot Tryz.prog 214 36/\Ot Tryz.prog 228 37:=by
 have mixed:=mix;refine⟨?_,?_,?_,?_⟩<;>intro bR n c vb voff vc V w W hrun hnc hroom hnil
 all_goals first
 |(have t25:=underlying28; go_enter func242,ntmps242)
 |(have t25:=underlying113; go_enter func243,ntmps243)
 |(have t25:=underlying36; go_enter func214,ntmps214)
 |(have t25:=underlying37; go_enter func228,ntmps228)
 all_goals (cases bR with
 |none =>
  have h0:=hnil rfl;subst h0
  go_wp2_with (at_builtin; refine Lib.wpList_append_run _ rfl _ _ _ _ rfl _ _ rfl rfl _ _ (hrun _) ?_)
  go_ret
  exact⟨rfl,rfl⟩
 |some a =>
  obtain⟨ab,ao,asp⟩:=a
  go_wp2_with (at_builtin; refine Lib.wpList_append_run _ rfl _ _ _ _ rfl _ _ rfl rfl _ _ (hrun _) ?_)
  all_goals (go_ret; exact⟨rfl,rfl⟩))
def gws:HY Tryz.prog 242 28 115 6/\HY Tryz.prog 243 113 152 3/\HY Tryz.prog 214 36 126 3/\HY Tryz.prog 228 37 129 3:=by
 have mixed:=mix;refine⟨?_,?_,?_,?_⟩<;>intro b n c i G vb voff vc ROW vs ds w hrz hcpA hcpB hE1 hE2 hF1 hF2 hi hnc hroom hz2 hz3 hGn hG63 hGi hGim hci hw1 hb1 hin htn hb3 hle
 all_goals first
 |(have t25:=underlying28; go_enter func242,ntmps242)
 |(have t25:=underlying113; go_enter func243,ntmps243)
 |(have t25:=underlying36; go_enter func214,ntmps214)
 |(have t25:=underlying37; go_enter func228,ntmps228)
 all_goals (go_wp2_with (first
  |(at_builtin; refine Lib.wpList_append_run _ rfl _ _ _ _ rfl _ _ rfl rfl _ _ (hrz _) ?_)
  |(at_builtin; refine ve _ rfl _ _ _ _ rfl _ _ rfl rfl (hcpA _ hE1 hE2 _ _) ?_)
  |(at_builtin; refine ve _ rfl _ _ _ _ rfl _ _ rfl rfl (hcpB _ (fun _=>rfl) (fun _=>rfl) _ _ _) ?_)); go_region_law_o (refine Ct rfl _ _ _ _ rfl (.slice (some ⟨w.heap.size,_,none⟩) (n+1-(i+1)) (G-(i+1))) (.slice (some ⟨b,_,none⟩) (n-i) (c-i)) (by simp[Act.eval,Act.put]) (by simp[Act.eval,Act.put]) (hcpB _ hF1 hF2 3 (G-(i+1)) (c-i)) ?_); go_wp2; go_ret; exact⟨rfl,rfl⟩)
end
def OU{args:List ag}{M:aC}{x:ag×aC}(h:mQ 3 32 args M=some x):db Tryz.prog 205 args M x:=sx aH aH (tT Dx cws.1) (rZ Dx cns.1) h
def OW{args:List ag}{M:aC}{x:ag×aC}(h:mQ 6 80 args M=some x):db Tryz.prog 241 args M x:=sx aH aH (tT Li cws.2.1) (rZ Li cns.2.1) h
def OV{args:List ag}{M:aC}{x:ag×aC}(h:mQ 3 24 args M=some x):db Tryz.prog 215 args M x:=sx aH aH (tT Lj cws.2.2.1) (rZ Lj cns.2.2.1) h
def OT{args:List ag}{M:aC}{x:ag×aC}(h:mQ 3 24 args M=some x):db Tryz.prog 189 args M x:=sx aH aH (tT Ll cws.2.2.2.1) (rZ Ll cns.2.2.2.1) h
def KW{args:List ag}{M:aC}{x:ag×aC}(h:sk 8 96 args M=some x):db Tryz.prog 220 args M x:=zG aH aH (tT YH cws.2.2.2.2.1) (rZ YH cns.2.2.2.2.1) h
def KX{args:List ag}{M:aC}{x:ag×aC}(h:sk 3 24 args M=some x):db Tryz.prog 229 args M x:=zG aH aH (tT YI cws.2.2.2.2.2.1) (rZ YI cns.2.2.2.2.2.1) h
def ae1{args:List ag}{M:aC}{x:ag×aC}(h:pCC 1 1 args M=some x):db Tryz.prog 160 args M x:=Rm aH aH (tT YJ cws.2.2.2.2.2.2) (rZ YJ cns.2.2.2.2.2.2) h
def O5{args:List ag}{M:aC}{x:ag×aC}(h:lI 6 args M=some x):db Tryz.prog 283 args M x:=tj (sz:=6) (z:=(Value.agg #[.int .i64 0,.int .i64 0,.int .i64 0,.slice none 0 0,.slice none 0 0,.int .i64 0]).cells.toList) aH rfl (G7 Li dws.1) h
def O4{args:List ag}{M:aC}{x:ag×aC}(h:lI 3 args M=some x):db Tryz.prog 248 args M x:=tj (sz:=3) (z:=(Value.agg #[.string ⟨#[]⟩,.int .i64 0,.int .i64 0]).cells.toList) aH rfl (G7 Dx dws.2.1) h
def O2{args:List ag}{M:aC}{x:ag×aC}(h:lI 3 args M=some x):db Tryz.prog 218 args M x:=tj (sz:=3) (z:=(Value.agg #[.int .i64 0,.int .i64 0,.int .i64 0]).cells.toList) aH rfl (G7 Lj dws.2.2.1) h
def O3{args:List ag}{M:aC}{x:ag×aC}(h:lI 3 args M=some x):db Tryz.prog 227 args M x:=tj (sz:=3) (z:=(Value.agg #[.int .i64 0,.int .i64 0,.int .i64 0]).cells.toList) aH rfl (G7 Ll dws.2.2.2) h
def Pv{args:List ag}{M:aC}{x:ag×aC}(h:lf 6 80 args M=some x):db Tryz.prog 242 args M x:=tn aH aH (CW Li underlying3 (fun args w=>run_callFunc_extern func279 fz fz fz fz args w) sws.1 ews.1 gws.1) (CX Li aH ews.1) h
def Pw{args:List ag}{M:aC}{x:ag×aC}(h:lf 3 32 args M=some x):db Tryz.prog 243 args M x:=tn aH aH (CW Dx underlying3 (fun args w=>run_callFunc_extern func281 fz fz fz fz args w) sws.2.1 ews.2.1 gws.2.1) (CX Dx aH ews.2.1) h
def Pt{args:List ag}{M:aC}{x:ag×aC}(h:lf 3 24 args M=some x):db Tryz.prog 214 args M x:=tn aH aH (CW Lj underlying3 (fun args w=>run_callFunc_extern func260 fz fz fz fz args w) sws.2.2.1 ews.2.2.1 gws.2.2.1) (CX Lj aH ews.2.2.1) h
def Pu{args:List ag}{M:aC}{x:ag×aC}(h:lf 3 24 args M=some x):db Tryz.prog 228 args M x:=tn aH aH (CW Ll underlying3 (fun args w=>run_callFunc_extern func269 fz fz fz fz args w) sws.2.2.2 ews.2.2.2 gws.2.2.2) (CX Ll aH ews.2.2.2) h
end Go.Proofs.YteoamaffclmdbaaGreatDoor
namespace Go.Proofs
open Go.Shelf
def Tryz.J6:Go.Shelf.Ren:=⟨fun|6=>207|15=>256|14=>255|28=>296|29=>297|20=>288|21=>289|22=>290|23=>291|24=>292|25=>293|26=>294|27=>295|46=>310|47=>311|48=>312|49=>313|50=>314|57=>331|n=>n,fun|22=>113|24=>152|25=>270|3=>3|39=>312|0=>0|53=>346|55=>77|4=>4|46=>340|45=>339|50=>261|5=>5|9=>9|66=>356|70=>360|76=>373|77=>205|n=>n,fun|n=>n⟩
def Tryz.N1:Go.Proofs.SlLaysF0.n6 Tryz.prog Tryz.J6:={
 mixed:=fz
 f6:=⟨Tryz.f207.name,mi,(sW func207)⟩
 f14:=⟨Tryz.f255.name,mi,(sW func255)⟩
 f15:=(sW func256)
 f20:=⟨Tryz.f288.name,mi,(sW func288)⟩
 f21:=⟨Tryz.f289.name,mi,(sW func289)⟩
 f22:=⟨Tryz.f290.name,mi,(sW func290)⟩
 f23:=⟨Tryz.f291.name,mi,(sW func291)⟩
 f24:=⟨Tryz.f292.name,mi,(sW func292)⟩
 f25:=⟨Tryz.f293.name,mi,(sW func293)⟩
 f26:=⟨Tryz.f294.name,mi,(sW func294)⟩
 f27:=⟨Tryz.f295.name,mi,(sW func295)⟩
 f28:=(sW func296)
 f29:=(sW func297)
 f46:=⟨Tryz.f310.name,mi,(sW func310)⟩
 f47:=(sW func311)
 f48:=(sW func312)
 f49:=⟨Tryz.f313.name,mi,(sW func313)⟩
 f50:=⟨Tryz.f314.name,mi,(sW func314)⟩
 f57:=⟨Tryz.f331.name,mi,(sW func331)⟩
 t0:=underlying0
 a0:=isAgg0
 z0:=sizeOf0
 v0:=zeroValue0
 t3:=underlying3
 a3:=isAgg3
 z3:=sizeOf3
 v3:=zeroValue3
 t4:=underlying4
 a4:=isAgg4
 z4:=sizeOf4
 v4:=zeroValue4
 t5:=underlying5
 a5:=isAgg5
 z5:=sizeOf5
 v5:=zeroValue5
 t9:=underlying9
 a9:=isAgg9
 z9:=sizeOf9
 v9:=zeroValue9
 t22:=underlying113
 a22:=isAgg113
 z22:=sizeOf113
 v22:=zeroValue113
 t25:=underlying270
 a25:=isAgg270
 z25:=sizeOf270
 v25:=zeroValue270
 t39:=underlying312
 a39:=isAgg312
 z39:=sizeOf312
 v39:=zeroValue312
 t45:=underlying339
 a45:=isAgg339
 z45:=sizeOf339
 v45:=zeroValue339
 t46:=underlying340
 a46:=isAgg340
 z46:=sizeOf340
 v46:=zeroValue340
 t50:=underlying261
 a50:=isAgg261
 z50:=sizeOf261
 v50:=zeroValue261
 t53:=underlying346
 a53:=isAgg346
 z53:=sizeOf346
 v53:=zeroValue346
 t55:=underlying77
 a55:=isAgg77
 z55:=sizeOf77
 v55:=zeroValue77
 t66:=underlying356
 a66:=isAgg356
 z66:=sizeOf356
 v66:=zeroValue356
 t70:=underlying360
 a70:=isAgg360
 z70:=sizeOf360
 v70:=zeroValue360
 t76:=underlying373
 a76:=isAgg373
 z76:=sizeOf373
 v76:=zeroValue373
 t77:=underlying205
 a77:=isAgg205
 z77:=sizeOf205
 v77:=zeroValue205 }
def Tryz.HI:Go.Shelf.Ren:=⟨fun|6=>272|15=>256|14=>301|28=>296|29=>297|20=>317|21=>318|22=>319|23=>320|24=>321|25=>322|26=>323|27=>324|46=>332|47=>311|48=>312|49=>333|50=>334|57=>337|n=>n,fun|22=>28|24=>115|25=>327|3=>3|39=>312|0=>0|53=>346|55=>77|4=>4|46=>340|45=>339|50=>261|5=>5|9=>9|66=>356|70=>360|76=>373|77=>205|n=>n,fun|n=>n⟩
def Tryz.J8:Go.Proofs.SlLaysF0.n6 Tryz.prog Tryz.HI:={
 mixed:=fz
 f6:=⟨Tryz.f272.name,mi,(sW func272)⟩
 f14:=⟨Tryz.f301.name,mi,(sW func301)⟩
 f15:=(sW func256)
 f20:=⟨Tryz.f317.name,mi,(sW func317)⟩
 f21:=⟨Tryz.f318.name,mi,(sW func318)⟩
 f22:=⟨Tryz.f319.name,mi,(sW func319)⟩
 f23:=⟨Tryz.f320.name,mi,(sW func320)⟩
 f24:=⟨Tryz.f321.name,mi,(sW func321)⟩
 f25:=⟨Tryz.f322.name,mi,(sW func322)⟩
 f26:=⟨Tryz.f323.name,mi,(sW func323)⟩
 f27:=⟨Tryz.f324.name,mi,(sW func324)⟩
 f28:=(sW func296)
 f29:=(sW func297)
 f46:=⟨Tryz.f332.name,mi,(sW func332)⟩
 f47:=(sW func311)
 f48:=(sW func312)
 f49:=⟨Tryz.f333.name,mi,(sW func333)⟩
 f50:=⟨Tryz.f334.name,mi,(sW func334)⟩
 f57:=⟨Tryz.f337.name,mi,(sW func337)⟩
 t0:=underlying0
 a0:=isAgg0
 z0:=sizeOf0
 v0:=zeroValue0
 t3:=underlying3
 a3:=isAgg3
 z3:=sizeOf3
 v3:=zeroValue3
 t4:=underlying4
 a4:=isAgg4
 z4:=sizeOf4
 v4:=zeroValue4
 t5:=underlying5
 a5:=isAgg5
 z5:=sizeOf5
 v5:=zeroValue5
 t9:=underlying9
 a9:=isAgg9
 z9:=sizeOf9
 v9:=zeroValue9
 t22:=underlying28
 a22:=isAgg28
 z22:=sizeOf28
 v22:=zeroValue28
 t25:=underlying327
 a25:=isAgg327
 z25:=sizeOf327
 v25:=zeroValue327
 t39:=underlying312
 a39:=isAgg312
 z39:=sizeOf312
 v39:=zeroValue312
 t45:=underlying339
 a45:=isAgg339
 z45:=sizeOf339
 v45:=zeroValue339
 t46:=underlying340
 a46:=isAgg340
 z46:=sizeOf340
 v46:=zeroValue340
 t50:=underlying261
 a50:=isAgg261
 z50:=sizeOf261
 v50:=zeroValue261
 t53:=underlying346
 a53:=isAgg346
 z53:=sizeOf346
 v53:=zeroValue346
 t55:=underlying77
 a55:=isAgg77
 z55:=sizeOf77
 v55:=zeroValue77
 t66:=underlying356
 a66:=isAgg356
 z66:=sizeOf356
 v66:=zeroValue356
 t70:=underlying360
 a70:=isAgg360
 z70:=sizeOf360
 v70:=zeroValue360
 t76:=underlying373
 a76:=isAgg373
 z76:=sizeOf373
 v76:=zeroValue373
 t77:=underlying205
 a77:=isAgg205
 z77:=sizeOf205
 v77:=zeroValue205 }
def Tryz.K0:Go.Shelf.Ren:=⟨fun|5=>209|7=>257|n=>n,fun|22=>3|3=>3|4=>4|n=>n,fun|n=>n⟩
def Tryz.Rq:Go.Proofs.SlLaysC2.n5 Tryz.prog Tryz.K0:={
 mixed:=fz
 f5:=⟨Tryz.f209.name,mi,(sW func209)⟩
 f7:=⟨Tryz.f257.name,mi,(sW func257)⟩
 t3:=underlying3
 a3:=isAgg3
 z3:=sizeOf3
 v3:=zeroValue3
 t4:=underlying4
 a4:=isAgg4
 z4:=sizeOf4
 v4:=zeroValue4
 t22:=underlying3
 a22:=isAgg3
 z22:=sizeOf3
 v22:=zeroValue3 }
end Go.Proofs
namespace Go.Proofs.YteoamaffclmdbaaGreatDoor
open Go Go.Shelf Go.RowKit Go.Lib Go.Sort
set_option maxHeartbeats 1000000 in
def KY(v0 v1 u0 u1:Value)(x y:Int)(W:World):Calls Tryz.prog 208 #[.agg #[v0,v1,.int .i64 x],.agg #[u0,u1,.int .i64 y]] W fun e w'=>e = .returned (.int .i64 (Lib.compareInt x y))/\∃q os',w'=grow (W.drewN q) os':=by
 have hcon:=fun W'=>AnyG.cmp_Compare_int Tryz.Rq x y W'
 change ∀W',Calls Tryz.prog 209 _ _ _ at hcon;generalize Lib.compareInt x y=r at hcon ⊢
 go_enter func208,ntmps208
 go_wp2_with (go_at_call 209; refine(hcon _).mono ?_; rintro e w' ⟨rfl,rfl⟩)
 go_ret
 exact⟨rfl,0,_,by rw[alloc_eq_grow,alloc_eq_grow,grow_grow]; rfl⟩
set_option maxHeartbeats 1000000 in
def KZ(v1 v2 v3 v4 v5 u1 u2 u3 u4 u5:Value)(x y:Int)(W:World):Calls Tryz.prog 273 #[.agg #[.int .i64 x,v1,v2,v3,v4,v5],.agg #[.int .i64 y,u1,u2,u3,u4,u5]] W fun e w'=>e = .returned (.int .i64 (Lib.compareInt x y))/\∃q os',w'=grow (W.drewN q) os':=by
 have hcon:=fun W'=>AnyG.cmp_Compare_int Tryz.Rq x y W'
 change ∀W',Calls Tryz.prog 209 _ _ _ at hcon;generalize Lib.compareInt x y=r at hcon ⊢
 go_enter func273,ntmps273
 go_wp2_with (go_at_call 209; refine(hcon _).mono ?_; rintro e w' ⟨rfl,rfl⟩)
 go_ret
 exact⟨rfl,0,_,by rw[alloc_eq_grow,alloc_eq_grow,grow_grow]; rfl⟩
structure EL(sz p:Nat) where
 l:List Value
 hl:l.length=sz
 h1:∀v∈l,v.oneCell'=true
 n:Int
 hn:l[p]?=some (.int .i64 n)
def cfE{sz p:Nat}(a b:EL sz p):Int:=Lib.compareInt a.n b.n
def ltE{sz p:Nat}(x y:EL sz p):ltOf cfE x y=decide (x.n<y.n):=by
 unfold ltOf cfE Lib.compareInt
 by_cases h1:x.n<y.n
 ·simp[h1]
 ·by_cases h2:y.n<x.n<;>simp[h1,h2]
def an5{sz p:Nat}:SWO (ltOf (cfE (sz:=sz) (p:=p))) where
 irrefl x:=by rw[ltE]; simp
 trans x y z h1 h2:=by rw[ltE] at *; simp at *; omega
 ntrans x y z h1 h2:=by rw[ltE] at *; simp at *; omega
def K1[Inhabited (EL 3 2)](blk off size:Nat)(w:World):CmpLays Tryz.prog 208 #[] (EL.l (sz:=3) (p:=2)) 3 cfE blk off size w:=fun _ _ _ _ x y=>by
 obtain⟨l,hl,h1,n,hn⟩:=x;obtain⟨l',hl',h1',n',hn'⟩:=y
 match l,hl,hn,l',hl',hn' with
 | [a,b,c],_,hn,[a',b',c'],_,hn' =>
  cases hn;cases hn';exact KY a b a' b' n n' _
def K2[Inhabited (EL 6 0)](blk off size:Nat)(w:World):CmpLays Tryz.prog 273 #[] (EL.l (sz:=6) (p:=0)) 6 cfE blk off size w:=fun _ _ _ _ x y=>by
 obtain⟨l,hl,h1,n,hn⟩:=x;obtain⟨l',hl',h1',n',hn'⟩:=y
 match l,hl,hn,l',hl',hn' with
 | [a,b,c,d,e,f],_,hn,[a',b',c',d',e',f'],_,hn' =>
  cases hn;cases hn';exact KZ b c d e f b' c' d' e' f' n n' _
end Go.Proofs.YteoamaffclmdbaaGreatDoor
namespace Go.Abs
open Go
def Zk(p:Nat)(x:ag):Option Int:=match x.cells[p]? with
 |some (.int .i64 n)=>some n
 |_=>none
def ue(p:Nat)(x:ag):Int:=(Zk p x).getD 0
def DU(p:Nat)(x:ag):List ag->List ag
 | []=>[x]
 |y::r=>if ue p x<ue p y then x::y::r else y::DU p x r
def rT(p:Nat):List ag->List ag
 | []=>[]
 |x::r=>DU p x (rT p r)
def Be(p:Nat)(x:ag):∀l,(DU p x l).Perm (x::l)
 | [] => .refl _
 |y::r=>by
  rw[DU];split
  ·exact .refl _
  ·exact((Be p x r).cons y).trans (.swap x y r)
def uu(p:Nat):∀l,(rT p l).Perm l
 | [] => .refl _
 |x::r=>(Be p x _).trans ((uu p r).cons x)
def Ni(p:Nat)(x:ag):∀l:List ag,l.Pairwise (fun a b=>ue p a<=ue p b)->(DU p x l).Pairwise fun a b=>ue p a<=ue p b
 | [],_=>by simp[DU]
 |y::r,h=>by
  obtain⟨h1,h2⟩:=df.1 h;rw[DU];split
  ·rename_i cG;refine df.2 ⟨fun b hb=>?_,h⟩
   rcases bI.1 hb with rfl|hb
   ·omega
   ·have:=h1 b hb; omega
  ·rename_i hge;refine df.2 ⟨fun b hb=>?_,Ni p x r h2⟩
   rcases bI.1 ((Be p x r).mem_iff.1 hb) with rfl|hb
   ·omega
   ·exact h1 b hb
def J7(p:Nat):∀l,(rT p l).Pairwise fun a b=>ue p a<=ue p b
 | [] => .nil
 |x::r=>Ni p x _ (J7 p r)
def Ie:∀ {a b:List Int},a.Pairwise (· < ·)->b.Pairwise (· < ·)->(∀m,m∈a↔m∈b)->a=b
 | [],[],_,_,_=>rfl
 | [],y::b,_,_,h=>by have:=(h y).2 bD; cases this
 |x::a,[],_,_,h=>by have:=(h x).1 bD; cases this
 |x::a,y::b,ha,hb,h=>by
  obtain⟨a1,a2⟩:=df.1 ha;obtain⟨b1,b2⟩:=df.1 hb
  have hxy:x=y:=by
   rcases bI.1 ((h x).1 bD) with h1|h1
   ·exact h1
   ·rcases bI.1 ((h y).2 bD) with h2|h2
    ·exact h2.symm
    ·have:=b1 x h1; have:=a1 y h2; omega
  subst hxy;rw[Ie a2 b2 (fun m=>?_)]
  constructor
  ·intro hm;rcases bI.1 ((h m).1 (bt _ hm)) with h1|h1
   ·subst h1; have:=a1 m hm; omega
   ·exact h1
  ·intro hm;rcases bI.1 ((h m).2 (bt _ hm)) with h1|h1
   ·subst h1; have:=b1 m hm; omega
   ·exact h1
def xj{l:List Int}(h:l.Pairwise (· <= ·))(hn:l.Nodup):l.Pairwise (· < ·):=by
 have:=List.Pairwise.and h hn;exact this.imp fun {a b} hab=>by have:=hab.1; have:=hab.2; omega
def Wg{l:List Int}(h:l.Nodup){i j:Nat}{a:Int}(hi:l[i]?=some a)(hj:l[j]?=some a):i=j:=by
 have hp:=cd.1 h;obtain⟨h1,e1⟩:=aj.1 hi;obtain⟨h2,e2⟩:=aj.1 hj;rcases iX i j with hh|hh|hh
 ·exact absurd (e1.trans e2.symm) (hp i j h1 h2 hh)
 ·exact hh
 ·exact absurd (e2.trans e1.symm) (hp j i h2 h1 hh)
def Mn{α:Type}{p:Nat}{d d':List α}{xs:List ag}(key:α->Int)(dJ:d.length=xs.length)(hkey:∀(i:Nat)(a:α)(x:ag),d[i]?=some a->xs[i]?=some x->key a=ue p x)(hnd:(xs.map (ue p)).Nodup)
  (hperm:d'.Perm d) (hs:d'.Pairwise fun a b=>key a<=key b) {q:Nat} {y:ag} (hy:(rT p xs)[q]?=some y):∃(i:Nat) (a:α),d'[q]?=some a/\d[i]?=some a/\xs[i]?=some y:=by
 have hmap:d.map key=xs.map (ue p):=by
  apply cA;intro i;rw[aX,aX];rcases bz i d.length with h|h
  ·have h':i<xs.length:=aH;rw[ai h,ai h'];simp only[eo];rw[hkey i _ _ (ai h) (ai h')]
  ·rw[fX h,fX aH]; rfl
 have p1:((rT p xs).map (ue p)).Perm (xs.map (ue p)):=(uu p xs).map _;have p2:(d'.map key).Perm (xs.map (ue p)):=by rw[<-hmap]; exact hperm.map _
 have k1:((rT p xs).map (ue p)).Pairwise (· < ·):=xj (jT.2 (J7 p xs)) (p1.nodup_iff.2 hnd)
 have k2:(d'.map key).Pairwise (· < ·):=xj (jT.2 hs) (p2.nodup_iff.2 hnd)
 have heq:=Ie k1 k2 (fun m=>by rw[p1.mem_iff,p2.mem_iff])
 have h1:(d'.map key)[q]?=some (ue p y):=by rw[<-heq,aX,hy]; rfl
 rw[aX,aV] at h1;obtain⟨a,ha,hak⟩:=h1;obtain⟨i,hi⟩:=bV (hperm.mem_iff.1 (aK ha));have hil:=aN hi;obtain⟨j,hj⟩:=bV ((uu p xs).mem_iff.1 (aK hy));have hx:=ai (show i<xs.length by omega)
 have hk:=hkey i a _ hi hx;have:i=j:=Wg hnd (i:=i) (j:=j) (a:=ue p y) (by rw[aX,hx]; simp only[eo]; rw[<-hk,hak]) (by rw[aX,hj]; rfl)
 subst this;exact⟨i,a,ha,hi,hj⟩
noncomputable def wE(sz p g:Nat):List ag->aC->Option (ag×aC)
 | [.slice _ xs,.func g' cs],M=>match xs,cs with
  | [],[]=>if g'=g then some (.tuple [],M) else none
  |_,_=>none
 | [.cv id ver sz' lo hi,.func g' cs],M=>match nth M id,cs with
  |some (.arr sz0 v xs),[]=>cr (v=ver/\sz'=sz/\lo=0/\hi<=xs.length/\g'=g/\hi<=1099511627776/\(∀x,x∈xs.take hi->(Zk p x).isSome=true)/\((xs.take hi).map (ue p)).Nodup)
    (some (.tuple [],iP M id (.arr sz0 v (rT p (xs.take hi)++xs.drop hi))))
  |_,_=>none
 |_,_=>none
end Go.Abs
namespace Go.Proofs.YteoamaffclmdbaaGreatDoor
open Go Go.Abs Go.Shelf Go.RowKit Go.Sort
def EH{sz p g f:Nat}(hp:p<sz)
  (h0:∀(A:Option Addr)(cap:Nat)(fv:Value)(w:World),Calls Tryz.prog f #[.slice A 0 cap,fv] w fun e w'=>e = .returned (.tuple #[])/\w'=w)
  (hS:∀ [Inhabited (EL sz p)] (blk cap:Nat) (d:Array (EL sz p)) (w:World),HoldsK EL.l sz w blk 0 d->blk<w.heap.size->d.size<4611686018427387904 ->
   Calls Tryz.prog f #[.slice (some ⟨blk,0,none⟩) d.size cap,.func (.func g) #[] #[]] w fun e w'=>e = .returned (.tuple #[])/\∃d' n os,PermIn 0 d.size d d'/\SortedIn (ltOf cfE) 0 d.size d'/\w'=sortWorldK EL.l sz w blk 0 n d' os)
  {args:List ag} {M:aC} {x:ag×aC} (h:wE sz p g args M=some x):db Tryz.prog f args M x:=by
 unfold wE at h;split at h
 ·rename_i tk xs g' cs;split at h
  ·split at h
   ·rename_i hg;subst hg;cases h;refine nK.call ?_;intro j w vs hr hG hl hv;obtain⟨l⟩:=vs
    match l,hl with
    | [u1,u2],_ =>
     obtain⟨A,cap,b,off,sz0,vs,e1,_⟩:=(hv 0 _ u1 rfl rfl).ep.ep;subst e1;refine(h0 A cap u2 w).mono ?_;rintro e w' ⟨rfl,rfl⟩;exact⟨_,j,rfl,hr,Ext.refl _ _ _,.tuple rfl fun i c v hi=>by cases hi⟩
   ·cases h
  ·cases h
 ·rename_i ix ver sz' lo hi g' cs;rw[fc] at h;split at h
  ·rename_i sz0 v0 xs hM;obtain⟨⟨rfl,rfl,rfl,hhi,rfl,hbig,hk,hnd⟩,h1⟩:=da h;cases h1;refine nK.call ?_;intro j w vs hr hG hl hv;obtain⟨l⟩:=vs
   match l,hl with
   | [u1,u2],_ =>
    have ha:=hv 0 _ u1 rfl rfl;obtain⟨us,hu2,hul,_⟩:=(hv 1 _ u2 rfl rfl).rz;have hu0:us = #[]:=Array.eq_empty_of_size_eq_zero (by simpa using hul.symm)
    subst hu0;rw[hu2];rcases gX hi with h00|hpos
    ·subst h00;obtain⟨A,cap,e1⟩:=ha.zy;rw[e1];refine(h0 A cap _ w).mono ?_;rintro e w' ⟨rfl,rfl⟩
     have he:iP M ix (.arr sz0 v0 (rT p (xs.take 0)++xs.drop 0))=M:=by
      rw[fi];apply cA;intro q
      by_cases e:ix=q
      ·subst e; rw[ec (aN hM),hM]; rfl
      ·rw[cJ e]
     rw[he];exact⟨_,j,rfl,hr,Ext.refl _ _ _,.tuple rfl fun i c v hi=>by cases hi⟩
    ·obtain⟨_,hid,_,gg⟩:=ha.ni;obtain⟨e1,_,_,⟨hx,_⟩|⟨b,cap,row,t0,l3,l4,l5,l6,l7⟩⟩:=(gg sz0 v0 xs hM).2 rfl
     ·subst hx; simp at hhi; omega
     subst e1;obtain⟨b',row0,t',k1,k2,k3,k4,k5⟩:=hr.yN hM l3;rw[l3] at k1; cases k1;rw[l6] at k2; injection k2 with k2; injection k2 with k2 k2'
     subst k2; subst k2';have hrow:hi*sz0<=row.size:=aY (bd _ hhi) k3
     -- the elements
     have hidx:∀q k,q<hi->k<sz0->q*sz0+k<hi*sz0:=fun q k hq hk'=>by
      have:(q+1)*sz0<=hi*sz0:=bd _ hq;rw[mW] at this; omega
     have hel:∀q,q<hi->∃a:EL sz0 p,(∀k,k<sz0->a.l[k]?=row[q*sz0+k]?)/\∀x,xs[q]?=some x->a.n=ue p x:=by
      intro q hq;have hxq:xs[q]?=some (xs[q]'(by omega)):=ai aH
      have hwq:=k4 _ (aK hxq)
      have hcell:∀k,k<sz0->∃u,row[q*sz0+k]?=some u/\∃c,(xs[q]'(by omega)).cells[k]?=some c/\fQ w (oo j M w) c u:=fun k hk'=>by
       have hc:=ai (l:=(xs[q]'(by omega)).cells) (i:=k) aH
       obtain⟨u,h1,h2⟩:=k5 q _ k _ hxq hc;exact⟨u,h1,_,hc,h2⟩
      have hkx:=hk _ (aK (show(xs.take hi)[q]?=_ by rw[bH hq]; exact hxq))
      have dJ:((row.toList.drop (q*sz0)).take sz0).length=sz0:=by
       have:=hidx q (sz0-1) hq aH;simp; omega
      have hget:∀k,k<sz0->((row.toList.drop (q*sz0)).take sz0)[k]?=row[q*sz0+k]?:=fun k hk'=>by
       rw[bH hk',cH]; simp
      obtain⟨u,hu1,c,hc1,hc2⟩:=hcell p hp
      obtain⟨n,hn⟩:∃n,c = .int .i64 n:=by
       unfold Zk at hkx;rw[hc1] at hkx;split at hkx
       ·rename_i hh; injection hh with hh; exact⟨_,hh⟩
       ·cases hkx
      subst hn;have hu:=(gj.plain (j:=j) (M:=M) hc2).fT;subst hu;refine⟨⟨(row.toList.drop (q*sz0)).take sz0,dJ,fun v hv=>?_,n,by rw[hget p hp]; exact hu1⟩,hget,fun x hx=>?_⟩
      ·obtain⟨k,hk'⟩:=bV hv;have hkl:k<sz0:=by rw[<-dJ]; exact aN hk'
       obtain⟨u,h1,c,_,h3⟩:=hcell k hkl;rw[hget k hkl,h1] at hk'; cases hk';exact h3.one
      ·rw[hxq] at hx; cases hx;simp[ue,Zk,hc1]
     obtain⟨d,hdl,hd⟩:∃d:List (EL sz0 p),d.length=hi/\∀q a,d[q]?=some a->(∀k,k<sz0->a.l[k]?=row[q*sz0+k]?)/\∀x,xs[q]?=some x->a.n=ue p x:=by
      refine⟨(List.finRange hi).map fun q=>(hel q.1 q.2).choose,dy,fun q a ha=>?_⟩
      rw[aX,aV] at ha;obtain⟨i,hi',rfl⟩:=ha;have hq:q<hi:=by have:=aN hi'; simpa using this
      have:i=⟨q,hq⟩:=by
       have h1:=(aj.1 hi').2;rw[<-h1]; simp
      subst this;exact(hel q hq).choose_spec
     haveI:Inhabited (EL sz0 p):=⟨(hel 0 hpos).choose⟩
     have hget! : ∀q,q<hi->d[q]?=some d.toArray[q]! := fun q hq=>by
      rw[ai aH,mX d.toArray q (by simpa[hdl] using hq)]
      simp
     have hfl:∀t,t<hi*sz0->row[t]?=some (d.toArray[t / sz0]!.l[t % sz0]!):=fun t ht=>by
      have hq:t / sz0<hi:=(kW aH).2 ht;have hm:t % sz0<sz0:=kX _ aH;have h1:=(hd _ _ (hget! _ hq)).1 _ hm;rw[Nat.div_add_mod'] at h1;rw[<-h1];have h2:t % sz0<d.toArray[t / sz0]!.l.length:=by rw[(d.toArray[t / sz0]!).hl]; exact hm
      rw[ai h2,mX (d.toArray[t / sz0]!.l) (t % sz0) h2]
     have hH:HoldsK EL.l sz0 w b 0 d.toArray:=fun t ht=>by
      simp only[size_flatK,cU,hdl] at ht;rw[get_flatK _ _ _ _ (by simpa[hdl] using ht)]
      refine⟨?_,?_⟩
      ·simp only[aG,World.cell?,l6,id];exact hfl t ht
      ·simp[World.frozen?,l6]
     rw[l4,bO,jG];have hcall:=hS b cap d.toArray w hH (lt_of_block l6) (by simp[hdl]; omega)
     simp only[cU,hdl] at hcall;refine hcall.mono ?_;rintro e1 w' ⟨rfl,d',n,os,hperm,hsort,rfl⟩;obtain⟨hs1,_,hs3⟩:=hperm;simp only[cU,hdl] at hs1
     have hperm':d'.toList.Perm d:=by
      have e1:(d'.extract 0 hi).toList=d'.toList:=by rw[<-hs1]; simp
      have e2:(d.toArray.extract 0 hi).toList=d:=by rw[<-hdl]; simp
      rw[e1,e2] at hs3; exact hs3
     have hpw:d'.toList.Pairwise fun a b=>a.n<=b.n:=by
      rw[cd];intro i k hi1 hk1 hik;have hk2:k<d'.size:=by simpa using hk1
      have:=hsort i k (cL _) hik aH;rw[ltE,mX d' k hk2,mX d' i aH] at this;simp at this ⊢;omega
     have hmatch:∀(q:Nat)(y:ag),(rT p (xs.take hi))[q]?=some y->∃(i:Nat) (a:EL sz0 p),d'.toList[q]?=some a/\d[i]?=some a/\(xs.take hi)[i]?=some y:=fun q y hy =>
      Mn (fun a:EL sz0 p=>a.n) (by simp[hdl]; omega) (fun i a x h1 h2=>(hd i a h1).2 x (by
       have cG:i<hi:=by have:=aN h2; simp at this; omega
       rwa[bH cG] at h2)) hnd hperm' hpw hy
     -- the world behind
     have hbk:(sortWorldK EL.l sz0 w b 0 n d' os).heap[b]?=some (.cells (Go.Sort.putCells id 0 (flatK EL.l sz0 d') row) t0 (0,0)):=by
      have cG:=lt_of_block l6
      show((w.heap.modify b (onCells (Go.Sort.putCells id 0 (flatK EL.l sz0 d'))))++os)[b]?=_
      rw[cj (by simpa using cG),gU,aZ rfl,l6]
      rfl
     have hq:Quiet w (sortWorldK EL.l sz0 w b 0 n d' os):=⟨by show w.heap.size<=((w.heap.modify b _)++os).size; simp,rfl,rfl,rfl⟩
     have hoth:∀b',b'≠b->b'<w.heap.size->(sortWorldK EL.l sz0 w b 0 n d' os).heap[b']?=w.heap[b']?:=fun b' hne cG=>by
      show((w.heap.modify b _)++os)[b']?=_
      rw[cj (by simpa using cG),gU,aR (eW hne)]
     have hsl:(rT p (xs.take hi)).length=hi:=by rw[(uu p _).length_eq]; simp; omega
     have hwd:wid (rT p (xs.take hi)++xs.drop hi) sz0:=nB (fun x hx=>k4 x (dK ((uu p _).mem_iff.1 hx))) (vO k4)
     have hcells:∀t,t<hi*sz0->(Go.Sort.putCells id 0 (flatK EL.l sz0 d') row)[t]?=some (d'[t / sz0]!.l[t % sz0]!):=fun t ht=>by
      unfold Go.Sort.putCells;rw[Array.getElem?_mapIdx,bg (show t<row.size by omega)]
      simp only[eo,size_flatK,hs1,aG,bO,cL,true_and,ht,aJ,id];rw[get_flatK _ _ _ _ (by rw[hs1]; exact ht)]
     have hrl:RL w (oo j M w) (j9 (rT p (xs.take hi)++xs.drop hi)) ((Go.Sort.putCells id 0 (flatK EL.l sz0 d') row).toList.take (xs.length*sz0)):=by
      have hpsz:(Go.Sort.putCells id 0 (flatK EL.l sz0 d') row).size=row.size:=by simp[Go.Sort.putCells]
      refine xT (b:=b) (by rw[hpsz]; simpa[hsl,dj hhi] using k3) hwd (fun q x k c hx hkc=>?_) |> fun h=>by
       have e:(rT p (xs.take hi)++xs.drop hi).length=xs.length:=by simp[hsl]; omega
       rwa[e] at h
      have hkl:k<sz0:=by rw[<-hwd x (aK hx)]; exact aN hkc
      rcases bz q hi with hq'|hq'
      ·rw[aO (by rw[hsl]; exact hq')] at hx
       obtain⟨i,a,h1,h2,h3⟩:=hmatch q x hx;have hi':i<hi:=by have:=aN h3; simp at this; omega
       rw[bH hi'] at h3;obtain⟨u,g1,g2⟩:=k5 i x k c h3 hkc;refine⟨u,?_,g2⟩;rw[hcells _ (hidx q k hq' hkl)];have hdv:(q*sz0+k) / sz0=q:=by rw[Nat.mul_comm,Nat.mul_add_div aH,Nat.div_eq_of_lt hkl]; rfl
       have hmd:(q*sz0+k) % sz0=k:=by rw[Nat.mul_comm,Nat.mul_add_mod,nG hkl]
       rw[hdv,hmd]
       have ha':d'[q]! = a:=by
        have hq2:q<d'.size:=aH;rw[mX d' q hq2];simpa[bg hq2] using h1
       rw[ha',<-g1,<-(hd i a h2).1 k hkl];have:k<a.l.length:=by rw[a.hl]; exact hkl
       rw[ai this,mX a.l k this]
      ·rw[bj (by rw[hsl]; exact hq'),hsl,cH,dj hq'] at hx
       obtain⟨u,g1,g2⟩:=k5 q x k c hx hkc;refine⟨u,?_,g2⟩;unfold Go.Sort.putCells;have hge:hi*sz0<=q*sz0+k:=aY (bd _ hq') (ko _ _);rw[Array.getElem?_mapIdx,g1];simp only[eo,size_flatK,hs1,aG];rw[aR aH]
     rw[fi]
     have hput:=xR (ver':=v0) (xs':=rT p (xs.take hi)++xs.drop hi) hr hM l3 hq hoth l6 hbk (by simp[Go.Sort.putCells]) (au _) (fun _=>by simp[hsl]; omega) hwd hrl (fun t ht=>by
      rw[bH (by simp at ht; omega)]; simp)
     exact⟨_,j,rfl,hput.1,hput.2,.tuple rfl fun i c v hi=>by cases hi⟩
  ·cases h
 ·cases h
def Xo{args:List ag}{M:aC}{x:ag×aC}(h:wE 3 2 208 args M=some x):db Tryz.prog 207 args M x :=
 EH aH (fun A cap fv w=>AnyF.slices_SortFunc_none Tryz.N1 A cap fv w)
  (fun blk cap d w hH hb hs=>(AnyQ.slices_SortFunc Tryz.N1 3 isAgg152 sizeOf152 EL.l (fun x=>x.hl) (fun x=>x.h1) cfE an5 208 #[] blk 0 cap d w (enters_of func208 fz rfl) (K1 blk 0 d.size w) hH hb hs)) h
def Xp{args:List ag}{M:aC}{x:ag×aC}(h:wE 6 0 273 args M=some x):db Tryz.prog 272 args M x :=
 EH aH (fun A cap fv w=>AnyF.slices_SortFunc_none Tryz.J8 A cap fv w)
  (fun blk cap d w hH hb hs=>(AnyQ.slices_SortFunc Tryz.J8 6 isAgg115 sizeOf115 EL.l (fun x=>x.hl) (fun x=>x.h1) cfE an5 273 #[] blk 0 cap d w (enters_of func273 fz rfl) (K2 blk 0 d.size w) hH hb hs)) h
end Go.Proofs.YteoamaffclmdbaaGreatDoor
namespace Go.Proofs.YteoamaffclmdbaaGreatDoor
open Go Go.Abs
noncomputable def sH(sz:Nat)(args:List ag)(M:aC):Option (ag×aC):=bJ (lI sz args M) fun x=>some (x.1.ry x.2,qz x.2 x.1.ids)
def FL{P:Program}{f:Nat}{args:List ag}{M:aC}{x:ag×aC}(h:db P f args M x)(hx:x.1.jn=false):db P f args M (x.1.ry x.2,qz x.2 x.1.ids):=by
 intro j w vs h1 h2 h3 h4;refine(h j w vs h1 h2 h3 h4).mono ?_;intro e w' hc;obtain⟨v,rfl,j',g1,g2,g3⟩:=hc.ret hx;obtain⟨f1,f2,f3,f4⟩:=zP x.1.ids g1;exact .inl ⟨v,rfl,j',f2,g2.trans f1,g3.ry g1 f1 f2 f3 f4⟩
def JL{sz:Nat}{args:List ag}{M:aC}{x:ag×aC}(h:lI sz args M=some x):x.1.jn=false:=by
 unfold lI at h;split at h
 ·split at h
  ·obtain⟨_,h⟩:=da h;cases h; rfl
  ·cases h
 ·cases h
def Dt{P:Program}{f sz:Nat}(hd:∀ {args:List ag} {M:aC} {x:ag×aC},lI sz args M=some x->db P f args M x)
  {args:List ag} {M:aC} {x:ag×aC} (h:sH sz args M=some x):db P f args M x:=by
 obtain⟨y,h1,h2⟩:=bo h;cases h2;exact FL (hd h1) (JL h1)
def K8{args:List ag}{M:aC}{x:ag×aC}(h:sH 3 args M=some x):db Tryz.prog 218 args M x:=Dt O2 h
def K9{args:List ag}{M:aC}{x:ag×aC}(h:sH 3 args M=some x):db Tryz.prog 227 args M x:=Dt O3 h
section
open Go.RowKit
set_option maxHeartbeats 1000000 in
set_option maxRecDepth 100000 in
def K4(a b:ByteArray)(w:World) :
  Calls Tryz.prog 286 #[.string a,.string b] w fun e w'=>e = .returned (.int .i64 (Lib.compareBytes a.data.toList b.data.toList))/\w'=w:=by
 go_enter func286,ntmps286
 go_wp2
 rw[run_callFunc_extern func309 fz fz fz (e:=Extern.BytealgCompare.compare) fz,Lib.run_compareString];simp only[Result.andThen];rw[Oper.upon_value]
 go_wp2
 go_ret
 exact⟨rfl,rfl⟩
noncomputable def Ae:List ag->aC->Option (ag×aC)
 | [.str a,.str b],M=>some (.int .i64 (Lib.compareBytes a b),M)
 |_,_=>none
def Iz{args:List ag}{M:aC}{x:ag×aC}(h:Ae args M=some x):db Tryz.prog 286 args M x:=by
 unfold Ae at h;split at h
 ·rename_i a b;cases h;refine nK.call ?_;intro j w vs hr hG hl hv;obtain⟨l⟩:=vs
  match l,hl with
  | [u1,u2],_ =>
   have h1:=(hv 0 _ u1 rfl rfl).kE;have h2:=(hv 1 _ u2 rfl rfl).kE;subst h1; subst h2;refine(K4 (bs a) (bs b) w).mono ?_;rintro e w' ⟨rfl,rfl⟩;exact⟨_,j,rfl,hr,.refl _ _ _,.plain (.int _ _)⟩
 ·cases h
end
end Go.Proofs.YteoamaffclmdbaaGreatDoor
namespace Go.Proofs
open Go.Shelf
def Tryz.Cc:Go.Shelf.Ren:=⟨fun|156=>277|165=>304|166=>305|169=>306|240=>327|241=>328|276=>335|277=>336|n=>n,fun|31=>44|9=>9|3=>3|4=>4|0=>0|20=>20|72=>352|76=>353|70=>350|37=>45|75=>99|127=>370|164=>170|5=>5|80=>355|n=>n,fun|n=>n⟩
def Tryz.Np:Go.Proofs.Lays.n156 Tryz.prog Tryz.Cc:={
 mixed:=fz
 f156:=(sW func277)
 f165:=(sW func304)
 f166:=(sW func305)
 f169:=(sW func306)
 f240:=(sW func327)
 f241:=(sW func328)
 f276:=(sW func335)
 f277:=(sW func336)
 t0:=underlying0
 a0:=isAgg0
 z0:=sizeOf0
 v0:=zeroValue0
 t3:=underlying3
 a3:=isAgg3
 z3:=sizeOf3
 v3:=zeroValue3
 t4:=underlying4
 a4:=isAgg4
 z4:=sizeOf4
 v4:=zeroValue4
 t9:=underlying9
 a9:=isAgg9
 z9:=sizeOf9
 v9:=zeroValue9
 t20:=underlying20
 a20:=isAgg20
 z20:=sizeOf20
 v20:=zeroValue20
 t31:=underlying44
 a31:=isAgg44
 z31:=sizeOf44
 v31:=zeroValue44
 t37:=underlying45
 a37:=isAgg45
 z37:=sizeOf45
 v37:=zeroValue45
 t70:=underlying350
 a70:=isAgg350
 z70:=sizeOf350
 v70:=zeroValue350
 t72:=underlying352
 a72:=isAgg352
 z72:=sizeOf352
 v72:=zeroValue352
 t75:=underlying99
 a75:=isAgg99
 z75:=sizeOf99
 v75:=zeroValue99
 t76:=underlying353
 a76:=isAgg353
 z76:=sizeOf353
 v76:=zeroValue353
 t127:=underlying370
 a127:=isAgg370
 z127:=sizeOf370
 v127:=zeroValue370
 t164:=underlying170
 a164:=isAgg170
 z164:=sizeOf170
 v164:=zeroValue170 }
def Tryz.uE:Builder.Extra Tryz.prog Tryz.Cc:={
 sizeBuilder:=fz
 liesBuilder:=fz
 t5:=underlying5
 a5:=isAgg5
 z5:=sizeOf5
 v5:=zeroValue5
 infoByte:=fz
 cellsByte:=fz
 sizeByte:=fz
 neB5:=by decide }
open Go.RowKit in
def Tryz.strings_Join_none(a:Option Addr)(c:Nat)(sep:ByteArray)(w:World) :
  Calls Tryz.prog 277 #[.slice a 0 c,.string sep] w fun e w'=>e = .returned (.string ⟨#[]⟩)/\w'=w:=Any.strings_Join_none Tryz.Np Tryz.uE a c sep w
open Go.RowKit in
def Tryz.strings_Join(bk o c:Nat)(xs:List ByteArray)(sep:ByteArray)(w:World)(hcells:∀(j:Nat) x,xs[j]?=some x->w.cell? ⟨bk,o+j,none⟩=some (.string x))(hbk:bk<w.heap.size)(hN:xs.length<=140737488355328)(hcap:xs.length<=c)(dJ:(Lib.join (xs.map (·.data.toList)) sep.data.toList).length<=140737488355328) :
  Calls Tryz.prog 277 #[.slice (some ⟨bk,o,none⟩) xs.length c,.string sep] w fun e w'=>e = .returned (.string ⟨(Lib.join (xs.map (·.data.toList)) sep.data.toList).toArray⟩)/\Below w.heap.size w w':=Any.strings_Join Tryz.Np Tryz.uE bk o c xs sep w hcells hbk hN hcap dJ
def Tryz.Js:Go.Shelf.Ren:=⟨fun|137=>276|217=>303|266=>326|n=>n,fun|9=>9|5=>5|3=>3|n=>n,fun|n=>n⟩
def Tryz.Zo:Go.Proofs.Lays.n137 Tryz.prog Tryz.Js:={
 mixed:=fz
 f137:=(sW func276)
 f217:=(sW func303)
 f266:=(sW func326)
 t3:=underlying3
 a3:=isAgg3
 z3:=sizeOf3
 v3:=zeroValue3
 t5:=underlying5
 a5:=isAgg5
 z5:=sizeOf5
 v5:=zeroValue5
 t9:=underlying9
 a9:=isAgg9
 z9:=sizeOf9
 v9:=zeroValue9 }
open Go.RowKit in
def Tryz.strings_IndexByte(s:ByteArray)(c:Int)(w:World) :
  Calls Tryz.prog 276 #[.string s,.int .u8 c] w fun e w'=>e = .returned (.int .i64 (Lib.indexByte s.data.toList c.toNat.toUInt8))/\w'=w:=Any.strings_IndexByte Tryz.Zo s c w
end Go.Proofs
namespace Go.Proofs.YteoamaffclmdbaaGreatDoor
open Go Go.Abs
open Go.RowKit
def Cr{P:Program}{f:Nat}{args:List ag}{M:aC}{r:ag}
  (h:∀(j:J)(w:World)(vs:Array Value),Rel j M w->sO j M w->args.length=vs.size->(∀(i:Nat)(c:ag)(v:Value),args[i]?=some c->vs[i]?=some v->gj j M w c v) ->
   Calls P f vs w fun e w'=>∃v,e = .returned v/\Below w.heap.size w w'/\gj j M w' r v):db P f args M (r,M):=by
 refine nK.call ?_;intro j w vs hr hG hl hv;refine(h j w vs hr hG hl hv).mono ?_;rintro e w' ⟨v,rfl,hb,hrep⟩;exact⟨v,j,rfl,hr.grow hb.size hb.os hb.tape hb.output hb.block,Ext.grow hb.size hb.os hb.tape hb.output hb.block,hrep⟩
def zi:List ag->aC->Option (ag×aC)
 | [.str s,.int k c],M=>if k = .u8 then some (.int .i64 (Lib.indexByte s c.toNat.toUInt8),M) else none
 |_,_=>none
def LD{args:List ag}{M:aC}{x:ag×aC}(h:zi args M=some x):db Tryz.prog 276 args M x:=by
 unfold zi at h;split at h
 ·rename_i s k c;split at h
  ·rename_i hk;subst hk;cases h;refine Cr fun j w vs hr hG hl hv=>?_
   obtain⟨l⟩:=vs
   match l,hl with
   | [u1,u2],_ =>
    obtain rfl:=(hv 0 _ u1 rfl rfl).kE;obtain rfl:=(hv 1 _ u2 rfl rfl).fT;refine(Tryz.strings_IndexByte (bs s) c w).mono ?_;rintro e w' ⟨rfl,rfl⟩;exact⟨_,rfl,Below.refl _ _,by simp[bs]; exact .plain (.int _ _)⟩
  ·cases h
 ·cases h
def BG:List ag->Option (List (List UInt8))
 | []=>some []
 | .str s::r=>bJ (BG r) fun l=>some (s::l)
 |_=>none
def GD:∀ {xs:List ag} {l:List (List UInt8)},BG xs=some l->xs=l.map .str
 | [],l,h=>by cases h; rfl
 |x::r,l,h=>by
  unfold BG at h;split at h
  ·rename_i e; cases e
  ·rename_i s r' e;injection e with e1 e2; subst e1; subst e2
   obtain⟨l',h1,h2⟩:=bo h;cases h2;rw[GD h1]; rfl
  ·cases h
def JN:List ag->aC->Option (ag×aC)
 | [.slice _ xs,.str sep],M=>bJ (BG xs) fun l=>if l.length<=140737488355328/\(Lib.join l sep).length<=140737488355328 then some (.str (Lib.join l sep),M) else none
 |_,_=>none
def amh{args:List ag}{M:aC}{x:ag×aC}(h:JN args M=some x):db Tryz.prog 277 args M x:=by
 unfold JN at h;split at h
 ·rename_i tk xs sep;obtain⟨l,hl0,h⟩:=bo h;have hxs:=GD hl0;split at h
  ·rename_i hs;cases h;refine Cr fun j w vs hr hG hl hv=>?_
   obtain⟨us⟩:=vs
   match us,hl with
   | [u1,u2],_ =>
    obtain⟨A,cap,b,off,sz,vs,e1,e2,e3,e4,e5,e6⟩:=(hv 0 _ u1 rfl rfl).ep.ep;obtain rfl:=(hv 1 _ u2 rfl rfl).kE;subst e1;subst hxs;cases l with
    |nil =>
     refine(Tryz.strings_Join_none A cap (bs sep) w).mono ?_;rintro e w' ⟨rfl,rfl⟩;exact⟨_,rfl,Below.refl _ _,.plain (.str _)⟩
    |cons s0 l =>
     obtain rfl:=e3 dy;have hsz:sz=1:=(e4 (.str s0) dy).symm;subst hsz
     have cell:∀(q:Nat)(s:List UInt8),(s0::l)[q]?=some s->w.cell? ⟨b,off+q,none⟩=some (.string (bs s)):=fun q s hq=>by
      have hq':((s0::l).map ag.str)[q]?=some (.str s):=by rw[aX,hq]; rfl
      have k1:=e5 q _ 0 (.str s) hq' rfl;have k2:=(gj.plain (j:=j) (M:=M) (e6 q _ 0 (.str s) hq' rfl)).kE;simp only[pM,c8] at k1 k2;rw[k1.1,k2]
     have hmap:((s0::l).map bs).map (·.data.toList)=s0::l:=by
      rw[gD]; conv=>rhs; rw[<-List.map_id (s0::l)]
      exact cT fun s _=>by simp[bs]
     have hd:(bs sep).data.toList=sep:=by simp[bs]
     have hb:b<w.heap.size:=by
      have:=cell 0 s0 rfl;rcases bz b w.heap.size with h|h
      ·exact h
      ·simp[World.cell?,im h] at this
     have hJ:=Tryz.strings_Join b off cap ((s0::l).map bs) (bs sep) w (fun q x hq=>by
      rw[aX,aV] at hq;obtain⟨s,hs,rfl⟩:=hq;exact cell q s hs) hb (by simpa using hs.1) (by simpa using e2) (by rw[hmap,hd]; exact hs.2)
     rw[hmap,hd] at hJ;have:((s0::l).map bs).length=((s0::l).map ag.str).length:=dy;rw[this] at hJ;refine hJ.mono ?_;rintro e w' ⟨rfl,hb⟩;exact⟨_,rfl,hb,.plain (.str _)⟩
  ·cases h
 ·cases h
end Go.Proofs.YteoamaffclmdbaaGreatDoor
namespace Go.Abs
open Go
def TG0:(∀B M b,ag.jC B M (.bool b)=(.bool b)/\ag.jW B M (.bool b)=(.bool b)/\ag.jX B M (.bool b)=(.bool b)/\ag.mH B M (.bool b)=(.bool b)/\ag.kh B M (.bool b)=(.bool b)/\ag.kO B M (.bool b)=(.bool b)/\ag.lC B M (.bool b)=(.bool b)) /\
  (∀b,ag.shut (.bool b)=(.bool b)/\ag.fR (.bool b)=(.bool b)/\ag.jn (.bool b)=false/\ag.cells? (.bool b)=some [(.bool b)]/\ag.je (.bool b)=true/\ag.plainCell (.bool b)=true/\ag.plain (.bool b)=true/\ag.cells (.bool b)=[(.bool b)]/\ag.iG (.bool b)=[]/\ag.nD (.bool b)=[]/\ag.ids (.bool b)=[]) /\
  (∀M b,ag.oY M (.bool b)=(.bool b)/\ag.ry M (.bool b)=(.bool b)) /\
  (∀B M k n,ag.jC B M (.int k n)=(.int k n)/\ag.jW B M (.int k n)=(.int k n)/\ag.jX B M (.int k n)=(.int k n)/\ag.mH B M (.int k n)=(.int k n)/\ag.kh B M (.int k n)=(.int k n)/\ag.kO B M (.int k n)=(.int k n)/\ag.lC B M (.int k n)=(.int k n)) /\
  (∀k n,ag.shut (.int k n)=(.int k n)/\ag.fR (.int k n)=(.int k n)/\ag.jn (.int k n)=false/\ag.cells? (.int k n)=some [(.int k n)]/\ag.je (.int k n)=true/\ag.plainCell (.int k n)=true/\ag.plain (.int k n)=true/\ag.cells (.int k n)=[(.int k n)]/\ag.iG (.int k n)=[]/\ag.nD (.int k n)=[]/\ag.ids (.int k n)=[]) /\
  (∀M k n,ag.oY M (.int k n)=(.int k n)/\ag.ry M (.int k n)=(.int k n)) /\
  (∀B M s,ag.jC B M (.str s)=(.str s)/\ag.jW B M (.str s)=(.str s)/\ag.jX B M (.str s)=(.str s)/\ag.mH B M (.str s)=(.str s)/\ag.kh B M (.str s)=(.str s)/\ag.kO B M (.str s)=(.str s)/\ag.lC B M (.str s)=(.str s)) /\
  (∀s,ag.shut (.str s)=(.str s)/\ag.fR (.str s)=(.str s)/\ag.jn (.str s)=false/\ag.cells? (.str s)=some [(.str s)]/\ag.je (.str s)=true/\ag.plainCell (.str s)=true/\ag.plain (.str s)=true/\ag.cells (.str s)=[(.str s)]/\ag.iG (.str s)=[]/\ag.nD (.str s)=[]/\ag.ids (.str s)=[]):=by
 repeat' (first|rfl|intro _|apply And.intro)
def TG1:(∀M s,ag.oY M (.str s)=(.str s)/\ag.ry M (.str s)=(.str s)) /\
  (∀B M id off,ag.jC B M (.ptr id off)=(if id<B then (.ptr id off) else .any)/\ag.jW B M (.ptr id off)=(if id<B then (.ptr id off) else .any)/\ag.jX B M (.ptr id off)=(if id<B then (.ptr id off) else .any)/\ag.mH B M (.ptr id off)=(if id<B then (.ptr id off) else .any)/\ag.kh B M (.ptr id off)=(if id<B then (.ptr id off) else .any)/\ag.kO B M (.ptr id off)=(if id<B then (.ptr id off) else .any)/\ag.lC B M (.ptr id off)=(if id<B then (.ptr id off) else .any)) /\
  (∀id off,ag.shut (.ptr id off)=(.ptr id off)/\ag.fR (.ptr id off)=(.ptr id off)/\ag.jn (.ptr id off)=false/\ag.cells? (.ptr id off)=some [(.ptr id off)]/\ag.je (.ptr id off)=true/\ag.plainCell (.ptr id off)=false/\ag.plain (.ptr id off)=false/\ag.cells (.ptr id off)=[(.ptr id off)]/\ag.iG (.ptr id off)=[id]/\ag.nD (.ptr id off)=[id]/\ag.ids (.ptr id off)=[id]) /\
  (∀M id off,ag.oY M (.ptr id off)=(.ptr id off)/\ag.ry M (.ptr id off)=(.ptr id off)) /\
  (∀B M cs,ag.jC B M (.jE cs)=(.jE cs)/\ag.jW B M (.jE cs)=(.jE cs)/\ag.jX B M (.jE cs)=(.jE cs)/\ag.mH B M (.jE cs)=(.jE cs)/\ag.kh B M (.jE cs)=(.jE cs)/\ag.kO B M (.jE cs)=(.jE cs)/\ag.lC B M (.jE cs)=(.jE cs)) /\
  (∀cs,ag.shut (.jE cs)=(.jE cs)/\ag.fR (.jE cs)=(.jE cs)/\ag.jn (.jE cs)=false/\ag.cells? (.jE cs)=some [(.jE cs)]/\ag.je (.jE cs)=true/\ag.plainCell (.jE cs)=false/\ag.plain (.jE cs)=false/\ag.cells (.jE cs)=[(.jE cs)]/\ag.iG (.jE cs)=[]/\ag.nD (.jE cs)=[]/\ag.ids (.jE cs)=[]) /\
  (∀M cs,ag.oY M (.jE cs)=(.jE cs)/\ag.ry M (.jE cs)=(.jE cs)) /\
  (∀B M f cs,ag.jC B M (.func f cs) = .any/\ag.jW B M (.func f cs) = .func f (cs.map (ag.jC B M))/\ag.jX B M (.func f cs) = .func f (cs.map (ag.jC B M))/\ag.mH B M (.func f cs) = .func f (cs.map (ag.jC B M))/\ag.kh B M (.func f cs) = .func f (cs.map (ag.jC B M))/\ag.kO B M (.func f cs) = .func f (cs.map (ag.jC B M))/\ag.lC B M (.func f cs) = .func f (cs.map (ag.jC B M))):=by
 repeat' (first|rfl|intro _|apply And.intro)
def TG2:(∀f cs,ag.shut (.func f cs)=(.func f cs)/\ag.fR (.func f cs)=(.func f cs)/\ag.jn (.func f cs)=false/\ag.cells? (.func f cs)=some [(.func f cs)]/\ag.je (.func f cs)=true/\ag.plainCell (.func f cs)=false/\ag.plain (.func f cs)=false/\ag.cells (.func f cs)=[(.func f cs)]/\ag.iG (.func f cs)=[]/\ag.nD (.func f cs)=cs.flatMap ag.iG/\ag.ids (.func f cs)=cs.flatMap ag.iG) /\
  (∀M f cs,ag.oY M (.func f cs)=(.func f cs)/\ag.ry M (.func f cs)=(.func f cs)) /\
  (∀B M id,ag.jC B M (.iw id)=(if id<B then (.iw id) else .any)/\ag.jW B M (.iw id)=(if id<B then (.iw id) else .any)/\ag.jX B M (.iw id)=(if id<B then (.iw id) else .any)/\ag.mH B M (.iw id)=(if id<B then (.iw id) else .any)/\ag.kh B M (.iw id)=(if id<B then .iw id else match M[id]? with|some (.map ks vs)=>if vs.all ag.plain&&ks.all ag.plainCell then .kj ks vs else .any|_ => .any)/\ag.kO B M (.iw id)=(if id<B then .iw id else match M[id]? with|some (.map ks vs)=>if vs.all ag.plain&&ks.all ag.plainCell then .kj ks vs else .any|_ => .any)/\ag.lC B M (.iw id)=(if id<B then .iw id else match M[id]? with|some (.map ks vs)=>if vs.all ag.plain&&ks.all ag.plainCell then .kj ks vs else .any|_ => .any)) /\
  (∀id,ag.shut (.iw id)=(.iw id)/\ag.fR (.iw id)=(.iw id)/\ag.jn (.iw id)=false/\ag.cells? (.iw id)=some [(.iw id)]/\ag.je (.iw id)=true/\ag.plainCell (.iw id)=false/\ag.plain (.iw id)=false/\ag.cells (.iw id)=[(.iw id)]/\ag.iG (.iw id)=[id]/\ag.nD (.iw id)=[id]/\ag.ids (.iw id)=[id]) /\
  (∀M id,ag.oY M (.iw id)=(.iw id)/\ag.ry M (.iw id)=(.iw id)) /\
  (∀B M id,ag.jC B M (.j7 id)=(if id<B then (.j7 id) else .any)/\ag.jW B M (.j7 id)=(if id<B then (.j7 id) else .any)/\ag.jX B M (.j7 id)=(if id<B then (.j7 id) else .any)/\ag.mH B M (.j7 id)=(if id<B then (.j7 id) else .any)/\ag.kh B M (.j7 id)=(if id<B then (.j7 id) else .any)/\ag.kO B M (.j7 id)=(if id<B then (.j7 id) else .any)/\ag.lC B M (.j7 id)=(if id<B then (.j7 id) else .any)) /\
  (∀id,ag.shut (.j7 id)=(.j7 id)/\ag.fR (.j7 id)=(.j7 id)/\ag.jn (.j7 id)=false/\ag.cells? (.j7 id)=some [(.j7 id)]/\ag.je (.j7 id)=true/\ag.plainCell (.j7 id)=false/\ag.plain (.j7 id)=false/\ag.cells (.j7 id)=[(.j7 id)]/\ag.iG (.j7 id)=[id]/\ag.nD (.j7 id)=[id]/\ag.ids (.j7 id)=[id]) /\
  (∀M id,ag.oY M (.j7 id)=(.j7 id)/\ag.ry M (.j7 id)=(.j7 id)):=by
 repeat' (first|rfl|intro _|apply And.intro)
def TG3:(∀B M ks vs,ag.jC B M (.kj ks vs)=(.kj ks vs)/\ag.jW B M (.kj ks vs)=(.kj ks vs)/\ag.jX B M (.kj ks vs)=(.kj ks vs)/\ag.mH B M (.kj ks vs)=(.kj ks vs)/\ag.kh B M (.kj ks vs)=(.kj ks vs)/\ag.kO B M (.kj ks vs)=(.kj ks vs)/\ag.lC B M (.kj ks vs)=(.kj ks vs)) /\
  (∀ks vs,ag.shut (.kj ks vs)=(.kj ks vs)/\ag.fR (.kj ks vs)=(.kj ks vs)/\ag.jn (.kj ks vs)=false/\ag.cells? (.kj ks vs)=some [(.kj ks vs)]/\ag.je (.kj ks vs)=true/\ag.plainCell (.kj ks vs)=false/\ag.plain (.kj ks vs)=false/\ag.cells (.kj ks vs)=[(.kj ks vs)]/\ag.iG (.kj ks vs)=[]/\ag.nD (.kj ks vs)=[]/\ag.ids (.kj ks vs)=[]) /\
  (∀M ks vs,ag.oY M (.kj ks vs)=(.kj ks vs)/\ag.ry M (.kj ks vs)=(.kj ks vs)) /\
  (∀B M id ver sz lo hi,ag.jC B M (.cv id ver sz lo hi)=(if id<B then (.cv id ver sz lo hi) else match M[id]? with|some (.arr _ v xs)=>if v=ver then gS ((xs.take hi).drop lo) else .any|_ => .any)/\ag.jW B M (.cv id ver sz lo hi)=(if id<B then (.cv id ver sz lo hi) else match M[id]? with|some (.arr _ v xs)=>if v=ver then gS ((xs.take hi).drop lo) else .any|_ => .any)/\ag.jX B M (.cv id ver sz lo hi)=(if id<B then (.cv id ver sz lo hi) else match M[id]? with|some (.arr _ v xs)=>if v=ver then gS ((xs.take hi).drop lo) else .any|_ => .any)/\ag.mH B M (.cv id ver sz lo hi)=(if id<B then (.cv id ver sz lo hi) else match M[id]? with|some (.arr _ v xs)=>if v=ver then gS ((xs.take hi).drop lo) else .any|_ => .any)/\ag.kh B M (.cv id ver sz lo hi)=(if id<B then (.cv id ver sz lo hi) else match M[id]? with|some (.arr _ v xs)=>if v=ver then gS ((xs.take hi).drop lo) else .any|_ => .any)/\ag.kO B M (.cv id ver sz lo hi)=(if id<B then (.cv id ver sz lo hi) else match M[id]? with|some (.arr _ v xs)=>if v=ver then gS ((xs.take hi).drop lo) else .any|_ => .any)/\ag.lC B M (.cv id ver sz lo hi)=(if id<B then (.cv id ver sz lo hi) else match M[id]? with|some (.arr _ v xs)=>if v=ver then gS ((xs.take hi).drop lo) else .any|_ => .any)) /\
  (∀id ver sz lo hi,ag.shut (.cv id ver sz lo hi)=(.cv id ver sz lo hi)/\ag.fR (.cv id ver sz lo hi)=(.cv id ver sz lo hi)/\ag.jn (.cv id ver sz lo hi)=false/\ag.cells? (.cv id ver sz lo hi)=some [(.cv id ver sz lo hi)]/\ag.je (.cv id ver sz lo hi)=true/\ag.plainCell (.cv id ver sz lo hi)=false/\ag.plain (.cv id ver sz lo hi)=false/\ag.cells (.cv id ver sz lo hi)=[(.cv id ver sz lo hi)]/\ag.iG (.cv id ver sz lo hi)=[id]/\ag.nD (.cv id ver sz lo hi)=[id]/\ag.ids (.cv id ver sz lo hi)=[id]) /\
  (∀B M id ver i off,ag.jC B M (.ju id ver i off)=(if id<B then (.ju id ver i off) else .any)/\ag.jW B M (.ju id ver i off)=(if id<B then (.ju id ver i off) else .any)/\ag.jX B M (.ju id ver i off)=(if id<B then (.ju id ver i off) else .any)/\ag.mH B M (.ju id ver i off)=(if id<B then (.ju id ver i off) else .any)/\ag.kh B M (.ju id ver i off)=(if id<B then (.ju id ver i off) else .any)/\ag.kO B M (.ju id ver i off)=(if id<B then (.ju id ver i off) else .any)/\ag.lC B M (.ju id ver i off)=(if id<B then (.ju id ver i off) else .any)) /\
  (∀id ver i off,ag.shut (.ju id ver i off)=(.ju id ver i off)/\ag.fR (.ju id ver i off)=(.ju id ver i off)/\ag.jn (.ju id ver i off)=false/\ag.cells? (.ju id ver i off)=some [(.ju id ver i off)]/\ag.je (.ju id ver i off)=true/\ag.plainCell (.ju id ver i off)=false/\ag.plain (.ju id ver i off)=false/\ag.cells (.ju id ver i off)=[(.ju id ver i off)]/\ag.iG (.ju id ver i off)=[id]/\ag.nD (.ju id ver i off)=[id]/\ag.ids (.ju id ver i off)=[id]) /\
  (∀M id ver i off,ag.oY M (.ju id ver i off)=(.ju id ver i off)/\ag.ry M (.ju id ver i off)=(.ju id ver i off)):=by
 repeat' (first|rfl|intro _|apply And.intro)
def TG4:(∀B M f fs,ag.jC B M (.qX f fs)=(.qX f fs)/\ag.jW B M (.qX f fs)=(.qX f fs)/\ag.jX B M (.qX f fs)=(.qX f fs)/\ag.mH B M (.qX f fs)=(.qX f fs)/\ag.kh B M (.qX f fs)=(.qX f fs)/\ag.kO B M (.qX f fs)=(.qX f fs)/\ag.lC B M (.qX f fs)=(.qX f fs)) /\
  (∀f fs,ag.shut (.qX f fs)=(.qX f fs)/\ag.fR (.qX f fs)=(.qX f fs)/\ag.jn (.qX f fs)=false/\ag.cells? (.qX f fs)=some [(.qX f fs)]/\ag.je (.qX f fs)=true/\ag.plainCell (.qX f fs)=false/\ag.plain (.qX f fs)=false/\ag.cells (.qX f fs)=[(.qX f fs)]/\ag.iG (.qX f fs)=[]/\ag.nD (.qX f fs)=[]/\ag.ids (.qX f fs)=[]) /\
  (∀M f fs,ag.oY M (.qX f fs)=(.qX f fs)/\ag.ry M (.qX f fs)=(.qX f fs)) /\
  (∀B M t id off,ag.jC B M (.kx t id off)=(if id<B then (.kx t id off) else .any)/\ag.jW B M (.kx t id off)=(if id<B then (.kx t id off) else .any)/\ag.jX B M (.kx t id off)=(if id<B then (.kx t id off) else .any)/\ag.mH B M (.kx t id off)=(if id<B then (.kx t id off) else .any)/\ag.kh B M (.kx t id off)=(if id<B then (.kx t id off) else .any)/\ag.kO B M (.kx t id off)=(if id<B then (.kx t id off) else .any)/\ag.lC B M (.kx t id off)=(if id<B then (.kx t id off) else .any)) /\
  (∀t id off,ag.shut (.kx t id off)=(.kx t id off)/\ag.fR (.kx t id off)=(.kx t id off)/\ag.jn (.kx t id off)=false/\ag.cells? (.kx t id off)=some [(.kx t id off)]/\ag.je (.kx t id off)=true/\ag.plainCell (.kx t id off)=false/\ag.plain (.kx t id off)=false/\ag.cells (.kx t id off)=[(.kx t id off)]/\ag.iG (.kx t id off)=[id]/\ag.nD (.kx t id off)=[id]/\ag.ids (.kx t id off)=[id]) /\
  (∀M t id off,ag.oY M (.kx t id off)=(.kx t id off)/\ag.ry M (.kx t id off)=(.kx t id off)) /\
  (∀B M v,ag.jC B M (.nF v)=(.nF v)/\ag.jW B M (.nF v)=(.nF v)/\ag.jX B M (.nF v)=(.nF v)/\ag.mH B M (.nF v)=(.nF v)/\ag.kh B M (.nF v)=(.nF v)/\ag.kO B M (.nF v)=(.nF v)/\ag.lC B M (.nF v)=(.nF v)) /\
  (∀v,ag.shut (.nF v)=(.nF v)/\ag.fR (.nF v)=(.nF v)/\ag.jn (.nF v)=true/\ag.plainCell (.nF v)=false/\ag.plain (.nF v)=false/\ag.cells (.nF v)=[(.nF v)]/\ag.iG (.nF v)=[]/\ag.nD (.nF v)=[]/\ag.ids (.nF v)=[]):=by
 repeat' (first|rfl|intro _|apply And.intro)
def TG5:(∀M v,ag.oY M (.nF v)=(.nF v)/\ag.ry M (.nF v)=(.nF v)) /\
  (∀B M v,ag.jC B M (.raw v)=(.raw v)/\ag.jW B M (.raw v)=(.raw v)/\ag.jX B M (.raw v)=(.raw v)/\ag.mH B M (.raw v)=(.raw v)/\ag.kh B M (.raw v)=(.raw v)/\ag.kO B M (.raw v)=(.raw v)/\ag.lC B M (.raw v)=(.raw v)) /\
  (∀v,ag.shut (.raw v)=(.raw v)/\ag.fR (.raw v)=(.raw v)/\ag.jn (.raw v)=false/\ag.cells (.raw v)=[(.raw v)]/\ag.iG (.raw v)=[]/\ag.nD (.raw v)=[]/\ag.ids (.raw v)=[]) /\
  (∀M v,ag.oY M (.raw v)=(.raw v)/\ag.ry M (.raw v)=(.raw v)) /\
  (∀B M,ag.jC B M .any = .any/\ag.jW B M .any = .any/\ag.jX B M .any = .any/\ag.mH B M .any = .any/\ag.kh B M .any = .any/\ag.kO B M .any = .any/\ag.lC B M .any = .any) /\
  (ag.shut .any = .any/\ag.fR .any = .any/\ag.jn .any=false/\ag.plainCell .any=false/\ag.plain .any=false/\ag.cells .any=[.any]/\ag.iG .any=[]/\ag.nD .any=[]/\ag.ids .any=[]) /\
  (∀M,ag.oY M .any = .any/\ag.ry M .any = .any) /\
  (∀B M xs,ag.jC B M (gS xs)=(gS xs)/\ag.jW B M (gS xs)=(gS xs)/\ag.jX B M (gS xs)=(gS xs)/\ag.mH B M (gS xs)=(gS xs)/\ag.kh B M (gS xs) = gS xs/\ag.kO B M (gS xs) = gS xs/\ag.lC B M (gS xs) = gS xs):=by
 repeat' (first|rfl|intro _|apply And.intro)
def TG6:(∀xs,ag.shut (gS xs) = gS xs/\ag.fR (gS xs) = gS xs/\ag.jn (gS xs)=false/\ag.cells? (gS xs)=some [(gS xs)]/\ag.je (gS xs)=true/\ag.plainCell (gS xs)=true/\ag.plain (gS xs)=true/\ag.cells (gS xs)=[(gS xs)]/\ag.iG (gS xs)=[]/\ag.nD (gS xs)=[]/\ag.ids (gS xs)=[]) /\
  (∀M xs,ag.oY M (gS xs)=(gS xs)/\ag.ry M (gS xs)=(gS xs)) /\
  (∀B M xs,ag.jC B M (.slice .c0 xs)=(.slice .c0 xs)/\ag.jW B M (.slice .c0 xs)=(.slice .c0 xs)/\ag.jX B M (.slice .c0 xs)=(.slice .c0 xs)/\ag.mH B M (.slice .c0 xs)=(.slice .c0 xs)/\ag.kh B M (.slice .c0 xs) = gS xs/\ag.kO B M (.slice .c0 xs) = gS xs/\ag.lC B M (.slice .c0 xs) = gS xs) /\
  (∀xs,ag.shut (.slice .c0 xs) = gS xs/\ag.fR (.slice .c0 xs) = gS xs/\ag.jn (.slice .c0 xs)=false/\ag.cells? (.slice .c0 xs)=some [(.slice .c0 xs)]/\ag.je (.slice .c0 xs)=true/\ag.plainCell (.slice .c0 xs)=false/\ag.plain (.slice .c0 xs)=false/\ag.cells (.slice .c0 xs)=[(.slice .c0 xs)]/\ag.iG (.slice .c0 xs)=[]/\ag.nD (.slice .c0 xs)=[]/\ag.ids (.slice .c0 xs)=[]) /\
  (∀M xs,ag.oY M (.slice .c0 xs)=(.slice .c0 xs)/\ag.ry M (.slice .c0 xs)=(.slice .c0 xs)) /\
  (∀B M k xs,ag.jC B M (.slice (.own k) xs)=(if k<B then (.slice (.own k) xs) else gS xs)/\ag.jW B M (.slice (.own k) xs)=(if k<B then (.slice (.own k) xs) else gS xs)/\ag.jX B M (.slice (.own k) xs)=(if k<B then (.slice (.own k) xs) else gS xs)/\ag.mH B M (.slice (.own k) xs)=(if k<B then (.slice (.own k) xs) else gS xs)/\ag.kh B M (.slice (.own k) xs) = gS xs/\ag.kO B M (.slice (.own k) xs) = gS xs/\ag.lC B M (.slice (.own k) xs) = gS xs) /\
  (∀k xs,ag.shut (.slice (.own k) xs) = gS xs/\ag.fR (.slice (.own k) xs) = gS xs/\ag.jn (.slice (.own k) xs)=false/\ag.cells? (.slice (.own k) xs)=some [(.slice (.own k) xs)]/\ag.je (.slice (.own k) xs)=true/\ag.plainCell (.slice (.own k) xs)=false/\ag.plain (.slice (.own k) xs)=false/\ag.cells (.slice (.own k) xs)=[(.slice (.own k) xs)]/\ag.iG (.slice (.own k) xs)=[k]/\ag.nD (.slice (.own k) xs)=[k]/\ag.ids (.slice (.own k) xs)=[k]) /\
  (∀M k xs,ag.oY M (.slice (.own k) xs)=(.slice (.own k) xs)/\ag.ry M (.slice (.own k) xs)=(.slice (.own k) xs)):=by
 repeat' (first|rfl|intro _|apply And.intro)
def TG7:(∀B M cs,ag.jC B M (.agg cs) = .any/\ag.jW B M (.agg cs) = .any/\ag.jX B M (.agg cs) = .agg (cs.map (ag.jW B M))/\ag.mH B M (.agg cs) = .agg (cs.map (ag.jW B M))/\ag.kh B M (.agg cs) = .any/\ag.kO B M (.agg cs) = .agg (cs.map (ag.kh B M))/\ag.lC B M (.agg cs) = .agg (cs.map (ag.kh B M))) /\
  (∀cs,ag.shut (.agg cs)=(.agg cs)/\ag.fR (.agg cs) = .agg (cs.map ag.shut)/\ag.jn (.agg cs)=false/\ag.cells? (.agg cs)=some cs/\ag.je (.agg cs)=false/\ag.plainCell (.agg cs)=false/\ag.plain (.agg cs)=cs.all ag.plainCell/\ag.cells (.agg cs)=cs/\ag.iG (.agg cs)=[]/\ag.nD (.agg cs)=[]/\ag.ids (.agg cs)=cs.flatMap ag.nD) /\
  (∀M cs,ag.oY M (.agg cs)=(.agg cs)/\ag.ry M (.agg cs) = .agg (cs.map (ag.oY M))) /\
  (∀B M cs,ag.jC B M (.tuple cs) = .any/\ag.jW B M (.tuple cs) = .any/\ag.jX B M (.tuple cs) = .any/\ag.mH B M (.tuple cs) = .tuple (cs.map (ag.jX B M))/\ag.kh B M (.tuple cs) = .any/\ag.kO B M (.tuple cs) = .any/\ag.lC B M (.tuple cs) = .tuple (cs.map (ag.kO B M))) /\
  (∀cs,ag.shut (.tuple cs)=(.tuple cs)/\ag.fR (.tuple cs)=(.tuple cs)/\ag.jn (.tuple cs)=false/\ag.plainCell (.tuple cs)=false/\ag.plain (.tuple cs)=false/\ag.cells (.tuple cs)=[(.tuple cs)]/\ag.iG (.tuple cs)=[]/\ag.nD (.tuple cs)=[]/\ag.ids (.tuple cs)=[]) /\
  (∀M cs,ag.oY M (.tuple cs)=(.tuple cs)/\ag.ry M (.tuple cs)=(.tuple cs)):=by
 repeat' (first|rfl|intro _|apply And.intro)
def bB{C:eP}{fn:List sN}{bR:Nat}{k:List K}{t:Bool}{x y:cz}{bp:Env}{M:aC}{r:Option (ag×aC)}
  (h1:t=true->eX C fn bR k x bp M=r) (h2:t=false->eX C fn bR k y bp M=r):dX C fn bR k (.bool t) x y bp M=r:=by
 cases t
 ·exact h2 rfl
 ·exact h1 rfl
def bU{C:eP}{fn:List sN}{bR:Nat}{k:List K}{live:List Nat}{t w:Bool}{o:cV}{l:List cV}{bp:Env}{M:aC}{r:Option (ag×aC)}
  (h1:t=w->lu C fn bR k live o.lets o.dst l bp (qk C o bp M)=r) (h2:t = !w->fM C fn bR k live l (rG bp o.dst (.tuple [])) M=r):gK C fn bR k live (.bool t) w o l bp M=r:=by
 cases t<;>cases w
 ·exact h1 rfl
 ·exact h2 rfl
 ·exact h2 rfl
 ·exact h1 rfl
def dI{C:eP}{fn:List sN}{bR:Nat}{k:List K}{live:List Nat}{c:Bool}{d:Option Nat}{l:List cV}{bp:Env}{t:Bool}{x y r:Option (ag×aC)}
  (h1:t=true->lu C fn bR k live c d l bp x=r) (h2:t=false->lu C fn bR k live c d l bp y=r):lu C fn bR k live c d l bp (Bq t x y)=r:=by
 cases t
 ·exact h2 rfl
 ·exact h1 rfl
def sn{a b:Nat}(h:a<=1000000)(hb:b<=1000):cp a b=True:=by
 have:a*b<=1000000*1000:=Nat.mul_le_mul h hb;simp only[fH,iZ];unfold cp;omega
def qH{a b:Nat}(h:a<=1000000:=by omega)(hb:b<=1000:=by omega):cp a b=True:=sn h hb
def sM{p:Prop}(h:p:=by omega):p=True:=eq_true h
def oyf{p:Prop}(h:¬p:=by omega):p=False:=eq_false h
def abB(x:ag)(n:Nat):wid [x] n=(x.cells.length=n):=by simp[wid]
def abz(a b:List ag)(n:Nat):wid (a++b) n=(wid a n/\wid b n):=by
 simp only[fH];exact⟨fun h=>⟨fun x hx=>h x (ft _ hx),fun x hx=>h x (iC _ hx)⟩,fun h x hx=>(bm.1 hx).elim (h.1 x) (h.2 x)⟩
def abA(n:Nat):wid [] n=True:=by simp[wid]
def aaO(m:Nat):((m:Int)<0)=False:=dy
def gv{n:Int}(h0 : -9223372036854775808<=n)(h1:n<=9223372036854775807):IntKind.i64.wrap n=n:=by rw[IntKind.wrap_i64]; omega
def CP{C:eP}{f:Nat}{vs:List ag}{r:ag}(h:C f vs []=some (r,[]))(h1:vs.all ag.flat=true)(h2:vs.flatMap ag.ids=[])(h3:r.wA=true)
  (h4:vs.map (ag.pj (iv []))=vs) (h5:r.Ap (wv [])=r) (M:aC):aU C f vs M=some (r,M):=by
 have e0:reach M []=[]:=rfl;have e1:kC M []=[]:=rfl;have e2:(vs.map (ag.pj (iv [])))=vs:=h4;unfold aU;rw[aZ h1,h2,e0];simp only[j4,bN];rw[aZ e1,e2,h];simp[h3,h5,mb]
def cO{C:eP}{f:Nat}{vs:List ag}{r:ag}(h:C f vs []=some (r,[]))(M:aC)(h1:vs.all ag.flat=true:=by exact rfl)(h2:vs.flatMap ag.ids=[]:=by exact rfl)(h3:r.wA=true:=by exact rfl)(h4:vs.map (ag.pj (iv []))=vs:=by exact rfl)(h5:r.Ap (wv [])=r:=by exact rfl):aU C f vs M=some (r,M):=CP h h1 h2 h3 h4 h5 M
def cP{C:eP}{f:Nat}{vs:List ag}{r:ag}(h:C f vs []=some (r,[]))(h1:vs.all ag.flat=true:=by exact rfl)(h2:vs.flatMap ag.ids=[]:=by exact rfl)(h3:r.wA=true:=by exact rfl)(h4:vs.map (ag.pj (iv []))=vs:=by exact rfl)(h5:r.Ap (wv [])=r:=by exact rfl)(M:aC):aU C f vs M=some (r,M):=CP h h1 h2 h3 h4 h5 M
def HG{M:aC}{p:Nat}{b:cI}(h:nth M p=some b):∀b',nth (iP M p b') p=some b':=by
 intro b';rw[fc] at h ⊢;rw[fi];exact ec (aN h)
def ti{C:eP}{f p:Nat}{vs:List ag}{r:ag}{M:aC}{cs cs':List ag}(hM:nth M p=some (.cells cs))(h:C f (.ptr 0 0::vs) [.cells cs]=some (r,[.cells cs']))(h1:vs.all ag.flat=true)(h2:vs.flatMap ag.ids=[])(h3:r.wA=true)
  (h4:vs.map (ag.pj (iv [p]))=vs) (h5:r.Ap (wv [p])=r) (h6:cs.all ag.vw=true) (h7:cs.flatMap ag.nD=[]) (h8:cs.map (ag.sf (iv [p]))=cs) (h9:cs'.all ag.vw=true) (h10:cs'.map (ag.sf (wv [p]))=cs') :
  aU C f (.ptr p 0::vs) M=some (r,iP M p (.cells cs')):=by
 have hids:(ag.ptr p 0::vs).flatMap ag.ids=[p]:=by simp[ag.ids,ag.nD,ag.iG,h2]
 have hi:qq M [p]=[]:=by simp[qq,hM,cI.ids,h7]
 have e0:kC M [p]=[p]:=by simp[kC,hi,kb]
 have e1:reach M [p]=[p]:=by
  have ea:kb [] [p]=[p]:=rfl;simp only[reach,ea,e0]
 have hfl:(ag.ptr p 0::vs).all ag.flat=true:=by simp only[kL,h1,gA]; rfl
 unfold aU;rw[aZ hfl,hids,e1];have hpk:j4 M (iv [p]) [p]=some [.cells cs]:=by simp[j4,hM,cI.flat,h6,cI.pj,h8]
 rw[hpk];simp only[bN];rw[aZ e0]
 have hrn:(ag.ptr p 0::vs).map (ag.pj (iv [p])) = .ptr 0 0::vs:=by
  simp only[aE,h4];simp[ag.pj,ag.sf,ag.um,iv]
 rw[hrn,h];simp only[bN];rw[aZ ⟨rfl,h3,by simp[cI.flat,h9]⟩,h5]
 simp only[mb,cI.pj,h10]
def max_lt(n:Nat)(h:n<=9223372036854775807):(IntKind.i64.max<(n:Int))=False:=by
 have:IntKind.i64.max=9223372036854775807:=rfl;simp only[fH,iff_false,this]; omega
def qY{α β:Type}(f:α->β)(l:List α):(l.map f).take l.length=l.map f:=bC dy
set_option linter.defProp false in
def EVT:=bQ @RY (bQ @RX (bQ @YU (bQ @YV (bQ @Pd (bQ @RV (bQ @Lq (bQ @WI (bQ @P6 (bQ @P7 (bQ @Wi (bQ @aaQ (bQ @PJ (bQ @LX (bQ @LV (bQ @LY (bQ @YT (bQ @Lz.eq_1 (bQ @LW (bQ @LZ (bQ @al2 (bQ @alZ (bQ @al1 (bQ @al0 (bQ @al3 (bQ @Y2 (bQ @Y1 (bQ @agT (bQ @Jq (bQ @LL (bQ @LK (bQ @Hm (bQ @Jo (bQ @Vz (bQ @Ff (bQ @Hn (bQ @Zl (bQ @Hp (bQ @Jp (bQ @VA (bQ @Fg (bQ @Ho (bQ @P9.eq_1 (bQ @P8.eq_1 (bQ @agS (bQ @aE.{0,0} (bQ @aQ.{0,0} (bQ @bN (bQ @vE (bQ @p8 (bQ @c8 (bQ @aG (bQ @aw.{0} (bQ @az.{0} (bQ @kL.{0} (bQ @List.all_nil.{0} (bQ @jO (bQ @List.take_zero.{0} (bQ @aP.{0} (bQ @List.take_succ_cons.{0} (bQ @oE.{0} (bQ @na.{0} (bQ @List.drop_nil.{0} (bQ @List.take_nil.{0} (bQ @cX.{0} (bQ @aI.{0} (bQ @au (bQ @jU (bQ @ng (bQ @not_false_eq_true (bQ @Nat.one_ne_zero (bQ @Nat.zero_ne_one (bQ @jJ (bQ @ia (bQ @eb.{0,0} (bQ @dU.{0,0} (bQ @eL (bQ @aX.{0,0} (bQ @eo.{0,0} (bQ @Ma (bQ @kH (bQ @decide_true (bQ @decide_false (bQ @BEq.rfl.{0} (bQ @lV.{0} (bQ @dQ (bQ @fO (bQ @aaO (bQ @abB (bQ @abA (bQ @pN (bQ @true_and (bQ @gA (bQ @aA.{0} (bQ @pZ.{0} (bQ @gt_iff_lt.{0} (bQ @abz (bQ @lU.{0} (bQ @true_or (bQ @or_true (bQ @List.cons_prefix_cons.{0} (bQ @List.nil_prefix.{0} (bQ @List.cons_ne_nil.{0} (bQ @List.flatMap_cons.{0,0} (bQ @List.flatMap_nil.{0,0} (bQ @max_lt (bQ @TG0 (bQ @TG1 (bQ @TG2 (bQ @TG3 (bQ @TG4 (bQ @TG5 (bQ @TG6 (@TG7)))))))))))))))))))))))))))))))))))))))))))))))))))))))))))))))))))))))))))))))))))))))))))))))))))))))))))))))))
set_option linter.defProp false in
def EVD:=bQ @finish.eq_1 (bQ @sV.eq_1 (bQ @sV.eq_2 (bQ @Ew.eq_1 (bQ @Ew.eq_2 (bQ @Ew.eq_3 (bQ @one.eq_1 (bQ @one.eq_2 (bQ @qk.eq_1 (bQ @ef.eq_1 (bQ @ef.eq_2 (bQ @ef.eq_3 (bQ @ef.eq_4 (bQ @ef.eq_5 (bQ @ef.eq_6 (bQ @ef.eq_7 (bQ @ef.eq_8 (bQ @ef.eq_9 (bQ @ef.eq_10 (bQ @ef.eq_11 (bQ @ef.eq_12 (bQ @ef.eq_13 (bQ @ef.eq_14 (bQ @ef.eq_15 (bQ @ef.eq_16 (bQ @ef.eq_17 (bQ @ef.eq_18 (bQ @ef.eq_19 (bQ @ef.eq_20 (bQ @ef.eq_21 (bQ @ef.eq_22 (bQ @ef.eq_23 (bQ @ef.eq_24 (bQ @ef.eq_25 (bQ @ef.eq_26 (bQ @ef.eq_27 (bQ @ef.eq_28 (bQ @ef.eq_29 (bQ @ef.eq_30 (bQ @ef.eq_31 (bQ @ef.eq_32 (bQ @ef.eq_33 (bQ @ef.eq_34 (bQ @ef.eq_35 (bQ @ef.eq_36 (bQ @ef.eq_37 (bQ @ef.eq_38 (bQ @ef.eq_39 (bQ @ef.eq_40 (bQ @ef.eq_41 (bQ @ef.eq_42 (bQ @ef.eq_43 (bQ @ef.eq_44 (bQ @ef.eq_45 (bQ @ef.eq_46 (bQ @ef.eq_47 (bQ @ef.eq_48 (bQ @ef.eq_49 (bQ @ef.eq_50 (bQ @ef.eq_51 (bQ @ef.eq_52 (bQ @ef.eq_53 (bQ @ef.eq_54 (bQ @ef.eq_55 (bQ @ef.eq_56 (bQ @ef.eq_57 (bQ @ef.eq_58 (bQ @eF.eq_1 (bQ @eF.eq_2 (bQ @fV.ev.eq_1 (bQ @fV.ev.eq_2 (bQ @hV.eq_1 (bQ @hV.eq_2 (bQ @rG.eq_1 (bQ @rG.eq_2 (bQ @jo.eq_1 (bQ @nth.eq_1 (bQ @nth.eq_2 (bQ @nth.eq_3 (bQ @iP.eq_1 (bQ @iP.eq_2 (bQ @iP.eq_3 (bQ @pY.eq_1 (bQ @pY.eq_2 (bQ @pY.eq_3 (bQ @pY.eq_4 (bQ @pY.eq_5 (bQ @pY.eq_6 (bQ @pY.eq_7 (bQ @pY.eq_8 (bQ @pY.eq_9 (bQ @pY.eq_10 (bQ @pY.eq_11 (bQ @pY.eq_12 (bQ @pY.eq_13 (bQ @pY.eq_14 (bQ @pY.eq_15 (bQ @pY.eq_16 (bQ @pY.eq_17 (bQ @pY.eq_18 (bQ @pY.eq_19 (bQ @pY.eq_20 (bQ @pY.eq_21 (bQ @pY.eq_22 (bQ @pY.eq_23 (bQ @pY.eq_24 (bQ @pY.eq_25 (bQ @mS.eq_1 (bQ @wx.eq_1 (bQ @iQ.eq_1 (bQ @cI.back.eq_1 (bQ @cI.back.eq_2 (bQ @cI.back.eq_3 (bQ @cI.back.eq_4 (bQ @cI.back.eq_5 (bQ @sR.eq_1 (bQ @sR.eq_2 (bQ @zl.eq_1 (bQ @zl.eq_2 (bQ @mq.eq_1 (bQ @mq.eq_2 (bQ @kD.ew.eq_1 (bQ @kD.ew.eq_2 (bQ @kD.ew.eq_3 (bQ @gw.eq_1 (bQ @gw.eq_2 (bQ @ob.eq_1 (bQ @og.eq_1 (bQ @ox.eq_1 (bQ @bytesOf.eq_1 (bQ @valOf.eq_1 (@valOf.eq_2)))))))))))))))))))))))))))))))))))))))))))))))))))))))))))))))))))))))))))))))))))))))))))))))))))))))))))))))))))))))))))))))))))
set_option linter.defProp false in
def qv:=bQ @gA (bQ @dZ (bQ @dV (bQ @dW (bQ @er (bQ @dH (bQ @fF (bQ @cQ (bQ @dQ (bQ @fO (bQ @jO (bQ @fG (bQ @af (@lV.{0})))))))))))))
set_option linter.defProp false in
def EV:=And.intro @ne_eq.{1} (And.intro EVT EVD)
end Go.Abs
