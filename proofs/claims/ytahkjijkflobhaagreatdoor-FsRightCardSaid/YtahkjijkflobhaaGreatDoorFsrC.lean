import Derived.Lib.AppendZerosOnto
import Derived.RangeFuncCalls
import Derived.OrdersIn
import Derived.LoopNIn
import Derived.Orders
import Derived.LoopN
import Derived.Laws.AppendOwn
import Derived.Laws.IdiomCopy
import Derived.Test.YtahkjijkflobhaaGreatDoorProg
import Derived.Shelf.RegionOpenPlain
import Derived.WalkKit
import Derived.Below
import Derived.Deep.LoopGhost
import Derived.Deep.RegionLaw
import Derived.Deep.AppendSrc
import Derived.Lib.Walk
import Derived.Lib.SliceRun
import Derived.Lib.AppendZeros
import Derived.Laws.NewBlocks
import Derived.Laws.Externs
import Derived.KernelRfl
import Derived.Shelf.SlSortCmp.WholeK
import Derived.Shelf.SlSortCmp.NoneTotal
import Derived.Shelf.SlicesG.Cmp
import Derived.Ground.SlsfProg
import Derived.Ground.SlgcProg
import Derived.Lib.Strings
import Derived.Lib.Slices
import Derived.Lib.Bytealg
import Derived.Shelf.Strings.Builder1
import Derived.Shelf.Strings.Builder2
import Derived.Shelf.Strings.OnBuilder
import Derived.Shelf.Small.Bits
import Derived.Shelf.Small.Strs
import Derived.Shelf.Strconv.Itoa0
import Derived.Shelf.Strings.Search1
import Derived.Test.YtahkjijkflobhaaGreatDoorFsrB
set_option linter.unusedSimpArgs false
set_option linter.unusedVariables false
set_option linter.unusedSectionVars false
set_option linter.defProp false
open Go.Proofs.Tryz
namespace Go.Abs
open Go Go.RowKit
variable [kf]
section
variable {j:J} {M:aH} {w w':World}
def Ext.uc{k b' sz ver ver':Nat}{xs xs':List ag}(hM:M[k]?=some (.arr sz ver xs))(q:Quiet w w')(hb:∀b,b<w.heap.size->w'.heap[b]?=w.heap[b]?)(hf:w.heap.size<=b')(hn:ver<ver') :
  Ext j M w (gy j k (some b')) (M.set k (.arr sz ver' xs')) w' where
 len:=by simp
 size:=q.size
 os:=q.os
 tape:=q.tape
 output:=q.output
 X:=rfl
 fix:=fun i b0 h hf=>by
  have e:k≠i:=by rintro rfl; rw[hM] at h; cases h; cases hf
  exact⟨by simp[gy,eY e],b0,by rw[cI e]; exact h,rfl⟩
 tick:=fun i sz0 n0 h=>by
  have e:k≠i:=by rintro rfl; rw[hM] at h; cases h
  exact⟨n0,aC _,by rw[cI e]; exact h,fun _=>⟨by simp[gy,eY e],fun b vs0 t0 _ hv=>⟨vs0,(hb b (lt_of_block hv)).trans hv,rfl⟩⟩⟩
 arr:=fun i sz0 v0 xs0 h=>by
  by_cases e:k=i
  ·subst e;rw[hM] at h;injection h with h; injection h with h1 h2 h3
   subst h1; subst h2; subst h3;exact .inr ⟨ver',xs',dJ (aJ hM),by omega,fun he=>by omega⟩
  ·exact .inr ⟨v0,xs0,by rw[cI e]; exact h,aC _,fun _=>⟨by simp[gy,eY e],rfl,fun b vs0 t0 _ hv=>⟨vs0,(hb b (lt_of_block hv)).trans hv,rfl⟩⟩⟩
 tags:=fun b0 vs0 t0 fr0 h=>⟨vs0,fr0,(hb b0 (lt_of_block h)).trans h,rfl⟩
 ia:=fun b0 off h=>by
  refine⟨⟨bw h.1 q.size,fun i hi hji=>?_,h.3⟩,World.cell?_of_block (w:=w) (hb b0 h.1)⟩
  have e:k≠i:=by
   rintro rfl;have:b'=b0:=by simpa[gy] using hji
   have:=h.1;omega
  rw[cI e];exact h.2 i (by simpa using hi) (by simpa[gy,eY e] using hji)
 uo:=fun b0 cn h=>by
  refine⟨hb b0 cn,fun i hi hji=>?_⟩
  by_cases e:i=k
  ·have:b'=b0:=by simpa[gy,e] using hji
   omega
  ·exact h i (by simpa using hi) (by simpa[gy,e] using hji)
def Rel.uc{k b' sz ver ver':Nat}{xs xs':List ag}(hM:M[k]?=some (.arr sz ver xs))(hr:Rel j M w)(q:Quiet w w')(hb:∀b,b<w.heap.size->w'.heap[b]?=w.heap[b]?)
  (hf:w.heap.size<=b') (cn:b'<w'.heap.size) (hn:ver<ver') (hh:∀j' M',Ext j M w j' M' w'->Dy j' M' w' b' sz xs'):Rel (gy j k (some b')) (M.set k (.arr sz ver' xs')) w':=by
 have ext:Ext j M w (gy j k (some b')) (M.set k (.arr sz ver' xs')) w':=Ext.uc hM q hb hf hn;refine⟨fun i i' b0 hi hi' h h'=>?_,fun i b0 hi h=>?_,fun i bx0 h hf=>?_,fun i sz0 n0 b0 h hji=>?_,fun i sz0 v0 xs0 h=>?_,fun i b0 hi h off hx=>?_,fun b0 off h=>bw (hr.zC b0 off h) q.size⟩
 ·simp only[fi] at hi hi'
  by_cases e:i=k<;>by_cases e':i'=k
  ·omega
  ·have h1:b'=b0:=by simpa[gy,e] using h
   have:=hr.lt i' b0 hi' (by simpa[gy,e'] using h')
   omega
  ·have h1:b'=b0:=by simpa[gy,e'] using h'
   have:=hr.lt i b0 hi (by simpa[gy,e] using h)
   omega
  ·exact hr.inj i i' b0 hi hi' (by simpa[gy,e] using h) (by simpa[gy,e'] using h')
 ·simp only[fi] at hi
  by_cases e:i=k
  ·have h1:b'=b0:=by simpa[gy,e] using h
   subst h1;exact cn
  ·exact bw (hr.lt i b0 hi (by simpa[gy,e] using h)) q.size
 ·have e:k≠i:=by rintro rfl; rw[dJ (aJ hM)] at h; cases h; cases hf
  rw[cI e] at h;obtain⟨b0,h1,h2⟩:=hr.fix i bx0 h hf;exact⟨b0,by simpa[gy,eY e] using h1,h2.mono ext (hb b0 (hr.lt i b0 (aJ h) h1))⟩
 ·have e:k≠i:=by rintro rfl; rw[dJ (aJ hM)] at h; cases h
  rw[cI e] at h;obtain⟨vs0,t0,h1⟩:=hr.tick i sz0 n0 b0 h (by simpa[gy,eY e] using hji)
  exact⟨vs0,t0,(hb b0 (lt_of_block h1)).trans h1⟩
 ·by_cases e:k=i
  ·subst e;rw[dJ (aJ hM)] at h;injection h with h; injection h with e1 e2 e3
   subst e1; subst e2; subst e3;obtain⟨vs,t,g⟩:=hh _ _ ext;exact .inr ⟨b',vs,t,by simp[gy],g⟩
  ·rw[cI e] at h;exact pn hr ext h (by simp[gy,eY e]) fun b0 h1=>hb b0 (hr.lt i b0 (aJ h) h1)
 ·by_cases e:i=k
  ·have h1:b'=b0:=by simpa[gy,e] using h
   have h2:=hr.zC b0 off hx;omega
  ·exact hr.um i b0 (by simpa using hi) (by simpa[gy,e] using h) off hx
def mN{ia:Nat->Nat->Prop}{xs:List ag}{v:Value}{size:Nat}(hx:fF w ia (.slice .sh xs) v)(hw:wid xs size):∃A cap,v = .slice A xs.length cap/\xs.length<=cap /\
  (xs=[]\/∃b off,A=some ⟨b,off,none⟩/\∃us:List Value,RL w ia (jB xs) us/\us.length=xs.length*size/\(∀u,u∈us->u.oneCell'=true)/\∀p u,us[p]?=some u->w.cell? ⟨b,off+p,none⟩=some u/\ia b (off+p)):=by
 cases hx with
 |slice _ A len cap b off sz vs hl hc ha hz hs hr =>
  subst hl;refine⟨A,cap,rfl,hc,?_⟩;rcases List.eq_nil_or_concat xs with h0|⟨_,_,h0⟩
  ·exact .inl h0
  ·have hne:xs≠[]:=by rw[h0]; simp
   have hsz:sz=size:=by
    obtain⟨x,r,hxr⟩:=dV hne;have hm:x∈xs:=by rw[hxr]; exact bj ..
    rw[<-hz x hm,hw x hm]
   subst hsz;have dR:((List.range (xs.length*sz)).map vs).length=xs.length*sz:=by simp
   have hrl:RL w ia (jB xs) ((List.range (xs.length*sz)).map vs):=by
    refine⟨by rw[ir hw,dR],fun p c v hc hv=>?_⟩
    obtain⟨q,x,k,h1,h2,rfl⟩:=Cd hw hc;have cn:q*sz+k<xs.length*sz:=by rw[<-ir hw]; exact aJ hc
    rw[bd,jI cn] at hv;simp only[eM] at hv;cases hv;exact hr q x k c h1 h2
   refine .inr ⟨b,off,ha hne,_,hrl,dR,fun u hu=>?_,fun p u hu=>?_⟩
   ·obtain⟨p,hp⟩:=bJ hu;have hp':p<(jB xs).length:=by rw[hrl.1]; exact aJ hp
    exact fF.one (hrl.2 p _ u (ai hp') hp)
   ·have hp':p<(jB xs).length:=by rw[hrl.1]; exact aJ hu
    obtain⟨q,x,k,h1,h2,rfl⟩:=Cd hw (ai hp');have cn:q*sz+k<xs.length*sz:=by rw[<-ir hw]; exact hp'
    rw[bd,jI cn] at hu;simp only[eM] at hu;cases hu;exact hs q x k _ h1 h2
end
section
variable {P:Program} {C:eB} {o:Oper} {br:Env} {M:aH} {j:J} {w:World} {a:Act} {x:ag×aH}
theorem Ng{l:List ag}(hp:0<l.length)(h1:l.all ag.plainCell=true)(n:Nat):jB (List.replicate n (ag.agg l).norm)=(List.replicate n l).flatten/\wid (List.replicate n (ag.agg l).norm) l.length:=by
 refine⟨?_,fun x hx=>by rw[kS hx,ti hp h1]⟩
 induction n with
 |zero=>rfl
 |succ n ih=>rw[iK,nB,ih,iK,List.flatten_cons,ti hp h1]
theorem Kk(hr:Rel j M w){id sz ver:Nat}{xs ys:List ag}(hM:M[id]?=some (.arr sz ver xs)){b cap:Nat}{row:Array Value}{t:TypeId}(hj:j id=some b)(hw:w.heap[b]?=some (.cells row t (0,0)))(hcap:xs.length<=cap)(hrow:cap*sz<=row.size)
  (hwd:wid xs sz) (hwy:wid ys sz) (hne:ys≠[]) {us:List Value} (hrl:RL w (ng j M w) (jB ys) us) {v:Value} {w':World}
  (hq:(xs.length+ys.length<=cap/\v = .slice (some ⟨b,0,none⟩) (xs.length+ys.length) cap/\w'=ot w b (xs.length*sz) us) \/
   ∃c' row' e,xs.length+ys.length<=c'/\v = .slice (some ⟨w.heap.size,0,none⟩) (xs.length+ys.length) c'/\Quiet w w'/\(∀b,b<w.heap.size->w'.heap[b]?=w.heap[b]?)/\w'.heap[w.heap.size]?=some (.cells row' e (0,0))/\c'*sz<=row'.size /\
    ∀p,p<(xs.length+ys.length)*sz->row'[p]?=(row.toList.take (xs.length*sz)++us)[p]?) :
  iI j M w (.cN id (ver+1) sz 0 (xs.length+ys.length),M.set id (.arr sz (ver+1) (xs++ys))) v w':=by
 obtain⟨b',row0,t',k1,k2,k3,k4,k5⟩:=hr.yE hM hj;rw[hj] at k1; cases k1;rw[hw] at k2; injection k2 with k2; injection k2 with k2 k2'
 subst k2; subst k2';have hrow0:=wW (b:=b) k3 k4 k5;have hid:=aJ hM;have hwd2:=mr hwd hwy
 have je:RL w (ng j M w) (jB (xs++ys)) (row.toList.take (xs.length*sz)++us):=by
  rw[nA]; exact hrow0.append hrl
 have dR:(xs++ys).length=xs.length+ys.length:=by simp
 have hpl:(row.toList.take (xs.length*sz)++us).length=(xs.length+ys.length)*sz:=by rw[<-je.1,ir hwd2,dR]
 have hul:us.length=ys.length*sz:=by rw[<-hrl.1,ir hwy]
 have hpos:0<ys.length:=gk.2 hne;rcases hq with ⟨h1,rfl,rfl⟩|⟨c',row',e,h1,rfl,q,hb,hn,hs,hp⟩
 ·have hfit:xs.length*sz+us.length<=row.size:=by
   rw[hul,<-bL]; exact aV (bf _ h1) hrow
  obtain⟨s1,s2,s3,s4,s5,row2,s6,s7,s8,s9⟩:=lj (t:=t) us w (xs.length*sz) row hw hfit
  have hput:=wV (ver':=ver+1) (xs':=xs++ys) hr hM hj ⟨by omega,s2,s3,s4⟩ (fun b' hb' _=>s5 b' hb') hw s6 s7 (by omega) (fun h=>by omega) hwd2 je (fun p hp=>by
   rw[hpl] at hp
   grind)
  refine⟨j,hput.1,hput.2,.cN (.inl ⟨b,0,cap,by rw[bN],by omega⟩) (by simpa using hid) (fun bx hbx=>by rw[dJ hid] at hbx; cases hbx; rfl) fun sz' v' zs hx=>?_⟩
  rw[dJ hid] at hx; injection hx with hx; injection hx with e1 e2 e3
  subst e1; simp_all
 ·have hat  := fun p h=>hp p (by rw[<-hpl]; exact h)
  have hrel:=Rel.uc (ver':=ver+1) (xs':=xs++ys) hM hr q hb (aC _) (lt_of_block hn) (by simp) (fun j' M' hx=>ly hn hwd2 (je.mono hx.ia) hat)
  have hext:=Ext.uc (j:=j) (ver':=ver+1) (xs':=xs++ys) hM q hb (aC _) (by simp)
  refine⟨_,hrel,hext,.cN (.inl ⟨w.heap.size,0,c',by rw[bN],by omega⟩) (by simpa using hid) (fun bx hbx=>by rw[dJ hid] at hbx; cases hbx; rfl) fun sz' v' zs hx=>?_⟩
  rw[dJ hid] at hx; injection hx with hx; injection hx with e1 e2 e3
  subst e1; subst e2; subst e3;exact⟨aC _,fun _=>⟨rfl,cS _,by omega,.inr ⟨w.heap.size,c',row',e,by simp[gy],by simp,by omega,hn,by rw[aK]; exact hs⟩⟩⟩
theorem JX(hr:Rel j M w)(he:cm j M w br a){c:Call}{y y':Operand}{z z':gQ}{t t' e:TypeId}{kn:IntKind}{i:TypeInfo}{zv:Value}{l:List ag}(hop:o.op = .call c)(hb:c.callee = .builtin .append)(ha:c.args.toList=[y,y'])
  (hat:c.argTypes.toList=[t,t']) (hs:P.underlying t=some (.slice e)) (hs':P.underlying t'=some (.int kn)) (hi:P.info? e=some i) (hzv:i.zero=some zv) (hl:sf zv.cells.toList=some l) (c1:l.length=i.size) (c2:0<i.size) (c3:0<i.bytes) (c4:i.bytes<=2 ^ 20)
  (hz:er y=some z) (hz':er y'=some z') (h:dX C br M (.wU i.size i.bytes (l.map ag.shut) z z')=some x):∃v w',qi P o a w v w'/\iI j M w x v w':=by
 simp only[dX] at h;have r1:=cU he hz;have r2:=cU he hz';have ha':c.args = #[y,y']:=by rw[<-ha]
 have hat':c.argTypes = #[t,t']:=by rw[<-hat]
 have hexec:∀r,(Builtin.append_ #[t,t'] o.type #[a.eval y,a.eval y']).run P w=r->(execOp a.eval o).run P w=r.andThen fun v w' => .ok (.value v) w':=by
  intro r hr';simp[execOp,hop,resolve,hb,invoke,builtin,ha',hat',hr']
 have hsz:(sizeOf e).run P w = .ok i.size w:=ji (by simp[pD,hi])
 obtain⟨z1,z2⟩:=pk (j:=j) (M:=M) (w:=w) hl;have hzs:zv.cells.size=i.size:=by simp at z1; omega
 have happ:∀(A:Option Addr)(n c:Nat)(kz:IntKind)(m:Nat),(Builtin.append_ #[t,t'] o.type #[.slice A n c,.int kz (m:Int)]).run P w=(Builtin.append_ #[t,t'] o.type #[.slice A n c,.int kn (m:Int)]).run P w:=fun A n c kz m=>by
  simp[Builtin.append_,dK hs,dK hs',asInt,asIntOf]
 -- what is appended
 have zrow:∀(k:Nat),(l.map ag.shut).all ag.plainCell=true->RL w (ng j M w) (jB (List.replicate k (ag.agg (l.map ag.shut)).norm)) (Builtin.zeroCells zv.cells k).toList/\wid (List.replicate k (ag.agg (l.map ag.shut)).norm) i.size/\∀v,v∈(Builtin.zeroCells zv.cells k).toList->v.oneCell'=true:=by
  grind [BK,Ng,ag.shut,List.length_map,qe,Oy,List.mem_flatten]
 -- nothing is appended
 have nil:∀(bQ:Option Addr)(n cap:Nat),n<=cap->(Builtin.append_ #[t,t'] o.type #[.slice bQ n cap,.int kn 0]).run P w = .ok (.slice bQ n cap) w:=by
  intro bQ n cap hle;have hw0:IntKind.i64.wrap 0=0:=by decide
  cases bQ<;>simp[Builtin.append_,dK hs,dK hs',hsz,asInt,asIntOf,hw0,typeInfo,hi,hle,storeCells]
 have grow:∀(bQ:Option Addr)(n cap:Nat)(olds:List Value)(k:Nat),(∀w':World,w'.heap=w.heap->(Builtin.firstCells i.size n (.slice bQ n cap)).run P w' = .ok olds.toArray w')->0<k->cap<n+k->(n+k)*i.bytes<=2 ^ 44 ->
   ∃newCap row' w',n+k<=newCap/\(Builtin.append_ #[t,t'] o.type #[.slice bQ n cap,.int kn k]).run P w = .ok (.slice (some ⟨w.heap.size,0,none⟩) (n+k) newCap) w'/\Quiet w w'/\(∀b,b<w.heap.size->w'.heap[b]?=w.heap[b]?)/\w'.heap[w.heap.size]?=some (.cells row' e (0,0)) /\
    row'.size=olds.length+k*i.size+(newCap-(n+k))*i.size/\∀p,p<olds.length+k*i.size->row'[p]?=(olds++(Builtin.zeroCells zv.cells k).toList)[p]?:=by
  intro bQ n cap olds k hold hk cn hroom
  have hcapb:Builtin.nextslicecap (n+k) cap*i.bytes<=281474976710656:=by
   have h1:=CL cn;have h2:Builtin.nextslicecap (n+k) cap*i.bytes<=(2*(n+k)+1000)*i.bytes:=bf _ h1
   grind
  have h44:n+k<=2 ^ 44:=aV (fp _ c3) hroom
  have hkb:k*i.bytes<=281474976710656:=by
   have:=bf i.bytes (show k<=n+k by omega)
   omega
  have hrun:=Lib.run_append_grow_zeros (P:=P) w t t' o.type e i zv kn kn hs hs' hi hzv bQ n cap olds (hold w.drew rfl) k hk c2 cn (by omega) hkb hcapb
  have hge:n+k<=grownCap w (n+k) cap e:=grownCap_ge w (n+k) cap e;have hzl:∀m,(Builtin.zeroCells zv.cells m).size=m*i.size:=fun m=>by simp[Builtin.zeroCells,hzs]
  obtain⟨q,hbk,je⟩:=pb (w:=w) (.cells (olds.toArray++Builtin.zeroCells zv.cells k++Builtin.zeroCells zv.cells (grownCap w (n+k) cap e-(n+k))) e (0,0));refine⟨_,_,_,hge,hrun,⟨q.size,rfl,rfl,rfl⟩,hbk,je,by simp only[fP,hzl,cR],fun p hp=>?_⟩
  rw[cj (by simp only[fP,hzl,cR]; exact hp)]
  simp[<-Array.getElem?_toList]
 have hkk:∀ {k:Int} {kz:IntKind},a.eval y' = .int kz k->0<=k->∃m:Nat,k=m:=fun {k} _ _ h=>⟨k.toNat,by omega⟩
 split at h
 ·rename_i kz k ex ek;rw[ex] at r1; rw[ek] at r2;obtain⟨⟨h0,hroom,hsl,hpl⟩,h⟩:=da h;obtain⟨A,hv⟩:=r1.BX;obtain⟨m,rfl⟩:∃m:Nat,k=m:=⟨k.toNat,by omega⟩
  have hk2:=r2.fN;rcases jO h with ⟨hb0,h⟩|⟨hb0,h⟩
  ·cases h;have hm0:m=0:=by simpa using hb0
   subst hm0;refine⟨a.eval y,w,.inl ?_,.still hr ?_⟩
   ·rw[hexec _ rfl,hv,hk2,happ,Int.natCast_zero,nil A 0 0 (aC _)]; rfl
   ·rw[hv]; exact .c0 _
  ·cases h
   have hm0:0<m:=by
    rcases fA m with h|h
    ·subst h; simp at hb0
    ·exact h
   unfold cu at hroom;simp only[ju] at hroom ⊢;obtain⟨newCap,row',w',g1,g2,q,g3,g4,g5,g6⟩:=grow A 0 0 [] m (fun w' _=>by cases A<;>simp[Builtin.firstCells,loadCells,loadCellsFrom]) hm0 (by omega) (by simpa using hroom)
   obtain⟨p1,p2,p3⟩:=zrow m hpl;have hob:∀b,some w.heap.size=some b->w.heap.size<=b/\b<w'.heap.size:=fun b h=>by cases h; exact⟨aC _,lt_of_block g4⟩
   have ext:Ext j M w (gy j M.length (some w.heap.size)) (M++[.arr i.size 0 (List.replicate m (ag.agg (l.map ag.shut)).norm)]) w':=Ext.push (fun b h=>(hob b h).1) q g3
   have hat:∀j' M',Ext j M w j' M' w'->Dy j' M' w' w.heap.size i.size (List.replicate m (ag.agg (l.map ag.shut)).norm):=fun j' M' hx=>ly g4 p2 (p1.mono hx.ia) fun p hp=>by
    have hp':p<m*i.size:=by rw[<-p1.1,ir p2] at hp; simpa using hp
    rw[g6 p (by simpa using hp')]; simp
   refine⟨.slice (some ⟨w.heap.size,0,none⟩) m newCap,w',.inl ?_,gy j M.length (some w.heap.size),hr.push hob q g3 (fun h=>by cases h) (fun sz n b h _=>by cases h) (fun sz0 v0 xs0 he=>?_),ext,?_⟩
   ·rw[hexec _ rfl,hv,hk2,happ,g2]; simp[Result.andThen]
   ·injection he with e1 e2 e3
    subst e1; subst e2; subst e3;refine .inr ⟨w.heap.size,row',e,rfl,g4,by rw[g5]; simp,p2,fun j' M' hx q x k c hx' hk=>?_⟩
    obtain⟨vs,t,a1,a2,a3,a4⟩:=hat j' M' hx;rw[g4] at a1; injection a1 with a1; injection a1 with a1 a1'
    subst a1;exact a4 q x k c hx' hk
   ·refine .cN (.inl ⟨w.heap.size,0,newCap,by rw[bN],by omega⟩) (by simp) (fun bx hbx=>by rw[lX] at hbx; cases hbx; rfl) fun sz' v' xs hx=>?_
    rw[lX] at hx; injection hx with hx; injection hx with e1 e2 e3
    subst e1; subst e2; subst e3;refine⟨aC _,fun _=>⟨rfl,cS _,by simp,.inr ⟨w.heap.size,newCap,row',e,by simp[gy],by simp,by omega,g4,?_⟩⟩⟩
    rw[g5,aK];simp only[av,aK];rw[<-bL,db (by omega)]
    exact aC _
 ·rename_i id ver sz' lo hi0 kz k ex ek;rw[ex] at r1; rw[ek] at r2;rw[fE] at h;split at h
  ·rename_i sz0 v0 xs hM;obtain⟨⟨d1,d2,d3,d4,h0,hroom,hsl,hpl,hne0⟩,h⟩:=da h;subst d1; subst d2; subst d3; subst d4;obtain⟨_,hid,_,g⟩:=r1.nJ;obtain⟨e1,_,_,⟨hx,_⟩|⟨b,cap,row,t0,l3,l4,l5,l6,l7⟩⟩:=(g sz0 v0 xs hM).2 rfl
   ·exact absurd hne0 (by rw[hx]; simp)
   subst e1;rw[bN] at l4 l5;rw[jS] at l4;rw[aK] at l7;obtain⟨m,rfl⟩:∃m:Nat,k=m:=⟨k.toNat,by omega⟩
   have hk2:=r2.fN;rcases jO h with ⟨hb0,h⟩|⟨hb0,h⟩
   ·cases h;have hm0:m=0:=by simpa using hb0
    subst hm0;refine⟨a.eval y,w,.inl ?_,.still hr r1⟩;rw[hexec _ rfl,hk2,l4,happ,Int.natCast_zero,nil _ _ _ l5]; rfl
   ·cases h
    have hm0:0<m:=by
     rcases fA m with h|h
     ·subst h; simp at hb0
     ·exact h
    unfold cu at hroom;simp only[ju] at hroom ⊢;obtain⟨b',row0,t',k1,k2,k3,k4,k5⟩:=hr.yE hM l3;rw[l3] at k1; cases k1;rw[l6] at k2; injection k2 with k2; injection k2 with k2 k2'
    subst k2; subst k2';obtain⟨p1,p2,p3⟩:=zrow m hpl;have hlr:(List.replicate m (ag.agg (l.map ag.shut)).norm).length=m:=by simp
    have hne:List.replicate m (ag.agg (l.map ag.shut)).norm≠[]:=by intro h; rw[h] at hlr; simp at hlr; omega
    have key:=fun v w' hq=>Kk (v:=v) (w':=w') hr hM l3 l6 l5 l7 k4 p2 hne p1 hq
    rw[hlr] at key;rw[gq];rcases bF cap (xs.length+m) with cn|hge
    ·have hfc:∀w':World,w'.heap=w.heap->(Builtin.firstCells i.size xs.length (.slice (some ⟨b,0,none⟩) xs.length cap)).run P w' = .ok (row.toList.take (xs.length*i.size)).toArray w':=fun w' hw'=>by
      have:=oW (P:=P) (w:=w') b 0 (xs.length*i.size) (fun p=>(row[p]?).getD undef) fun p hp=>by
       simp only[World.cell?,hw',l6,aK];rw[a8 (show p<row.size by omega)]; rfl
      simp only[Builtin.firstCells];rw[this];congr 2;apply dL;intro p;rw[bd,gD];rcases bF p (xs.length*i.size) with h|h
      ·rw[jI h,bh h];simp[a8 (show p<row.size by omega)]
      ·rw[aQ (by omega),ec (by simpa using h)]; rfl
     obtain⟨newCap,row',w',g1,g2,q,g3,g4,g5,g6⟩:=grow (some ⟨b,0,none⟩) xs.length cap _ m hfc hm0 cn hroom;have htk:(row.toList.take (xs.length*i.size)).length=xs.length*i.size:=by simp; omega
     refine⟨_,w',.inl ?_,key _ w' (.inr ⟨newCap,row',e,g1,rfl,q,g3,g4,?_,fun p hp=>g6 p (by rw[htk,<-bL]; exact hp)⟩)⟩
     ·rw[hexec _ rfl,hk2,l4,happ,g2]; rfl
     ·rw[g5,htk,<-bL,<-bL,db g1];exact aC _
    ·have hfit:xs.length*i.size+(Builtin.zeroCells zv.cells m).toList.length<=row.size:=by
      rw[<-p1.1,ir p2,hlr,<-bL]; exact aV (bf _ hge) l7
     have hst:=mq (P:=P) (Builtin.zeroCells zv.cells m).toList w (xs.length*i.size) 0 row l6 (by omega) p3
     refine⟨_,_,.inl ?_,key _ _ (.inl ⟨hge,rfl,rfl⟩)⟩
     have hwm:IntKind.i64.wrap (m:Int)=m:=by
      have:m*i.bytes<=2 ^ 44:=aV (bf _ (by omega)) hroom
      have:m<=2 ^ 44:=aV (fp _ c3) this;rw[IntKind.wrap_i64]; omega
     have hneg:¬((m:Int)<0):=by omega
     have hns:¬(m*i.size=0):=Nat.mul_ne_zero (by omega) (by omega)
     have h48:¬(281474976710656<(m:Int)*(i.bytes:Int)):=by
      have:m*i.bytes<=2 ^ 44:=aV (bf _ (by omega)) hroom
      rw[<-Int.natCast_mul]; omega
     rw[hexec _ rfl,hk2,l4,happ];have hadd:(⟨b,0,none⟩:Addr).add (xs.length*i.size)=⟨b,xs.length*i.size,none⟩:=by simp[lk]
     simp only[dg] at hst
     have hap:(Builtin.append_ #[t,t'] o.type #[.slice (some ⟨b,0,none⟩) xs.length cap,.int kn (m:Int)]).run P w = .ok (.slice (some ⟨b,0,none⟩) (xs.length+m) cap) (ot w b (xs.length*i.size) (Builtin.zeroCells zv.cells m).toList):=by
      simp[Builtin.append_,dK hs,dK hs',hsz,asInt,asIntOf,hwm,typeInfo,hi,hneg,h48,hns,zeroValue,hzv,hge,hadd,hst]
     rw[hap]; rfl
  ·cases h
 ·cases h
def OJ(hr:Rel j M w){id sz ver:Nat}{ys:List ag}(hM:M[id]?=some (.arr sz ver []))(hwy:wid ys sz){us:List Value}(hrl:RL w (ng j M w) (jB ys) us){v:Value}{w':World}{c':Nat}{row':Array Value}{e:TypeId}
  (h1:ys.length<=c') (hv:v = .slice (some ⟨w.heap.size,0,none⟩) ys.length c') (q:Quiet w w') (hb:∀b,b<w.heap.size->w'.heap[b]?=w.heap[b]?) (hn:w'.heap[w.heap.size]?=some (.cells row' e (0,0))) (hs:c'*sz<=row'.size) (hp:∀p,p<us.length->row'[p]?=us[p]?) :
  iI j M w (.cN id (ver+1) sz 0 ys.length,M.set id (.arr sz (ver+1) ys)) v w':=by
 subst hv;have hid:=aJ hM;have hrel:=Rel.uc (ver':=ver+1) hM hr q hb (aC _) (lt_of_block hn) (by simp) (fun j' M' hx=>ly hn hwy (hrl.mono hx.ia) hp)
 have hext:=Ext.uc (j:=j) (ver':=ver+1) (xs':=ys) hM q hb (aC _) (by simp)
 refine⟨_,hrel,hext,.cN (.inl ⟨w.heap.size,0,c',by rw[bN],by omega⟩) (by simpa using hid) (fun bx hbx=>by rw[dJ hid] at hbx; cases hbx; rfl) fun sz' v' zs hx=>?_⟩
 rw[dJ hid] at hx; injection hx with hx; injection hx with e1 e2 e3
 subst e1; subst e2; subst e3;exact⟨aC _,fun _=>⟨rfl,cS _,aC _,.inr ⟨w.heap.size,c',row',e,by simp[gy],by simp,by omega,hn,by rw[aK]; omega⟩⟩⟩
theorem Ej(hr:Rel j M w)(he:cm j M w br a){c:Call}{y y':Operand}{z z':gQ}{t t' e e':TypeId}{i:TypeInfo}{zv:Value}(hop:o.op = .call c)(hb:c.callee = .builtin .append)(ha:c.args.toList=[y,y'])
  (hat:c.argTypes = #[t,t']) (hs:P.underlying t=some (.slice e)) (hs':P.underlying t'=some (.slice e')) (hi:P.info? e=some i) (hz:i.zero=some zv) (hzs:zv.cells.size=i.size) (hpos:0<i.size) (hb0:0<i.bytes) (hb1:i.bytes<=2 ^ 20)
  (hzy:er y=some z) (hzy':er y'=some z') (h:dX C br M (.append i.size i.bytes z z')=some x):∃v w',qi P o a w v w'/\iI j M w x v w':=by
 by_cases hna:∀id ver sz lo hi,z.ev br ≠ .cN id ver sz lo hi
 ·exact JW hr he hop hb ha hat hs hs' hi hz hzs hpos hb0 hb1 hzy hzy' h hna
 ·have hna':∃id ver sz lo hi,z.ev br = .cN id ver sz lo hi:=by
   grind
  obtain⟨id,ver,sz',lo,hi0,ez⟩:=hna';have r1:=cU he hzy;have r2:=cU he hzy';simp only[dX] at h;split at h
  ·rename_i ez' _;rw[ez] at ez'; cases ez'
  ·rename_i id' ver' szz lo' hi' tk ys ez1 ez2;rw[ez] at ez1; injection ez1 with q1 q2 q3 q4 q5
   subst q1; subst q2; subst q3; subst q4; subst q5;rw[ez] at r1; rw[ez2] at r2;rw[fE] at h;split at h
   ·rename_i sz0 v0 xs hM;obtain⟨⟨d1,d2,d3,d4,hroom,hwx,hwy,hyl⟩,h⟩:=da h;have hne:ys≠[]:=List.ne_nil_of_length_pos hyl;injection h with h
    subst h; subst d1; subst d2; subst d3; subst d4;rw[gq];have ha':c.args = #[y,y']:=by rw[<-ha]
    have hexec:∀r,(Builtin.append_ #[t,t'] o.type #[a.eval y,a.eval y']).run P w=r->(execOp a.eval o).run P w=r.andThen fun v w' => .ok (.value v) w':=by
     intro r hr';simp[execOp,hop,resolve,hb,invoke,builtin,ha',hat,hr']
    obtain⟨B,cap2,hv2,hcap2,hsr⟩:=mN r2.dN hwy;obtain⟨b2,off2,rfl,us,hrl,hul,hone,hcell⟩:=hsr.resolve_left hne
    have hfc:∀w':World,w'.heap=w.heap->(Builtin.firstCells i.size ys.length (a.eval y')).run P w' = .ok us.toArray w':=fun w' hw'=>by
     have:=oW (P:=P) (w:=w') b2 off2 (ys.length*i.size) (fun p=>(us[p]?).getD undef) fun p hp=>by
      have h1:=(hcell p _ (ai (by omega))).1
      grind [World.cell?,List.getElem?_eq_getElem]
     rw[hv2];simp only[Builtin.firstCells];rw[this];congr 2;apply dL
     grind
    have dR:∀w':World,(Builtin.lenOf (a.eval y')).run P w' = .ok ys.length w':=fun w'=>by rw[hv2]; rfl
    obtain⟨_,hid,_,g⟩:=r1.nJ;obtain⟨e1,_,_,⟨hx,hj0,A,hvA⟩|⟨b,cap,row,t0,l3,l4,l5,l6,l7⟩⟩:=(g sz0 v0 xs hM).2 rfl
    ·subst hx;subst e1
     have hA0:∀w':World,w'.heap=w.heap->(Builtin.firstCells i.size 0 (.slice A 0 0)).run P w' = .ok #[] w':=fun w' _=>by
      cases A<;>simp[Builtin.firstCells,loadCells,loadCellsFrom]
     obtain⟨_,A2⟩:=sV (P:=P) (w:=w) hs hs' (fun k h=>by cases h) hi hz hb0 hb1 o.type (bQ:=A) (n:=0) (cap:=0) (m:=ys.length) dR hA0 hfc (by simpa[cu] using hroom)
     obtain⟨newCap,rest,h1,h2,h3⟩:=A2 (by omega)
     obtain⟨q,hbk,je⟩:=pb (w:=w) (.cells (#[]++us.toArray++rest) e (0,0));rw[<-hvA] at h3;refine⟨_,_,.inl (by rw[hexec _ h3]; rfl),?_⟩
     have:=OJ (c':=newCap) (e:=e) (v := .slice (some ⟨w.heap.size,0,none⟩) (0+ys.length) newCap) (w':={ w with heap:=w.heap.push (.cells (#[]++us.toArray++rest) e (0,0)),drawn:=w.drawn+1 }) hr hM hwy hrl (by omega) (by rw[aK]) ⟨q.size,rfl,rfl,rfl⟩ hbk je (by
      simp only[fP,cR,h2,hzs,hul,av];rw[aK,aK,<-bL];exact bf _ (by omega)) (fun p hp=>by
      rw[cj (by simpa using hp)]; simp)
     simpa using this
    ·subst e1;rw[bN] at l4 l5;rw[jS] at l4;rw[aK] at l7;obtain⟨b',row0,t',k1,k2,k3,k4,k5⟩:=hr.yE hM l3;rw[l3] at k1; cases k1;rw[l6] at k2; injection k2 with k2; injection k2 with k2 k2'
     subst k2; subst k2';have key:=fun v w' hq=>Kk (v:=v) (w':=w') hr hM l3 l6 l5 l7 k4 hwy hne hrl hq
     have hfx:∀w':World,w'.heap=w.heap->(Builtin.firstCells i.size xs.length (.slice (some ⟨b,0,none⟩) xs.length cap)).run P w' = .ok (row.toList.take (xs.length*i.size)).toArray w':=fun w' hw'=>by
      have:=oW (P:=P) (w:=w') b 0 (xs.length*i.size) (fun p=>(row[p]?).getD undef) fun p hp=>by
       simp only[World.cell?,hw',l6,aK];rw[a8 (show p<row.size by omega)]; rfl
      simp only[Builtin.firstCells];rw[this];congr 2;apply dL;intro p;rw[bd,gD]
      grind
     obtain⟨A1,A2⟩:=sV (P:=P) (w:=w) hs hs' (fun k h=>by cases h) hi hz hb0 hb1 o.type (bQ:=some ⟨b,0,none⟩) (n:=xs.length) (cap:=cap) (m:=ys.length) dR hfx hfc (by simpa[cu] using hroom)
     rcases bF cap (xs.length+ys.length) with cn|hge
     ·obtain⟨newCap,rest,h1,h2,h3⟩:=A2 cn;obtain⟨q,hbk,je⟩:=pb (w:=w) (.cells ((row.toList.take (xs.length*i.size)).toArray++us.toArray++rest) e (0,0));have htk:(row.toList.take (xs.length*i.size)).length=xs.length*i.size:=by simp; omega
      rw[<-l4] at h3;refine⟨_,{ w with heap:=w.heap.push (.cells ((row.toList.take (xs.length*i.size)).toArray++us.toArray++rest) e (0,0)),drawn:=w.drawn+1 },.inl (by rw[hexec _ h3]; rfl),key _ _ (.inr ⟨newCap,_,e,h1,rfl,⟨q.size,rfl,rfl,rfl⟩,hbk,je,?_,fun p hp=>?_⟩)⟩
      ·simp only[fP,cR,h2,hzs,hul,htk];rw[<-bL,<-bL];exact bf _ (by omega)
      ·rw[cj (by simp only[fP,cR,hul,htk]; rw[<-bL]; exact hp)]
       simp[mF]
     ·have hfit:xs.length*i.size+0+us.length<=row.size:=by
       rw[hul,dg,<-bL]; exact aV (bf _ hge) l7
      have hst:=mq (P:=P) us w (xs.length*i.size) 0 row l6 hfit hone;simp only[dg] at hst;have hadd:(⟨b,0,none⟩:Addr).add (xs.length*i.size)=⟨b,xs.length*i.size,none⟩:=by simp[lk]
      have h3:=A1 hge (ot w b (xs.length*i.size) us) (by
       grind)
      rw[<-l4] at h3;exact⟨_,_,.inl (by rw[hexec _ h3]; rfl),key _ _ (.inl ⟨hge,rfl,rfl⟩)⟩
   ·cases h
  ·cases h
theorem JV(hr:Rel j M w)(he:cm j M w br a){c:Call}{y y':Operand}{z z':gQ}{t t' e e':TypeId}{i:TypeInfo}{zv:Value}(hop:o.op = .call c)(hb:c.callee = .builtin .append)(ha:c.args.toList=[y,y'])
  (hat:c.argTypes = #[t,t']) (hs:P.underlying t=some (.slice e)) (hs':P.underlying t'=some (.slice e')) (hi:P.info? e=some i) (hz:i.zero=some zv) (hzs:zv.cells.size=i.size) (hpos:0<i.size) (hb0:0<i.bytes) (hb1:i.bytes<=2 ^ 20)
  (hzy:er y=some z) (hzy':er y'=some z') (h:dX C br M (.ve i.size i.bytes z z')=some x):∃v w',qi P o a w v w'/\iI j M w x v w':=by
 simp only[dX] at h;have r1:=cU he hzy;have r2:=cU he hzy';split at h
 ·rename_i tk ys ez ez';obtain⟨⟨hroom,hwy⟩,h⟩:=da h;cases h;rw[ez] at r1;rw[ez'] at r2;obtain⟨A,hv⟩:=r1.BX;have ha':c.args = #[y,y']:=by rw[<-ha]
  have hexec:∀r,(Builtin.append_ #[t,t'] o.type #[a.eval y,a.eval y']).run P w=r->(execOp a.eval o).run P w=r.andThen fun v w' => .ok (.value v) w':=by
   simp_all [execOp,resolve,invoke,builtin]
  have hA0:∀w':World,w'.heap=w.heap->(Builtin.firstCells i.size 0 (.slice A 0 0)).run P w' = .ok #[] w':=fun w' _=>by
   cases A<;>simp[Builtin.firstCells,loadCells,loadCellsFrom]
  obtain⟨B,cap2,hv2,hcap2,hsr⟩:=mN r2.dN hwy;have dR:∀w':World,(Builtin.lenOf (a.eval y')).run P w' = .ok ys.length w':=fun w'=>by rw[hv2]; rfl
  rcases fA ys.length with h0|h0
  ·have hnil:ys=[]:=dG h0;subst hnil
   have hfc:∀w':World,w'.heap=w.heap->(Builtin.firstCells i.size 0 (a.eval y')).run P w' = .ok (#[]:Array Value) w':=fun w' _=>by
    rw[hv2]; cases B<;>simp[Builtin.firstCells,loadCells,loadCellsFrom]
   obtain⟨A1,_⟩:=sV (P:=P) (w:=w) hs hs' (fun k h=>by cases h) hi hz hb0 hb1 o.type (bQ:=A) (n:=0) (cap:=0) (m:=0) dR hA0 hfc (by simp[])
   have h3:=A1 (aC _) w (by cases A<;>simp[storeCells])
   rw[<-hv] at h3;have q:Quiet w w:=⟨aC _,rfl,rfl,rfl⟩;have g1:Rel (gy j M.length none) (M++[.arr i.size 0 []]) w:=hr.push (ob:=none) (bx := .arr i.size 0 []) (fun b h=>by cases h) q (fun _ _=>rfl) (fun h=>by cases h) (fun sz n b h h'=>by cases h') (fun sz ver xs h=>by injection h with e1 e2 e3; exact .inl ⟨e3.symm,rfl⟩)
   have g2:Ext j M w (gy j M.length none) (M++[.arr i.size 0 []]) w:=Ext.push (fun b h=>by cases h) q (fun _ _=>rfl)
   refine⟨a.eval y,w,.inl (by rw[hexec _ h3]; rfl),gy j M.length none,g1,g2,?_⟩
   rw[hv];refine .cN (.inr ⟨rfl,A,rfl⟩) (by simp) (fun bx hbx=>by rw[lX] at hbx; cases hbx; rfl) fun sz' v' zs hx=>?_
   rw[lX] at hx; injection hx with hx; injection hx with e1 e2 e3
   subst e1; subst e2; subst e3;exact⟨aC _,fun _=>⟨rfl,aC _,aC _,.inl ⟨rfl,by simp[gy],A,rfl⟩⟩⟩
  ·have hne:ys≠[]:=List.ne_nil_of_length_pos h0;obtain⟨b2,off2,rfl,us,hrl,hul,hone,hcell⟩:=hsr.resolve_left hne
   have hfc:∀w':World,w'.heap=w.heap->(Builtin.firstCells i.size ys.length (a.eval y')).run P w' = .ok us.toArray w':=fun w' hw'=>by
    have:=oW (P:=P) (w:=w') b2 off2 (ys.length*i.size) (fun p=>(us[p]?).getD undef) fun p hp=>by
     have h1:=(hcell p _ (ai (by omega))).1
     grind [World.cell?,List.getElem?_eq_getElem]
    rw[hv2];simp only[Builtin.firstCells];rw[this];congr 2;apply dL
    grind
   obtain⟨_,A2⟩:=sV (P:=P) (w:=w) hs hs' (fun k h=>by cases h) hi hz hb0 hb1 o.type (bQ:=A) (n:=0) (cap:=0) (m:=ys.length) dR hA0 hfc (by simpa[cu] using hroom)
   obtain⟨newCap,rest,h1,h2,h3⟩:=A2 (by omega)
   obtain⟨q,hbk,je⟩:=pb (w:=w) (.cells (#[]++us.toArray++rest) e (0,0));rw[<-hv] at h3;have q':Quiet w { w with heap:=w.heap.push (.cells (#[]++us.toArray++rest) e (0,0)),drawn:=w.drawn+1 }:=⟨q.size,rfl,rfl,rfl⟩
   have hob:∀b,some w.heap.size=some b->w.heap.size<=b/\b<({ w with heap:=w.heap.push (.cells (#[]++us.toArray++rest) e (0,0)),drawn:=w.drawn+1 }:World).heap.size:=fun b h=>by cases h; exact⟨aC _,lt_of_block je⟩
   have hpf:∀p,p<us.length->(#[]++us.toArray++rest)[p]?=us[p]?:=fun p hp=>by
    rw[cj (by simpa using hp)]; simp
   have hat:∀j' M',Ext j M w j' M' { w with heap:=w.heap.push (.cells (#[]++us.toArray++rest) e (0,0)),drawn:=w.drawn+1 }->Dy j' M' { w with heap:=w.heap.push (.cells (#[]++us.toArray++rest) e (0,0)),drawn:=w.drawn+1 } w.heap.size i.size ys:=fun j' M' hx=>ly je hwy (hrl.mono hx.ia) hpf
   have hsz:newCap*i.size<=(#[]++us.toArray++rest).size:=by
    simp only[fP,cR,h2,hzs,hul,av];rw[aK,aK,<-bL];exact bf _ (by omega)
   refine⟨_,_,.inl (by rw[hexec _ h3]; rfl),gy j M.length (some w.heap.size),hr.push hob q' hbk (fun h=>by cases h) (fun sz n b h _=>by cases h) (fun sz0 v0 xs0 he=>?_),Ext.push (fun b h=>(hob b h).1) q' hbk,?_⟩
   ·injection he with e1 e2 e3
    subst e1; subst e2; subst e3;refine .inr ⟨w.heap.size,_,e,rfl,je,?_,hwy,fun j' M' hx q x k c hx' hk=>?_⟩
    ·exact aV (bf _ (by omega)) hsz
    ·obtain⟨vs,t,a1,a2,a3,a4⟩:=hat j' M' hx;rw[je] at a1; injection a1 with a1; injection a1 with a1 a1'
     subst a1;exact a4 q x k c hx' hk
   ·rw[aK];refine .cN (.inl ⟨w.heap.size,0,newCap,by rw[bN],by omega⟩) (by simp) (fun bx hbx=>by rw[lX] at hbx; cases hbx; rfl) fun sz' v' xs hx=>?_
    rw[lX] at hx; injection hx with hx; injection hx with e1 e2 e3
    subst e1; subst e2; subst e3;exact⟨aC _,fun _=>⟨rfl,cS _,aC _,.inr ⟨w.heap.size,newCap,_,e,by simp[gy],by simp,by omega,je,by rw[aK]; exact hsz⟩⟩⟩
 ·cases h
def TL(hr:Rel j M w)(he:cm j M w br a){c:Call}{y y':Operand}{z z':gQ}{t t' e e':TypeId}{n:Nat}(hop:o.op = .call c)(hb:c.callee = .builtin .copy)(ha:c.args.toList=[y,y'])
  (hat:c.argTypes.toList=[t,t']) (hs:P.underlying t=some (.slice e)) (hs':P.underlying t'=some (.slice e')) (hn:pD P e=some n) (hpos:0<n)
  (hz:er y=some z) (hz':er y'=some z') (h:dX C br M (.DH n z z')=some x):∃v w',qi P o a w v w'/\iI j M w x v w':=by
 simp only[dX] at h;have r1:=cU he hz;have r2:=cU he hz';have ha':c.args = #[y,y']:=by rw[<-ha]
 have hat':c.argTypes = #[t,t']:=by rw[<-hat]
 have hexec:∀r,(Builtin.copy_ #[t,t'] o.type #[a.eval y,a.eval y']).run P w=r->(execOp a.eval o).run P w=r.andThen fun v w' => .ok (.value v) w':=by
  intro r hr';simp[execOp,hop,resolve,hb,invoke,builtin,ha',hat',hr']
 have hsz:(sizeOf e).run P w = .ok n w:=ji hn;split at h
 ·rename_i tk ys ex ey;rw[ex] at r1; rw[ey] at r2;obtain⟨hwy,h⟩:=da h;cases h;obtain⟨B,cap2,hv2,_,_⟩:=mN r2.dN hwy;obtain⟨A,cap,hv,_,_⟩:=mN (size:=n) r1.dN (fun y hy=>by cases hy)
  refine⟨.int .i64 0,w,.inl ?_,.still hr (.plain (.int _ _))⟩;rw[hexec _ rfl,hv,hv2];cases A<;>cases B<;>simp[Builtin.copy_,dK hs,hsz,Builtin.lenOf,Builtin.firstCells,loadCells,loadCellsFrom,storeCells,goInt,Result.andThen]
 ·rename_i id ver sz' lo hi0 tk ys ex ey;rw[ex] at r1; rw[ey] at r2;rw[fE] at h;split at h
  ·rename_i sz0 v0 xs hM;obtain⟨⟨d1,d2,hwy,hne0⟩,h9⟩:=da h;injection h9 with h9
   subst h9; subst d1; subst d2;obtain⟨_,hid,_,g⟩:=r1.nJ;obtain⟨e1,l1,l2,⟨hx,_⟩|⟨b,cap,row,t0,l3,l4,l5,l6,l7⟩⟩:=(g sz0 v0 xs hM).2 rfl
   ·exact absurd hne0 (by rw[hx]; simp)
   subst e1;obtain⟨b',row0,t',k1,k2,k3,k4,k5⟩:=hr.yE hM l3;rw[l3] at k1; cases k1;rw[l6] at k2; injection k2 with k2; injection k2 with k2 k2'
   subst k2; subst k2';obtain⟨B,cap2,hv2,hcap2,hsr⟩:=mN r2.dN hwy;generalize hm:min ys.length (hi0-lo)=m;have hm1:m<=ys.length:=by omega
   have hm2:m<=hi0-lo:=by omega
   -- what is copied
   obtain⟨us,hul,hrl,hone,hfc⟩:∃us:List Value,us.length=m*sz0/\RL w (ng j M w) (jB (ys.take m)) us/\(∀u,u∈us->u.oneCell'=true)/\(Builtin.firstCells sz0 m (.slice B ys.length cap2)).run P w = .ok us.toArray w:=by
    rcases hsr with rfl|⟨b2,off2,rfl,us,hrl,hul,hone,hcell⟩
    ·have:m=0:=by simpa using hm1
     subst this;refine⟨[],by simp,⟨rfl,fun p c v h=>by simp[jB] at h⟩,fun u hu=>by (cases hu),?_⟩
     cases B<;>simp[Builtin.firstCells,loadCells,loadCellsFrom]
    ·have hle:m*sz0<=us.length:=by rw[hul]; exact bf _ hm1
     refine⟨us.take (m*sz0),by simp; omega,by rw[ra m hwy]; exact hrl.take _,fun u hu=>hone u (dI hu),?_⟩
     have:=oW (P:=P) (w:=w) b2 off2 (m*sz0) (fun p=>(us[p]?).getD undef) fun p hp=>by
      rw[(hcell p _ (ai (by omega))).1,ai (show p<us.length by omega)]; rfl
     simp only[Builtin.firstCells];rw[this];congr 2;apply dL;intro p;rw[bd,gD];rcases bF p (m*sz0) with h|h
     ·rw[jI h,bh h];simp[ai (show p<us.length by omega)]
     ·rw[aQ (by omega),ec (by simpa using h)]; rfl
   have hrow:=wW (b:=b) k3 k4 k5;have hbd:lo*sz0+m*sz0<=xs.length*sz0:=by rw[<-bL]; exact bf _ (by omega)
   have hfit:lo*sz0+us.length<=row.size:=by rw[hul]; omega
   have hst:=mq (P:=P) us w (lo*sz0) 0 row l6 (by omega) hone
   obtain⟨s1,s2,s3,s4,s5,row2,s6,s7,s8,s9⟩:=lj (t:=t0) us w (lo*sz0) row l6 hfit;have hwd':wid (xs.take lo++(ys.take m++xs.drop (lo+m))) sz0:=mr (uZ k4) (mr (uZ hwy) (uY k4))
   have je:RL w (ng j M w) (jB (xs.take lo++(ys.take m++xs.drop (lo+m)))) ((row.toList.take (xs.length*sz0)).take (lo*sz0)++(us++(row.toList.take (xs.length*sz0)).drop ((lo+m)*sz0))):=by
    rw[nA,nA,ra lo k4,td (lo+m) k4];exact(hrow.take _).append (hrl.append (hrow.drop _))
   have hll:(xs.take lo++(ys.take m++xs.drop (lo+m))).length=xs.length:=by simp; omega
   have hmm:(lo+m)*sz0=lo*sz0+m*sz0:=bL ..
   have hput:=wV (ver':=v0) (xs':=xs.take lo++(ys.take m++xs.drop (lo+m))) hr hM l3 (w':=ot w b (lo*sz0) us) ⟨by omega,s2,s3,s4⟩ (fun b' hb' _=>s5 b' hb') l6 s6 s7 (aC _) (fun _=>hll) hwd' je (fun p hp=>by
    have hp':p<xs.length*sz0:=by
     rw[<-je.1,ir hwd',hll] at hp; exact hp
    have htk:(List.take (lo*sz0) (row.toList.take (xs.length*sz0))).length=lo*sz0:=by simp; omega
    rcases bF p (lo*sz0) with q1|q1
    ·rw[s8 p (.inl q1),bA (by rw[htk]; exact q1),bE q1,bE hp']; simp
    ·rw[bz (by rw[htk]; exact q1),htk]
     rcases bF p (lo*sz0+m*sz0) with q2|q2
     ·rw[bA (by rw[hul]; omega)]
      have:=s9 (p-lo*sz0) (by rw[hul]; omega)
      rw[db q1] at this;exact this
     ·rw[bz (by rw[hul]; omega),s8 p (.inr (by rw[hul]; omega)),cH,hul,hmm,show lo*sz0+m*sz0+(p-lo*sz0-m*sz0)=p by omega,bE hp']; simp)
   rw[gq];refine⟨.int .i64 (m:Int),ot w b (lo*sz0) us,.inl ?_,j,hput.1,hput.2,.plain (.int _ _)⟩;rw[hexec _ rfl,l4,hv2];have hmin:Nat.min ys.length (hi0-lo)=m:=hm;simp only[dg] at hst;simp[Builtin.copy_,dK hs,hsz,Builtin.lenOf,hmin,hfc,hst,goInt,Result.andThen]
  ·cases h
 ·cases h
def YE(hr:Rel j M w){t:TypeId}{i:TypeInfo}{zv:Value}{n:Nat}(hop:o.op = .alloc t)(hi:P.info? t=some i)(hzv:i.zero=some zv)(hl:sf zv.cells.toList=some [.slice .c0 []])
  (h:dX C br M (.Md n)=some x):∃v w',qi P o a w v w'/\iI j M w x v w':=by
 simp only[dX] at h;cases h;have q:Quiet w w:=⟨aC _,rfl,rfl,rfl⟩;have h1:Rel (gy j M.length none) (M++[.arr n 0 []]) w:=hr.push (ob:=none) (bx := .arr n 0 []) (fun b h=>by cases h) q (fun _ _=>rfl) (fun h=>by cases h) (fun sz n b h h'=>by cases h') (fun sz ver xs h=>by injection h with e1 e2 e3; exact .inl ⟨e3.symm,rfl⟩)
 have h2:Ext j M w (gy j M.length none) (M++[.arr n 0 []]) w:=Ext.push (fun b h=>by cases h) q (fun _ _=>rfl)
 obtain⟨k1,k2⟩:=pk (j:=gy j M.length none) (M:=M++[.arr n 0 []]) (w:=w) hl;have hs1:zv.cells.size=1:=by simpa using k1.symm
 have hv0:∃A,zv.cells[0]?=some (.slice A 0 0):=by
  have hv:=a8 (show 0<zv.cells.size by omega)
  obtain⟨A,hA⟩:=(k2 0 _ (zv.cells[0]'(by omega)) rfl (by simp)).BX
  exact⟨A,by rw[hv,hA]⟩
 obtain⟨A,hA⟩:=hv0
 have hrc:RC (gy j M.length none) (M++[.arr n 0 []]) w [.cN M.length 0 n 0 0] zv.cells:=by
  refine⟨by simp[hs1],fun p c v hc hv=>?_⟩
  cases p with
  |zero =>
   simp at hc; subst hc;rw[hA] at hv; cases hv;refine .cN (.inr ⟨rfl,A,rfl⟩) (by simp) (fun bx hbx=>by rw[lX] at hbx; cases hbx; rfl) fun sz' v' zs hx=>?_
   rw[lX] at hx; injection hx with hx; injection hx with e1 e2 e3
   subst e1; subst e2; subst e3;exact⟨aC _,fun _=>⟨rfl,aC _,aC _,.inl ⟨rfl,by simp[gy],A,rfl⟩⟩⟩
  |succ p=>simp at hc
 obtain⟨j',g1,g2,g3⟩:=Fv h1 hrc t;refine⟨_,_,.inl (show(execOp a.eval o).run P w = .ok (.value (.pointer (some ⟨w.heap.size,0,none⟩))) { w with heap:=w.heap.push (.cells zv.cells t (0,0)) } by simp[execOp,hop,Instr.alloc,zeroValue,oZ hi,hzv,newVar,newRow]),j',?_,?_,?_⟩
 ·simpa using g1
 ·simpa using h2.trans g2
 ·simpa using g3
end
section
variable {P:Program} {C:eB} {own:List Nat} {o:Oper} {ao:ke} {br:Env} {M:aH} {j:J} {w:World} {a:Act} {x:ag×aH}
def sS(P:Program)(o:Oper)(a:Act)(w:World)(K:Act->World->Prop)(KP:Value->World->Prop):Prop :=
 (∃v w',qi P o a w v w'/\K (a.put o.dst v) w')\/(∃f us,(execOp a.eval o).run P w = .ok (.enter f us) w/\Calls P f us w fun e w'=>(∃v,e = .returned v/\K (a.put o.dst v) w')\/∃u,e = .panicked [{ v:=u,recovered:=false }]/\KP u w') \/
  ∃u,(execOp a.eval o).run P w = .halt (.panic u) w/\KP u w
def eh{K:Act->World->Prop}{KP:Value->World->Prop}(h:∃v w',qi P o a w v w'/\iI j M w x v w')(hK:∀v w',iI j M w x v w'->K (a.put o.dst v) w'):sS P o a w K KP:=by
 obtain⟨v,w',h1,h2⟩:=h;exact .inl ⟨v,w',h1,hK v _ h2⟩
def xv{K:Act->World->Prop}{KP:Value->World->Prop}{f:Nat}{us:Array Value}(hrun:(execOp a.eval o).run P w = .ok (.enter f us) w)
  (h:Calls P f us w fun e w'=>u9 j M w x e w') (hK:∀v w',iI j M w x v w'->K (a.put o.dst v) w') (hP:∀u w',F4 j M w x u w'->KP u w'):sS P o a w K KP :=
 .inr (.inl ⟨f,us,hrun,h.mono fun e w' he=>he.imp (fun⟨v,he,hv⟩=>⟨v,he,hK v _ hv⟩) fun⟨u,he,hu⟩=>⟨u,he,hP u _ hu⟩⟩)
def Wd(r:Option Nat):Fence:={ Fence.wide with round:=r }
def IU{r:Option Nat}{n f:Nat}{args:Array Value}{R:Ending->World->Prop}(h:Calls P f args w R):CallsIn (Wd r) n P f args w R:=by
 cases r with
 |none=>exact callsIn_wide.2 h
 |some l=>exact CallsIn.inRound l (callsIn_wide.2 h)
theorem sS.wpIn{K:Act->World->Prop}{KP:Value->World->Prop}{Q:Exit->Act->World->Prop}{r:Option Nat}{n:Nat}(hd:∀c,o.op ≠ .defer c)(h:sS P o a w K KP)
  (hQ:∀u w',KP u w'->Q (.panic [{ v:=u,recovered:=false }]) a w'):o.wpIn (Wd r) n P a w K Q:=by
 refine⟨fun _ _=>trivial,?_⟩
 rw[Oper.semAt_eq _ _ _ hd];rcases h with ⟨v,w',h1|⟨h1,rfl⟩,h2⟩|⟨f,us,h1,h2⟩|⟨u,h1,h2⟩
 ·rw[h1]; exact h2
 ·rw[h1]; exact h2
 ·rw[h1];refine⟨fun h=>(by cases h),IU (h2.mono ?_)⟩
  grind
 ·rw[h1]; exact hQ u w h2
def zc(ho:N5 P own o=some ao):∀c,o.op ≠ .defer c:=by
 intro c h;simp_all [N5]
theorem qY{f:Nat}(h:lQ P f=true)(us:Array Value):(callFunc f us).run P w = .ok (.enter f us) w:=by
 unfold lQ at h;split at h
 ·rename_i fn hfn;have h1:fn.name ≠ "runtime.NumGoroutine" := by grind
  have h2:¬fn.body=none:=by grind
  simp[callFunc,hfn,h1,h2]
 ·cases h
theorem fY.shut{c:ag}{v:Value}(h:fY j M w c v):fY j M w c.shut v:=by
 cases c<;>first|exact h|exact .plain h.dN
theorem fY.fS{c:ag}{v:Value}(h:fY j M w c v):fY j M w c.fS v:=by
 cases c<;>first|exact h|exact .plain h.dN|skip
 obtain⟨vs,rfl,hl,hc⟩:=h.lU;refine .agg (by grind) fun i c u hi hu=>?_
 rw[bd,aR] at hi;obtain⟨c0,hc0,rfl⟩:=hi;exact(hc i _ u hc0 hu).shut
theorem Mh{c:Call}{f0 f:Nat}{l:List gQ}(hop:o.op = .call c)(hcal:c.callee = .value (.func f0))(h:N5 P own o=some (.vw f l)):f0=f/\lQ P f=true/\uz c.args.toList=some l:=by
 simp only[N5,hop,OT,hcal] at h;split at h
 ·obtain⟨l',hl,h⟩:=aZ h
  grind
 grind
theorem xZ(hC:oQ P C){c:Call}{f0 f:Nat}{l:List gQ}(hop:o.op = .call c)(hcal:c.callee = .value (.func f0))(ho:N5 P own o=some (.vw f l)){M0:aH}(h:dX C br M0 (.vw f l)=some x) :
  ∃xs sz n,x=(.slice (.own M0.length) xs,M0++[.tick sz n])/\∀ {j:J} {G:aH} {w:World} {a:Act} {p:Nat} {K:Act->World->Prop} {KP:Value->World->Prop},Rel j G w->rT j G w->cm j G w br a->G[p]?=some .u6 ->
   (∀v w',iI j G w (.slice (.own p) xs,G.set p (.tick sz n)) v w'->K (a.put o.dst v) w')->sS P o a w K KP:=by
 obtain⟨rfl,hent,hl⟩:=Mh hop hcal ho;simp only[dX] at h;unfold Am at h;split at h
 ·rename_i hc;obtain⟨hc1,hc2⟩:=hc;obtain⟨y,hy,h⟩:=bg h;split at h
  ·rename_i x1 x2 xs sz n e1 e2;cases h;refine⟨xs,sz,n,rfl,fun {j G w a p K KP} hr hG he hp hK=>?_⟩
   obtain⟨l1,l2⟩:=tj he hl
   have hy':C f0 (l.map fun x=>(x.ev br).fS) []=some (.slice (.own 0) xs,[.tick sz n]):=by
    rw[hy,<-e1,<-e2]
   obtain⟨_,hcl⟩:=NC (us:=c.args.map a.eval) hC hr hG hp hc1 hc2 hy' (by grind) fun i c' u hc' hu=>by
    rw[bd,aR] at hc';obtain⟨y,hy,rfl⟩:=hc';rw[iq,aR] at hu;obtain⟨q,hq,rfl⟩:=hu;exact(l2 i y q hy (by simpa using hq)).fS
   exact .inr (.inl ⟨f0,_,by simp[execOp,hop,resolve,hcal,Act.eval,Deferred.ofValue,invoke,qY hent],hcl.mono fun e w' ⟨v,he,hv⟩ => .inl ⟨v,he,hK v w' hv⟩⟩)
  grind
 grind
theorem CO(hC:oQ P C)(ho:N5 P own o=some ao)(h:dX C br M ao=some x)(hr:Rel j M w)(hG:rT j M w)(he:cm j M w br a){K:Act->World->Prop}
  (hK:∀v w',iI j M w x v w'->K (a.put o.dst v) w') {KP:Value->World->Prop} (hP:∀u w',F4 j M w x u w'->KP u w'):sS P o a w K KP:=by
 have ho0:=ho;unfold N5 at ho;split at ho
 case h_1 y hop =>
  obtain⟨z,hz,ho⟩:=aZ ho;cases ho;exact eh (BD hr he (.inl hop) hz h) hK
 case h_2 y hop =>
  obtain⟨z,hz,ho⟩:=aZ ho;split at ho
  ·split at ho
   ·split at ho
    ·obtain⟨n,hn,ho⟩:=aZ ho;split at ho
     ·cases ho;exact eh (afs hr he hop hz h) hK
     ·cases ho;exact eh (BD hr he (.inr hop) hz h) hK
    ·cases ho
   ·cases ho;exact eh (BD hr he (.inr hop) hz h) hK
  ·cases ho;exact eh (BD hr he (.inr hop) hz h) hK
 case h_3 c p q hop =>
  obtain⟨c',hc,ho⟩:=aZ ho;obtain⟨p',hp,ho⟩:=aZ ho;obtain⟨q',hq,ho⟩:=aZ ho;cases ho;exact eh (YL hr he hop hc hp hq h) hK
 case h_4 t hop =>
  obtain⟨i,hi,ho⟩:=aZ ho;obtain⟨z,hz,ho⟩:=aZ ho;obtain⟨l,hl,ho⟩:=aZ ho;split at ho
  ·split at ho
   ·split at ho
    ·obtain⟨n,hn,ho⟩:=aZ ho;cases ho;exact eh (YE hr hop hi hz hl h) hK
    ·cases ho
   ·cases ho;exact eh (Lr hr hop hi hz hl h) hK
  ·cases ho;exact eh (Lr hr hop hi hz hl h) hK
 case h_5 t y hop =>
  obtain⟨z,hz,ho⟩:=aZ ho;cases ho;exact eh (afo hr he hop hz h) hK
 case h_6 t parts hop =>
  split at ho
  ·rename_i fs hfs;obtain⟨i,hi,ho⟩:=aZ ho;obtain⟨z,hz,ho⟩:=aZ ho;obtain⟨l,hl,ho⟩:=aZ ho;obtain⟨ps,hps,ho⟩:=aZ ho;split at ho
   ·rename_i hall;cases ho;exact eh (TK hr he hop hfs hi hz hl hps hall h) hK
   ·cases ho
  ·rename_i len e ht;obtain⟨i,hi,ho⟩:=aZ ho;obtain⟨z,hz,ho⟩:=aZ ho;obtain⟨l,hl,ho⟩:=aZ ho;obtain⟨n,hn,ho⟩:=aZ ho;obtain⟨ps,hps,ho⟩:=aZ ho;cases ho;exact eh (Ni hr he hop ht hi hz hl hn hps h) hK
  ·cases ho
 case h_7 t len parts hop =>
  split at ho
  ·rename_i e ht;obtain⟨i,hi,ho⟩:=aZ ho;obtain⟨l,hl,ho⟩:=aZ ho;split at ho
   ·rename_i hc;cases ho;split at h
    ·split at h
     ·exact eh (TT hr he hop ht hi hl hc.1 hc.2.1 hc.2.2.1 h) hK
     ·exact eh (Ls hr he hop ht hi hl hc.1 hc.2.1 hc.2.2.1 h) hK
    ·exact eh (Ls hr he hop ht hi hl hc.1 hc.2.1 hc.2.2.1 h) hK
   ·cases ho
  ·cases ho
 case h_8 t y hop =>
  obtain⟨g,hg,ho⟩:=aZ ho;obtain⟨n,hn,ho⟩:=aZ ho;obtain⟨z,hz,ho⟩:=aZ ho;cases ho;cases g
  ·exact eh (TU hr he hop hg hz h) hK
  ·exact eh (TV hr he hop hg hn hz h) hK
 case h_9 t y y' hop =>
  obtain⟨n,hn,ho⟩:=aZ ho;obtain⟨z,hz,ho⟩:=aZ ho;obtain⟨z',hz',ho⟩:=aZ ho;cases ho;cases z with
  |tmp s =>
   dsimp only at h;split at h
   ·exact eh (Ns hr he hop hn hz hz' h) hK
   ·exact eh (CP hr he hop hn hz hz' h) hK
  |_=>exact eh (CP hr he hop hn hz hz' h) hK
 case h_10 y hop =>
  obtain⟨z,hz,ho⟩:=aZ ho;cases ho;exact eh (afp hr he hop hz h) hK
 case h_11 op t y y' t' hop =>
  obtain⟨z,hz,ho⟩:=aZ ho;obtain⟨z',hz',ho⟩:=aZ ho;split at ho
  ·obtain⟨b,hb,ho⟩:=aZ ho;cases ho;exact eh (TI hr he hop hb hz hz' h) hK
  ·obtain⟨b,hb,ho⟩:=aZ ho;cases ho;exact eh (TI hr he hop hb hz hz' h) hK
  ·rename_i ht;split at ho
   ·cases ho;exact eh (TP (neg:=false) hr he hop ht hz hz' h) hK
   ·cases ho;exact eh (TP (neg:=true) hr he hop ht hz hz' h) hK
   ·cases ho
  ·rename_i fs ht;split at ho
   ·cases ho
   ·rename_i hst;obtain⟨ks,hks,ho⟩:=aZ ho;have hst':P.stoodInHeld t=false:=by simpa using hst
    split at ho
    ·cases ho;exact eh (TM (neg:=false) hr he hop ht hst' hks hz hz' h) hK
    ·cases ho;exact eh (TM (neg:=true) hr he hop ht hst' hks hz hz' h) hK
    ·cases ho
  ·rename_i len e ht;split at ho
   ·split at ho
    ·rename_i hs;cases ho;exact eh (TN hr he hop ht (by assumption) hs hz hz' h) hK
    ·cases ho
   ·cases ho
  ·cases ho
 case h_12 t y hop =>
  obtain⟨z,hz,ho⟩:=aZ ho;cases ho;exact eh (afr hr he hop hz h) hK
 case h_13 t y hop =>
  obtain⟨z,hz,ho⟩:=aZ ho;cases ho;exact eh (afq hr he hop hz h) hK
 case h_14 s d y hop =>
  obtain⟨z,hz,ho⟩:=aZ ho;split at ho
  ·rename_i hs hd;cases ho;exact eh (YF hr he hop hs hd hz h) hK
  ·rename_i hs hd;cases ho;exact eh (YN hr he hop hs hd hz h) hK
  ·rename_i e hs hd;split at ho
   ·rename_i hu;cases ho;exact eh (afn hr he hop hs hd hu hz h) hK
   ·cases ho
  ·cases ho
 case h_15 f first caps hop =>
  split at ho
  ·rename_i hf;obtain⟨l,hl,ho⟩:=aZ ho;cases ho;exact eh (alX hr he hop hf hl h) hK
  ·split at ho
   ·rename_i hf;obtain⟨l,hl,ho⟩:=aZ ho;cases ho;exact eh (TJ hr he hop hf hl h) hK
   ·cases ho
 case h_16 t y lo hi mx hop =>
  obtain⟨z,hz,ho⟩:=aZ ho;obtain⟨lo',hlo,ho⟩:=aZ ho;obtain⟨hi',hhi,ho⟩:=aZ ho;obtain⟨mx',hmx,ho⟩:=aZ ho;split at ho
  ·rename_i ht;split at ho
   ·rename_i hm;cases ho
    have:mx=none:=by
     grind [pL]
    subst this;exact eh (Nq hr he hop ht hz hlo hhi h) hK
   ·cases ho
  ·rename_i e ht;obtain⟨n,hn,ho⟩:=aZ ho;split at ho
   ·rename_i hc;cases ho;exact eh (Nr hr he hop ht hn hz hlo hhi hmx hc.2 h) hK
   ·cases ho
  ·cases ho
 case h_17 s y i hop =>
  split at ho
  ·rename_i fs hs;obtain⟨f,hf,ho⟩:=aZ ho;obtain⟨n,hn,ho⟩:=aZ ho;obtain⟨z,hz,ho⟩:=aZ ho;split at ho
   ·rename_i hpos;cases ho;exact eh (TQ hr he hop hs hf hn hpos hz h) hK
   ·cases ho
  ·cases ho
 case h_18 s y i hop =>
  split at ho
  ·rename_i fs hs;obtain⟨f,hf,ho⟩:=aZ ho;obtain⟨g,hg,ho⟩:=aZ ho;obtain⟨n,hn,ho⟩:=aZ ho;obtain⟨z,hz,ho⟩:=aZ ho;cases ho;cases g
   ·exact eh (Nk hr he hop hs hf hg hz h) hK
   ·exact eh (Nl hr he hop hs hf hg hn hz h) hK
  ·cases ho
 case h_19 t y i hop =>
  split at ho
  ·rename_i e ht;obtain⟨n,hn,ho⟩:=aZ ho;obtain⟨z,hz,ho⟩:=aZ ho;obtain⟨z',hz',ho⟩:=aZ ho;split at ho
   ·cases ho;exact eh (TR hr he hop ht hn hz hz' h) hK
   ·cases ho
  ·rename_i len e ht;obtain⟨n,hn,ho⟩:=aZ ho;obtain⟨z,hz,ho⟩:=aZ ho;obtain⟨z',hz',ho⟩:=aZ ho;split at ho
   ·cases ho;exact eh (Nn hr he hop ht hn hz hz' h) hK
   ·cases ho
  ·cases ho
 case h_20 t y i hop =>
  split at ho
  ·rename_i ht;obtain⟨z,hz,ho⟩:=aZ ho;obtain⟨z',hz',ho⟩:=aZ ho;cases ho;exact eh (Np hr he hop ht hz hz' h) hK
  ·cases ho
 case h_21 y i hop =>
  obtain⟨z,hz,ho⟩:=aZ ho;cases ho;exact eh (JY hr he hop hz h) hK
 case h_22 c hop =>
  unfold OT at ho;split at ho
  ·rename_i f hcal;split at ho
   ·rename_i hent;obtain⟨l,hl,ho⟩:=aZ ho;cases ho;obtain⟨l1,l2⟩:=tj he hl;split at h
    ·simp only[dX] at h;obtain⟨_,hc⟩:=hC _ _ _ _ h;refine xv (by simp[execOp,hop,resolve,hcal,Act.eval,Deferred.ofValue,invoke,qY hent]) ((hc j w (c.args.map a.eval) hr hG (by simpa using l1) fun i c' u hc' hu=>?_)) hK hP
     grind
    split at h
    ·simp only[dX] at h;obtain⟨f1,f2,f3,f4⟩:=Bv (j:=j) (w:=w) ((l.map (gQ.ev br)).flatMap ag.ids) hr
     obtain⟨_,hc⟩:=pN (us:=c.args.map a.eval) hC f2 (hG.mono f1) h (by simpa using l1) fun i c' u hc' hu=>by
      rw[bd,aR] at hc';obtain⟨y,hy,rfl⟩:=hc';rw[iq,aR] at hu;obtain⟨q,hq,rfl⟩:=hu;exact((l2 i y q hy (by simpa using hq)).vI hr f1 f2 f3 fun id hid=>f4 id (iX.2 ⟨_,cE.2 ⟨y,aO hy,rfl⟩,hid⟩)).fS
     refine xv (by simp[execOp,hop,resolve,hcal,Act.eval,Deferred.ofValue,invoke,qY hent]) (hc.mono ?_) hK hP
     rintro e w' (⟨v,rfl,j2,g1,g2,g3⟩|⟨u,rfl,hu,j2,g1,g2⟩)
     ·exact .inl ⟨v,rfl,j2,g1,f1.trans g2,g3⟩
     ·exact .inr ⟨u,rfl,hu,j2,g1,f1.trans g2⟩
    split at h
    ·rename_i h1 h2 h3;rw[aQ h1,aQ h2,bh h3] at ho0;obtain⟨xs,sz,n,rfl,hrun⟩:=xZ hC hop hcal (by rw[ho0]) h
     obtain⟨j1,r1,x1⟩:=An hr 1;refine hrun (p:=M.length) r1 (hG.mono x1) (he.mono x1) (by simp) fun v w' ⟨j',q1,q2,q3⟩=>hK v w' ⟨j',?_,?_,?_⟩
     ·simpa using q1
     ·simpa using x1.trans q2
     ·simpa using q3
    simp only[dX] at h
    obtain⟨_,hc⟩:=pN (us:=c.args.map a.eval) hC hr hG h (by simpa using l1) fun i c' u hc' hu=>by
     rw[bd,aR] at hc';obtain⟨y,hy,rfl⟩:=hc';rw[iq,aR] at hu;obtain⟨q,hq,rfl⟩:=hu;exact(l2 i y q hy (by simpa using hq)).fS
    exact xv (by simp[execOp,hop,resolve,hcal,Act.eval,Deferred.ofValue,invoke,qY hent]) hc hK hP
   ·cases ho
  ·rename_i t hcal;obtain⟨l,hl,ho⟩:=aZ ho;cases ho;obtain⟨l1,l2⟩:=tj he hl;have hsz:l.length=c.args.size:=by simpa using l1
   simp only[dX] at h;split at h
   ·rename_i g caps hg;have hgr:=he.at' t;simp only[gQ.ev] at hg;rw[hg] at hgr;obtain⟨vs,hvs,hcl,hcv⟩:=hgr.rF;have hev:a.eval (.tmp t) = .func (.func g) #[] vs:=hvs
    obtain⟨hent,hc⟩:=pN (us:=c.args.map a.eval++vs) hC hr hG h (by simp; omega) fun i c' u hc' hu=>by
     rcases bF i l.length with hi|hi
     ·rw[bA (by simpa using hi),bd,aR] at hc'
      obtain⟨y,hy,rfl⟩:=hc';rw[cj (by simp; omega),iq,aR] at hu
      obtain⟨q,hq,rfl⟩:=hu;exact(l2 i y q hy (by simpa using hq)).fS
     grind
    exact xv (by simp[execOp,hop,resolve,hcal,hev,Deferred.ofValue,invoke,qY hent]) hc hK hP
   ·rename_i g fs hg;have hgr:=he.at' t;simp only[gQ.ev] at hg;rw[hg] at hgr;obtain⟨vs,hvs,hcl,hcv⟩:=hgr.Fu;have hev:a.eval (.tmp t) = .func (.func g) vs #[]:=hvs
    obtain⟨hent,hc⟩:=pN (us:=vs++c.args.map a.eval) hC hr hG h (by simp; omega) fun i c' u hc' hu=>by
     rcases bF i fs.length with hi|hi
     ·rw[bA hi] at hc';rw[cj (by omega)] at hu
      exact(hcv i c' u hc' hu).rep
     ·rw[bz hi,bd,aR] at hc';obtain⟨y,hy,rfl⟩:=hc';rw[Array.getElem?_append_right (by omega),iq,aR] at hu
      obtain⟨q,hq,rfl⟩:=hu;rw[<-hcl] at hq;exact(l2 _ y q hy (by simpa using hq)).fS
    exact xv (by simp[execOp,hop,resolve,hcal,hev,Deferred.ofValue,invoke,qY hent]) hc hK hP
   ·rename_i rv hg;have hgr:=he.at' t;simp only[gQ.ev] at hg;rw[hg] at hgr;split at h
    ·rename_i g;have hev:a.eval (.tmp t) = .func (.func g) #[] #[]:=hgr.LC
     obtain⟨hent,hc⟩:=pN (us:=c.args.map a.eval) hC hr hG h (by simpa using l1) fun i c' u hc' hu=>by
      rw[bd,aR] at hc';obtain⟨y,hy,rfl⟩:=hc';rw[iq,aR] at hu;obtain⟨q,hq,rfl⟩:=hu;exact(l2 i y q hy (by simpa using hq)).fS
     exact xv (by simp[execOp,hop,resolve,hcal,hev,Deferred.ofValue,invoke,qY hent]) hc hK hP
    ·cases h
   ·cases h
  ·rename_i hcal;split at ho
   ·rename_i y ha ht;obtain⟨t,ht0,ht⟩:=dp.1 ht;obtain⟨z,hz,ho⟩:=aZ ho;cases ho;exact eh (YH hr he hop hcal ha ht0 ht hz h) hK
   ·rename_i y e ha ht;obtain⟨t,ht0,ht⟩:=dp.1 ht;obtain⟨z,hz,ho⟩:=aZ ho;cases ho;exact eh (YI hr he hop hcal ha ht0 ht hz h) hK
   ·rename_i y k e ha ht;obtain⟨t,ht0,ht⟩:=dp.1 ht;obtain⟨z,hz,ho⟩:=aZ ho;cases ho;exact eh (YG hr he hop hcal ha ht0 ht hz h) hK
   ·cases ho
  ·rename_i hcal;split at ho
   ·rename_i y y' t t' ha hat;split at ho
    ·rename_i e e' ht ht';obtain⟨n,hn,ho⟩:=aZ ho;obtain⟨z,hz,ho⟩:=aZ ho;obtain⟨z',hz',ho⟩:=aZ ho;split at ho
     ·rename_i hpos;cases ho;exact eh (TL hr he hop hcal ha hat ht ht' hn hpos hz hz' h) hK
     ·cases ho
    ·cases ho
   ·cases ho
  ·rename_i hcal;split at ho
   ·rename_i y y' t t' ha hat;split at ho
    ·rename_i e kn ht ht';obtain⟨i,hi,ho⟩:=aZ ho;obtain⟨zv,hzv,ho⟩:=aZ ho;obtain⟨l,hl,ho⟩:=aZ ho;obtain⟨z,hz,ho⟩:=aZ ho;obtain⟨z',hz',ho⟩:=aZ ho;split at ho
     ·rename_i hc;obtain⟨d1,d2,d3,d4⟩:=hc;injection ho with hoo
      subst hoo;exact eh (JX hr he hop hcal ha hat ht ht' hi hzv hl d1 d2 d3 d4 hz hz' h) hK
     ·cases ho
    ·rename_i e e' ht ht';obtain⟨i,hi,ho⟩:=aZ ho;obtain⟨z,hz,ho⟩:=aZ ho;obtain⟨z',hz',ho⟩:=aZ ho;split at ho
     ·rename_i hc;cases ho;simp only[bm,ba] at hc;obtain⟨⟨⟨c1,c2⟩,c3⟩,c4⟩:=hc;obtain⟨zv,hzv,hzs⟩:=aR.1 c1;have hat':c.argTypes = #[t,t']:=by rw[<-hat]
      split at h
      ·split at h
       ·exact eh (JV hr he hop hcal ha hat' ht ht' hi hzv hzs c2 c3 c4 hz hz' h) hK
       ·exact eh (Ej hr he hop hcal ha hat' ht ht' hi hzv hzs c2 c3 c4 hz hz' h) hK
      ·exact eh (Ej hr he hop hcal ha hat' ht ht' hi hzv hzs c2 c3 c4 hz hz' h) hK
     ·cases ho
    ·cases ho
   ·cases ho
  ·rename_i hcal;split at ho
   ·rename_i y t ha hat;split at ho
    ·rename_i e ht;obtain⟨i,hi,ho⟩:=aZ ho;obtain⟨zv,hzv,ho⟩:=aZ ho;obtain⟨l,hl,ho⟩:=aZ ho;obtain⟨z,hz,ho⟩:=aZ ho;split at ho
     ·rename_i hc;cases ho;exact eh (Nj hr he hop hcal ha hat ht hi hzv hl hc.1 hz h) hK
     ·cases ho
    ·cases ho
   ·cases ho
  ·rename_i hcal;split at ho
   ·rename_i y y' ha;obtain⟨z,hz,ho⟩:=aZ ho;obtain⟨z',hz',ho⟩:=aZ ho;cases ho;exact eh (Ek (mx:=true) hr he hop hcal ha hz hz' h) hK
   ·cases ho
  ·rename_i hcal;split at ho
   ·rename_i y y' ha;obtain⟨z,hz,ho⟩:=aZ ho;obtain⟨z',hz',ho⟩:=aZ ho;cases ho;exact eh (Ek (mx:=false) hr he hop hcal ha hz hz' h) hK
   ·cases ho
  ·cases ho
 case h_23 t hop =>
  cases ho;exact eh (TW hr hop h) hK
 case h_24 t m k ok hop =>
  split at ho
  ·rename_i kt et ht;obtain⟨fk,hfk,ho⟩:=aZ ho;obtain⟨ie,hi,ho⟩:=aZ ho;obtain⟨zv,hzv,ho⟩:=aZ ho;obtain⟨z,hz,ho⟩:=aZ ho;obtain⟨m',hm,ho⟩:=aZ ho;obtain⟨k',hk,ho⟩:=aZ ho;cases ho;exact eh (YJ hr he hop ht hfk hi hzv hz hm hk h) hK
  ·cases ho
 case h_25 t m k y hop =>
  split at ho
  ·rename_i kt et ht;obtain⟨fk,hfk,ho⟩:=aZ ho;obtain⟨m',hm,ho⟩:=aZ ho;obtain⟨k',hk,ho⟩:=aZ ho;obtain⟨y',hy,ho⟩:=aZ ho;cases ho;exact eh (T1 hr he (.inl hop) ht hfk hm hk (cU he hy) h) hK
  ·cases ho
 case h_26 t y hop =>
  split at ho
  ·rename_i ht;obtain⟨z,hz,ho⟩:=aZ ho;cases ho;exact eh (YM hr he hop ht hz h) hK
  ·cases ho
 case h_27 y hop =>
  obtain⟨z,hz,ho⟩:=aZ ho;cases ho;exact eh (TY hr he hop hz h) hK
 case h_28 t y hop =>
  obtain⟨z,hz,ho⟩:=aZ ho;split at ho
  ·cases ho
  ·rename_i d hd hu;cases ho;exact eh (TS hr he hop hu (fun _=>hd _) hz h) hK
  ·cases ho
 case h_29 y hop =>
  obtain⟨z,hz,ho⟩:=aZ ho;cases ho;obtain⟨u,h1,h2⟩:=TZ (P:=P) hr he hop hz h;exact .inr (.inr ⟨u,h1,hP u w h2⟩)
 case h_30 t m k y hop =>
  split at ho
  ·rename_i kt et ht;obtain⟨fk,hfk,ho⟩:=aZ ho;obtain⟨m',hm,ho⟩:=aZ ho;obtain⟨k',hk,ho⟩:=aZ ho;obtain⟨y',hy,ho⟩:=aZ ho;cases ho;exact eh (T1 hr he (.inr hop) ht hfk hm hk (T2 he hy) h) hK
  ·cases ho
 case h_31 t y y' hop =>
  split at ho
  ·rename_i e ht;obtain⟨i,hi,ho⟩:=aZ ho;obtain⟨zv,hzv,ho⟩:=aZ ho;obtain⟨l,hl,ho⟩:=aZ ho;obtain⟨z,hz,ho⟩:=aZ ho;split at ho
   ·rename_i hc;obtain⟨hyy,c1,c2,c3⟩:=hc;injection ho with hoo
    subst hoo;subst hyy;split at h
    ·split at h
     ·exact eh (YK hr he hop ht hi hzv hl hz c1 c2 c3 h) hK
     ·exact eh (TX hr he hop ht hi hzv hl hz c1 c2 c3 h) hK
    ·exact eh (TX hr he hop ht hi hzv hl hz c1 c2 c3 h) hK
   ·cases ho
  ·cases ho
 case h_32=>cases ho
end
section
variable {P:Program} {C:eB} {A:De}
def wH(a:Act)(d:Option Nat)(v:Value):(a.put d v).tmps.size=a.tmps.size:=by cases d<;>simp[Act.put]
theorem put_defers(a:Act)(d:Option Nat)(v:Value):(a.put d v).defers=a.defers:=by cases d<;>rfl
theorem zL{ops:Array Oper}{g:Bool}{o:Oper}{x:cQ}(h:Ks P A ops g o=some x):N5 P A.own o=some x.op/\x.dst=o.dst/\x.grow=g/\(∀d,o.dst=some d->d<A.n) /\
  ((o.guard=none/\x.guard=none)\/∃k want t,o.guard=some (k,want)/\x.guard=some (t,want)/\(ops[k]?).bind (·.dst)=some t/\t<A.n):=by
 obtain⟨op,hop,h⟩:=aZ h;split at h
 ·rename_i hd;have hd':∀d,o.dst=some d->d<A.n:=fun d e=>by grind [ZF]
  split at h
  ·grind
  ·obtain⟨t,ht,h⟩:=aZ h
   grind
 grind
def yv{ops:Array Oper}{o:Oper}{x:cQ}{br:Env}{M:aH}{j:J}{w:World}{a:Act}(he:cm j M w br a)(hs:a.tmps.size=A.n)
  (hg:(o.guard=none/\x.guard=none)\/∃k want t,o.guard=some (k,want)/\x.guard=some (t,want)/\(ops[k]?).bind (·.dst)=some t/\t<A.n)
  (h:∀t want,x.guard=some (t,want)->iv br t = .bool want):Region.wanted o (yielded ops a.tmps)=true:=by
 unfold Region.wanted;rcases hg with ⟨h1,_⟩|⟨k,want,t,h1,h2,h3,h4⟩
 ·rw[h1]
 ·have hv:=he.at' t;rw[h t _ h2] at hv;have hv:=hv.jg;simp_all [yielded]
theorem EF{ops:Array Oper}{o:Oper}{x:cQ}{br:Env}{M:aH}{j:J}{w:World}{a:Act}(he:cm j M w br a)(hs:a.tmps.size=A.n)
  (hg:(o.guard=none/\x.guard=none)\/∃k want t,o.guard=some (k,want)/\x.guard=some (t,want)/\(ops[k]?).bind (·.dst)=some t/\t<A.n)
  {t:Nat} {want:Bool} (hx:x.guard=some (t,want)) (h:iv br t = .bool (!want)\/iv br t = .tuple []):Region.wanted o (yielded ops a.tmps)=false:=by
 unfold Region.wanted;rcases hg with ⟨_,h1⟩|⟨k,want',t',h1,h2,h3,h4⟩
 ·grind
 ·rw[h2] at hx;injection hx with hx
  injection hx with e1 e2
  subst e1; subst e2;rw[h1];have hv:=he.at' t';have hget:a.tmps[t']?=some (a.tmps.getD t' undef):=by simp_all
  rcases h with h|h
  ·rw[h] at hv;rw[hv.jg] at hget;cases want'<;>simp[yielded,h3,hget]
  ·rw[h] at hv;obtain⟨vs,hvs,hl,_⟩:=hv.sP
   grind [yielded]
def DD{x:cQ}{br:Env}{M:aH}{y:ag×aH}(h:oe C x br M=some y):dX C br M x.op=some y:=by
 rcases qV h with ⟨_,_,h⟩|⟨_,_,h⟩|⟨_,_,_,h⟩<;>exact h
def qq:Zi->Exit
 | .normal => .normal
 | .exit i => .exit i
 | .ret => .ret
 | .mw v => .panic [{ v,recovered:=false }]
def fY.JT{j:J}{M:aH}{w:World}{u v:Value}(h:fY j M w (.mw u) v):False:=by
 cases h with
 |plain h=>cases h
def cm.nil{j j':J}{M M':aH}{w w':World}{br:Env}{a:Act}(h:cm j M w br a)(hx:Ext j M w j' M' w'):cm j' M' w' [] a:=⟨fun _ => .any _,h.gl.mono hx⟩
theorem xh(hC:oQ P C){r:Option Nat}{n:Nat}{ops:Array Oper}{Q:Exit->Act->World->Prop}:∀ {grow:List Bool} (l:List Oper) (k:Nat),ops.toList.drop k=l->∀ {al:List cQ},sX P A ops grow l=some al ->
  ∀ {br:Env} {M:aH} {x:Out},fK C al br M=some x->∀ {j:J} {w:World} {a:Act},Rel j M w->rT j M w->cm j M w br a->a.tmps.size=A.n ->
  (∀a' w' j',Rel j' x.mem w'->cm j' x.mem w' x.br a'->Ext j M w j' x.mem w'->a'.tmps.size=A.n->a'.defers=a.defers->Q (qq x.e) a' w')->wpOpsIn (Wd r) n P ops Q (List.range' k l.length) a w
 |grow,[],k,hk,al,hal,br,M,x,hx,j,w,a,hr,hG,he,hs,hQ=>by
  simp only[sX] at hal; cases hal;simp only[fK] at hx; cases hx;exact hQ a w j hr he (Ext.refl j M w) hs rfl
 |grow,o::rs,k,hk,al,hal,br,M,x,hx,j,w,a,hr,hG,he,hs,hQ=>by
  simp only[sX] at hal;obtain⟨xo,hxo,hal⟩:=aZ hal;obtain⟨xr,hxr,hal⟩:=aZ hal;cases hal;obtain⟨h1,h2,h3,h4,h5⟩:=zL hxo
  have hko:ops[k]?=some o:=by
   have:(ops.toList.drop k)[0]?=some o:=by rw[hk]; rfl
   rw[cH] at this
   grind
  have hkr:ops.toList.drop (k+1)=rs:=by
   rw[<-List.drop_drop,hk]; rfl
  simp only[au,List.range'_succ,wpOpsIn,hko];rcases o6 hx with ⟨y,g1,g2,⟨hnp,g3⟩|⟨u0,_,g3,rfl⟩⟩|⟨t,want,g1,g2,g3⟩
  ·rw[bh (yv he hs h5 g1)];refine sS.wpIn (KP:=fun _ _=>False) (zc h1) (CO hC h1 (DD g2) hr hG he ?_ ?_) fun u w' h=>h.elim
   ·rintro v w' ⟨j',q1,q2,q3⟩;refine xh hC rs (k+1) hkr hxr (x:=x) (by rw[<-h2]; omega) q1 (hG.mono q2) ((he.mono q2).put hs h4 (by omega)) (by rw[wH]; omega) fun a' w'' j'' p1 p2 p3 p4 p5=>?_
    exact hQ a' w'' j'' p1 p2 (q2.trans p3) p4 (p5.trans (put_defers _ _ _))
   ·rintro u w' ⟨hu,_⟩;rw[hu] at hnp; cases hnp
  ·rw[bh (yv he hs h5 g1)];refine sS.wpIn (KP:=fun u w'=>u=u0/\∃j',Rel j' y.2 w'/\Ext j M w j' y.2 w') (zc h1) (CO hC h1 (DD g2) hr hG he ?_ ?_) ?_
   ·rintro v w' ⟨j',q1,q2,q3⟩;rw[g3] at q3;exact q3.JT.elim
   ·rintro u w' ⟨hu,h⟩;rw[g3] at hu; grind
   ·rintro u w' ⟨rfl,j',q1,q2⟩;exact hQ a w' j' q1 (he.nil q2) q2 hs rfl
  ·rw[aQ (by rw[EF he hs h5 g1 g2]; simp)]
   refine⟨fun _ _=>trivial,?_⟩
   refine xh hC rs (k+1) hkr hxr (x:=x) (by rw[<-h2]; omega) hr hG (he.put hs h4 (.tuple (vs := #[]) rfl fun i c v h=>by simp)) (by rw[wH]; omega) fun a' w'' j'' p1 p2 p3 p4 p5=>?_
   grind [put_defers]
theorem yh{acc:List Nat}{i:Nat}:∀ {es:List Edge},(wB acc es).testBit i=true->∃e,e∈es/\Region.binds .any e=true/\(e.on=i\/((nth acc e.on).getD 0).testBit i=true)
 | [],h=>by grind [wB]
 |e::r,h=>by
  rw[wB] at h;split at h
  ·rw[Nat.testBit_or,Nat.testBit_or,dj,dj] at h;rcases h with h|h|h
   ·obtain⟨e',h1,h2,h3⟩:=yh h
    grind
   ·grind
   grind
  ·obtain⟨e',h1,h2,h3⟩:=yh h
   grind
theorem BU:∀(l:List Oper)(acc:List Nat),acc <+: BT l acc/\∀(m:Nat)(o:Oper),l[m]?=some o->(BT l acc)[acc.length+m]?=some (wB ((BT l acc).take (acc.length+m)) o.after.toList)
 | [],acc=>⟨jR _,fun m o h=>by grind⟩
 |p::r,acc=>by
  rw[BT];obtain⟨h1,h2⟩:=BU r (acc++[wB acc p.after.toList]);have h3  := (List.prefix_append _ _).trans h1;refine⟨h3,fun m o hm=>?_⟩
  cases m with
  |zero =>
   simp at hm; obtain⟨t,ht⟩:=h1
   grind
  |succ m =>
   grind
def BM{ops:List Oper}{i k:Nat}{o:Oper}(hk:ops[k]?=some o)(cn:∀e,e∈o.after.toList->Region.binds .any e=true->e.on<k)(h:ahead (pK ops) i k=true) :
  ∃e,e∈o.after.toList/\Region.binds .any e=true/\e.on<k/\(e.on=i\/ahead (pK ops) i e.on=true):=by
 have h1:=(BU _ []).2 k o hk;simp at h1;unfold ahead at h;rw[fE,show pK _=BT _ _ from rfl,h1] at h
 obtain⟨e,h2,h3,h4⟩:=yh h;have h5:=cn e h2 h3;refine⟨e,h2,h3,h5,h4.imp id fun h=>?_⟩
 rw[fE,bE h5] at h;unfold ahead;rw[fE];exact h
def Down(ops:Array Oper)(L:Nat->Bool):Prop:=∀(k:Nat)(o:Oper)(e:Edge),ops[k]?=some o->L k=true->e∈o.after.toList->Region.binds .any e=true->L e.on=true
theorem BN{ops:Array Oper}{L:Nat->Bool}(hd:Down ops L)(cn:∀(k:Nat)(o:Oper)(e:Edge),ops[k]?=some o->e∈o.after.toList->Region.binds .any e=true->e.on<k) :
  ∀(k:Nat){i:Nat},ahead (pK ops.toList) i k=true->k<ops.size->L k=true->L i=true:=by
 intro k;induction k using Nat.strongRecOn with
 |_ k ih =>
  intro i h hk hL;have ho  := a8 hk;obtain⟨e,h1,h2,h3,h4⟩:=BM (by simp) (fun e h1 h2=>cn k _ e ho h1 h2) h
  have h5:=hd k _ e ho hL h1 h2
  grind
theorem Ga{ops:Array Oper}{L:Nat->Bool}(hd:Down ops L)(cn:∀(k:Nat)(o:Oper)(e:Edge),ops[k]?=some o->e∈o.after.toList->Region.binds .any e=true->e.on<k)
  {k i:Nat} {o:Oper} (ho:ops[k]?=some o) (hr:∀e,e∈o.after.toList->Region.binds .any e=true->L e.on=true) (h:ahead (pK ops.toList) i k=true):L i=true:=by
 obtain⟨e,h1,h2,h3,h4⟩:=BM (by grind) (fun e h1 h2=>cn k _ e ho h1 h2) h
 have h5:=hr e h1 h2;rcases h4 with rfl|h4
 ·omega
 grind [BN]
theorem cT{br env':Env}{x:gQ}(h:∀t,t∈x.kQ->iv br t=iv env' t):x.ev br=x.ev env':=by
 cases x with
 |tmp t=>exact h t (by simp[gQ.kQ])
 |kb v=>rfl
theorem nY{br env':Env}:∀ {l:List gQ},(∀t,t∈l.flatMap gQ.kQ->iv br t=iv env' t)->∀x,x∈l->x.ev br=x.ev env':=by grind [cT]
def rz{br env':Env}{n:Nat}{x:Option gQ}(h:∀t,t∈Aj x->iv br t=iv env' t):fy br n x=fy env' n x:=by
 cases x with
 |none=>rfl
 |some x=>unfold fy; simp only; rw[cT h]
theorem Cb{br env':Env}:∀ {ps:List (Nat×Nat×gQ)} {cs:List ag},(∀p,p∈ps->p.2.2.ev br=p.2.2.ev env')->kZ br cs ps=kZ env' cs ps
 | [],cs,_=>rfl
 |(off,n,x)::r,cs,h=>by
  unfold kZ;rw[h (off,n,x) (by simp)]
  congr 1;funext new;split
  ·exact Cb fun p hp=>h p (by grind)
  rfl
theorem yg{br env':Env}{sz:Nat}:∀ {ps:List gQ},(∀p,p∈ps->p.ev br=p.ev env')->rV br sz ps=rV env' sz ps
 | [],_=>rfl
 |x::r,h=>by
  unfold rV;rw[h x (by simp),yg fun p hp=>h p (by grind)]
theorem DB{br env':Env}{M:aH}{op:ke}(h:∀t,t∈op.kQ->iv br t=iv env' t):dX C br M op=dX C env' M op/\op.dU br=op.dU env':=by
 cases op<;>simp only[ke.kQ,bB] at h
 case mv x=>simp[dX,ke.dU,cT h]
 case own n x=>simp[dX,ke.dU,cT h]
 case pick c x y=>grind [dX,ke.dU,cT]
 case pq cs=>simp[dX,ke.dU]
 case box x=>simp[dX,ke.dU,cT h]
 case BW f l =>
  have:(l.map fun x=>(x.ev br).fS)=l.map fun x=>(x.ev env').fS:=dx fun x hx=>by rw[nY h x hx]
  simp only[dX,ke.dU,this,jT]
 case build z ps=>grind [dX,ke.dU,Cb,cT]
 case lits n ps=>simp[dX,ke.dU,yg (ps:=ps) (nY h)]
 case CD n ps=>simp[dX,ke.dU,yg (ps:=ps) (nY h)]
 case kN n x=>simp[dX,ke.dU,cT h]
 case ic x=>simp[dX,ke.dU,cT h]
 case store n x y=>simp[dX,ke.dU,cT (x:=x) fun t ht=>h t (.inl ht),cT (x:=y) fun t ht=>h t (.inr ht)]
 case Av sz p n x y=>simp[dX,ke.dU,cT (x:=x) fun t ht=>h t (.inl ht),cT (x:=y) fun t ht=>h t (.inr ht)]
 case V1 x=>simp[dX,ke.dU,cT h]
 case bin b x y=>grind [dX,ke.dU,cT]
 case Wc ks n x y=>grind [dX,ke.dU,cT]
 case eqB n x y=>simp[dX,ke.dU,cT (x:=x) fun t ht=>h t (.inl ht),cT (x:=y) fun t ht=>h t (.inr ht)]
 case not x=>simp[dX,ke.dU,cT h]
 case neg x=>simp[dX,ke.dU,cT h]
 case conv k x=>simp[dX,ke.dU,cT h]
 case same x=>simp[dX,ke.dU,cT h]
 case fn f l=>simp only[dX,ke.dU,dx (nY h),jT]
 case wK x lo hi =>
  simp only[dX,ke.dU,cT (x:=x) fun t ht=>h t (.inl ht),rz (br:=br) (env':=env') (x:=lo) fun t ht=>h t (.inr (.inl ht)),and_true]
  split
  ·rw[rz (x:=hi) fun t ht=>h t (.inr (.inr ht))]
  ·rfl
 case yt n x lo hi mx =>
  simp only[dX,ke.dU,cT (x:=x) fun t ht=>h t (.inl ht),rz (br:=br) (env':=env') (x:=lo) fun t ht=>h t (.inr (.inl ht)),and_true]
  split
  ·rw[rz (x:=hi) fun t ht=>h t (.inr (.inr (.inl ht)))]
   cases mx with
   |none=>rfl
   |some m=>simp only[cT (x:=m) fun t ht=>h t (.inr (.inr (.inr ht)))]
  ·rw[rz (x:=hi) fun t ht=>h t (.inr (.inr (.inl ht)))]
   cases mx with
   |none=>rfl
   |some m=>simp only[cT (x:=m) fun t ht=>h t (.inr (.inr (.inr ht)))]
  ·rfl
 case iR n x=>simp[dX,ke.dU,cT h]
 case zX p n x=>simp[dX,ke.dU,cT h]
 case zW p x=>simp[dX,ke.dU,cT h]
 case uJ n x y=>simp[dX,ke.dU,cT (x:=x) fun t ht=>h t (.inl ht),cT (x:=y) fun t ht=>h t (.inr ht)]
 case wj m n x y=>simp[dX,ke.dU,cT (x:=x) fun t ht=>h t (.inl ht),cT (x:=y) fun t ht=>h t (.inr ht)]
 case wk x y=>grind [dX,ke.dU,cT]
 case extract x i=>simp[dX,ke.dU,cT h]
 case call f l =>
  have:(l.map fun x=>(x.ev br).fS)=l.map fun x=>(x.ev env').fS:=dx fun x hx=>by rw[nY h x hx]
  simp only[dX,ke.dU,this,jT]
 case vx f l =>
  have:(l.map fun x=>(x.ev br).fS)=l.map fun x=>(x.ev env').fS:=dx fun x hx=>by rw[nY (fun t ht=>h t (.inr ht)) x hx]
  simp only[dX,ke.dU,this,cT (x:=f) fun t ht=>h t (.inl ht),jT]
 case AI f l=>simp only[dX,ke.dU,dx (nY h),jT]
 case vw f l =>
  have:(l.map fun x=>(x.ev br).fS)=l.map fun x=>(x.ev env').fS:=dx fun x hx=>by rw[nY h x hx]
  simp only[dX,ke.dU,this,jT]
 case zN n z x=>simp[dX,ke.dU,cT h]
 case jc f l =>
  have h1:(l.map fun x=>((x.ev br).vI M).fS)=l.map fun x=>((x.ev env').vI M).fS:=dx fun x hx=>by rw[nY h x hx]
  have h2:l.map (gQ.ev br)=l.map (gQ.ev env'):=dx (nY h);simp only[dX,ke.dU,h1,h2,jT]
 case M4 x=>simp[dX,ke.dU,cT h]
 case CC x=>simp[dX,ke.dU,cT h]
 case append n b x y=>simp[dX,ke.dU,cT (x:=x) fun t ht=>h t (.inl ht),cT (x:=y) fun t ht=>h t (.inr ht)]
 case ve n b x y=>simp[dX,ke.dU,cT (x:=x) fun t ht=>h t (.inl ht),cT (x:=y) fun t ht=>h t (.inr ht)]
 case b2s x=>simp[dX,ke.dU,cT h]
 case mkMap=>simp[dX,ke.dU]
 case look fk z ok x y=>grind [dX,ke.dU,cT]
 case gy fk c x y=>grind [dX,ke.dU,cT]
 case M1 x=>simp[dX,ke.dU,cT h]
 case NH x=>simp[dX,ke.dU,cT h]
 case Ei x=>simp[dX,ke.dU,cT h]
 case yk m x y=>simp[dX,ke.dU,cT (x:=x) fun t ht=>h t (.inl ht),cT (x:=y) fun t ht=>h t (.inr ht)]
 case wU a b c x y=>grind [dX,ke.dU,cT]
 case DH a x y=>simp[dX,ke.dU,cT (x:=x) fun t ht=>h t (.inl ht),cT (x:=y) fun t ht=>h t (.inr ht)]
 case Md a=>simp[dX,ke.dU]
 case mkS z x=>simp[dX,ke.dU,cT h]
 case Nd z x=>simp[dX,ke.dU,cT h]
 case iface t x=>simp[dX,ke.dU,cT h]
 case raise x=>simp[dX,ke.dU,cT h]
theorem yI{f:Nat}{vs:List ag}{M:aH}{x:ag×aH}(h:aM C f vs M=some x)(hn:vs.flatMap ag.ids=[]):x.2=M/\∀M2,aM C f vs M2=some (x.1,M2):=by
 have hre:∀M,reach M []=[]:=fun M=>rfl
 unfold aM at h;rw[hn,hre] at h;split at h
 ·rename_i hf;obtain⟨B,hB,h⟩:=bg h;simp only[iU] at hB;cases hB;split at h
  ·obtain⟨y,hy,h⟩:=bg h;split at h
   ·rename_i hc;cases h;have hy2:y.2=[]:=dG hc.1;refine⟨by simp[kR],fun M2=>?_⟩
    unfold aM;rw[hn,hre,bh hf];simp only[iU,bT];rw[bh (show ky M2 []=[] from rfl),hy,bT,bh hc,hy2]
    simp[kR]
   ·cases h
  ·cases h
 ·cases h
theorem Gb{op:ke}(hc:op.wm=true){br:Env}{M:aH}{x:ag×aH}(h:dX C br M op=some x)(hn:op.dU br=[]):x.2=M/\∀M2,dX C br M2 op=some (x.1,M2):=by
 cases op<;>simp only[ke.wm,af] at hc
 case call f l =>
  grind [dX,ke.dU,yI]
 case vx f l =>
  simp only[dX,ke.dU] at h hn ⊢;split at h<;>grind [yI]
theorem Lx{op:ke}(he:op.Qd=false)(hl:op.N8=false){br:Env}{M:aH}{x:ag×aH}(h:dX C br M op=some x):x.2=M/\∀M2,dX C br M2 op=some (x.1,M2):=by
 cases op<;>simp only[ke.Qd,ke.N8,reduceCtorEq] at he hl<;>simp only[dX] at h ⊢
 case wK y lo hi =>
  split at h
  ·rename_i s e;obtain⟨hh,h1,h⟩:=bg h;obtain⟨l,h2,h⟩:=bg h;obtain⟨hp,h⟩:=da h;cases h;simp_all
  ·cases h
 case yt n y lo hi mx =>
  split at h
  ·rename_i tk xs e;obtain⟨hw,h⟩:=da h;obtain⟨hh,h1,h⟩:=bg h;obtain⟨l,h2,h⟩:=bg h;split at h
   ·obtain⟨hp,h⟩:=da h;cases h;simp_all
   ·split at h
    ·rename_i k m em;obtain⟨hp,h⟩:=da h;rcases jO h with ⟨hb,h⟩|⟨hb,h⟩<;>(cases h)
     ·simp_all
     ·exact⟨rfl,fun M2=>by rw[dS hw]; simp only[h1,h2,bT,hb,nZ]; exact dS hp⟩
    ·cases h
  ·rename_i id v0 sz' al ah e;obtain⟨hw,h⟩:=da h;obtain⟨hh,h1,h⟩:=bg h;obtain⟨l,h2,h⟩:=bg h;split at h
   ·obtain⟨hp,h⟩:=da h;rcases jO h with ⟨hb,h⟩|⟨hb,h⟩<;>(cases h)
    ·simp_all
    ·exact⟨rfl,fun M2=>by rw[dS hw]; simp only[h1,h2,bT,hb,nZ]; exact dS hp⟩
   ·split at h
    ·rename_i k m em;obtain⟨hp,h⟩:=da h;rcases jO h with ⟨hb,h⟩|⟨hb,h⟩
     ·cases h;simp_all
     ·rcases jO h with ⟨hb2,h⟩|⟨hb2,h⟩<;>(cases h)
      ·exact⟨rfl,fun M2=>by rw[dS hw]; grind [bT,wD,nZ,dS]⟩
      ·exact⟨rfl,fun M2=>by rw[dS hw]; grind [bT,nZ,dS]⟩
    ·cases h
  ·cases h
 case uJ n y i =>
  split at h
  ·obtain⟨hp,h⟩:=da h;obtain⟨e,h1,h⟩:=bg h;split at h
   ·rename_i hw;cases h;simp_all
   ·cases h
  ·obtain⟨hp,h⟩:=da h;cases h;exact⟨rfl,fun M2=>by rw[dS hp]⟩
  ·cases h
 case wj m n y i =>
  split at h
  ·obtain⟨hp,h⟩:=da h;cases h;exact⟨rfl,fun M2=>by rw[dS hp]⟩
  ·obtain⟨hp,h⟩:=da h;cases h;exact⟨rfl,fun M2=>by rw[dS hp]⟩
  ·cases h
 case BW f l =>
  grind
 case wk y i =>
  split at h
  ·obtain⟨hp,h⟩:=da h;obtain⟨e,h1,h⟩:=bg h;cases h;exact⟨rfl,fun M2=>by rw[dS hp,h1,bT]⟩
  ·cases h
 case pick c y z =>
  split at h
  ·rcases jO h with ⟨rfl,h⟩|⟨rfl,h⟩<;>(cases h; exact⟨rfl,fun _=>rfl⟩)
  ·cases h
 case lits n ps =>
  obtain⟨l,h1,h⟩:=bg h;cases h;exact⟨rfl,fun M2=>by rw[h1,bT]⟩
 case iface t y =>
  split at h
  ·cases h;exact⟨rfl,fun M2=>rfl⟩
  ·obtain⟨v,hv,h⟩:=bg h;cases h;exact⟨rfl,fun M2=>by rw[hv]; rfl⟩
 case mkS z y =>
  split at h
  ·obtain⟨hp,h⟩:=da h;cases h;exact⟨rfl,fun M2=>dS hp⟩
  ·cases h
 case raise y =>
  grind
 all_goals first
  |(cases h; exact⟨rfl,fun _=>rfl⟩)
  |(obtain⟨_,ha,h⟩:=bg h; cases h; exact⟨rfl,fun _=>by rw[ha]; rfl⟩)
  |(split at h<;>first
    |(cases h; exact⟨rfl,fun _=>rfl⟩)
    |(obtain⟨_,ha,h⟩:=bg h; cases h; exact⟨rfl,fun _=>by rw[ha]; rfl⟩)
    |cases h
    |grind)
theorem HM{M M2:aH}{id:Nat}{b:dv}(hp:M <+: M2\/M2 <+: M)(hid:id<M2.length)(hb:nth M id=some b):nth M2 id=some b:=by
 rw[fE] at hb ⊢;rcases hp with ⟨t,rfl⟩|⟨t,rfl⟩
 ·rw[bA (aJ hb)]; omega
 grind
theorem Ht{op:ke}(hl:op.N8=true){br:Env}{M:aH}{x:ag×aH}(h:dX C br M op=some x):x.2=M /\
  ∀ {M2:aH} (z:gQ),(∀id b,id∈(z.ev br).ib->id<M2.length->nth M id=some b->nth M2 id=some b)->∀ {j:J} {w:World} {v:Value},(op = .ic z\/(∃n,op = .kN n z)\/∃fk zr ok k,op = .look fk zr ok z k)->fY j M2 w (z.ev br) v->dX C br M2 op=some (x.1,M2):=by
 cases op<;>simp only[ke.N8,af] at hl
 case kN n y =>
  simp only[dX] at h ⊢;split at h
  ·rename_i id off e;split at h
   ·rename_i cs hM;split at h
    ·rename_i hle;cases h;refine⟨rfl,fun {M2} z hp {j w v} hz hr=>?_⟩
     have:z=y:=by rcases hz with hz|⟨n',hz⟩|⟨_,_,_,_,hz⟩<;>cases hz<;>rfl
     subst this;rw[e] at hr;obtain⟨b,hid,_⟩:=hr.pa;rw[hp _ _ (by rw[e]; simp[ag.ib]) hid hM]
     simp only;rw[bh hle]
    ·cases h
   ·cases h
  ·grind
  ·rename_i id ver i off e;split at h
   ·rename_i sz v0 xs hM;split at h
    ·rename_i hv0;obtain⟨el,hel,h⟩:=bg h;split at h
     ·rename_i hle;cases h;refine⟨rfl,fun {M2} z hp {j w v} hz hr=>?_⟩
      have:z=y:=by rcases hz with hz|⟨n',hz⟩|⟨_,_,_,_,hz⟩<;>cases hz<;>rfl
      subst this;rw[e] at hr;obtain⟨_,hid,_⟩:=hr.rE;rw[hp _ _ (by rw[e]; simp[ag.ib]) hid hM]
      simp only[hel,bT];rw[bh hv0,bh hle]
     ·cases h
    ·cases h
   ·cases h
  ·cases h
 case ic y =>
  simp only[dX] at h ⊢;split at h
  ·rename_i id off e;split at h
   ·rename_i cs hM;obtain⟨c,hc,h⟩:=bg h;cases h;refine⟨rfl,fun {M2} z hp {j w v} hz hr=>?_⟩
    have:z=y:=by rcases hz with hz|⟨n',hz⟩|⟨_,_,_,_,hz⟩<;>cases hz<;>rfl
    subst this;rw[e] at hr;obtain⟨b,hid,_⟩:=hr.pa;rw[hp _ _ (by rw[e]; simp[ag.ib]) hid hM]
    simp only[hc,bT]
   ·cases h
  ·obtain⟨c,hc,h⟩:=bg h;cases h;exact⟨rfl,fun {M2} hp {j w v} z hz hr=>by simp only[hc,bT]⟩
  ·rename_i id ver i off e;split at h
   ·rename_i sz v0 xs hM;split at h
    ·rename_i hv0;obtain⟨el,hel,h⟩:=bg h;obtain⟨c,hc,h⟩:=bg h;cases h;refine⟨rfl,fun {M2} z hp {j w v} hz hr=>?_⟩
     have:z=y:=by rcases hz with hz|⟨n',hz⟩|⟨_,_,_,_,hz⟩<;>cases hz<;>rfl
     subst this;rw[e] at hr;obtain⟨_,hid,_⟩:=hr.rE;rw[hp _ _ (by rw[e]; simp[ag.ib]) hid hM]
     simp only[hel,hc,bT];rw[bh hv0]
    ·cases h
   ·cases h
  ·cases h
 case look fk zr ok y k =>
  simp only[dX] at h ⊢;obtain⟨e,he,h⟩:=bg h;obtain⟨r,hr',h⟩:=bg h;cases h;refine⟨rfl,fun {M2} z hp {j w v} hz hr=>?_⟩
  have:z=y:=by rcases hz with hz|⟨n',hz⟩|⟨_,_,_,_,hz⟩<;>cases hz<;>rfl
  subst this
  have:mapOf M2 (z.ev br)=some e:=by
   unfold mapOf at he ⊢;split at he
   ·rename_i id e0;rw[e0] at hr;obtain⟨b,⟨ks,vs,hm⟩,_⟩:=hr.uQ;split at he
    ·rename_i ks' vs' hM;rw[hp _ _ (by rw[e0]; simp[ag.ib]) (aJ hm) hM]
     exact he
    ·cases he
   ·exact he
   ·cases he
  rw[this,bT,hr',bT]
end
section
variable {P:Program} {C:eB} {A:De}
def IB(C:eB)(o:cQ)(br:Env)(M:aH)(v:ag)(M':aH):Prop :=
 ((∀t want,o.guard=some (t,want)->iv br t = .bool want)/\oe C o br M=some (v,M')) \/
 (∃t want,o.guard=some (t,want)/\(iv br t = .bool (!want)\/iv br t = .tuple [])/\v = .tuple []/\M'=M)
def nQ(br:Env)(l:List cQ)(vals:Nat->ag)(L:Nat->Bool):Nat->Env
 |0=>br
 |k+1=>match l[k]? with
  |some o=>if L k then ph (nQ br l vals L k) o.dst (vals k) else nQ br l vals L k
  |none=>nQ br l vals L k
theorem zU(br:Env)(o:cQ)(r:List cQ)(vals:Nat->ag):∀k,nQ br (o::r) vals (fun _=>true) (k+1)=nQ (ph br o.dst (vals 0)) r (fun i=>vals (i+1)) (fun _=>true) k
 |0=>rfl
 |k+1=>by
  rw[nQ,zU _ o r _ k];rfl
def Zp(l:List cQ)(br:Env)(vals:Nat->ag)(mems:Nat->aH)(N:Nat)(x:Out):Prop :=
 (N=l.length/\(∀k,k<N->(vals k).jx=false)/\x=⟨.normal,nQ br l vals (fun _=>true) N,mems N⟩) \/
 ∃n y v,N=n+1/\l[n]?=some y/\y.lets=true/\vals n = .mw v/\(∀k,k<n->(vals k).jx=false)/\x=⟨.mw v,[],mems N⟩
theorem trace:∀ {l:List cQ} {br:Env} {M:aH} {x:Out},fK C l br M=some x->∃(N:Nat) (vals:Nat->ag) (mems:Nat->aH),N<=l.length/\mems 0=M /\
  (∀(k:Nat)(o:cQ),k<N->l[k]?=some o->IB C o (nQ br l vals (fun _=>true) k) (mems k) (vals k) (mems (k+1)))/\Zp l br vals mems N x
 | [],br,M,x,h=>by
  simp only[fK] at h; injection h with h
  exact⟨0,fun _ => .any,fun _=>M,aC _,rfl,fun k o hk=>by simp,.inl ⟨rfl,fun k hk=>by rfl,h.symm⟩⟩
 |o::r,br,M,x,h=>by
  have key:∀(v:ag)(M':aH),IB C o br M v M'->v.jx=false->fK C r (ph br o.dst v) M'=some x->∃(N:Nat) (vals:Nat->ag) (mems:Nat->aH),N<=(o::r).length/\mems 0=M /\
    (∀(k:Nat)(p:cQ),k<N->(o::r)[k]?=some p->IB C p (nQ br (o::r) vals (fun _=>true) k) (mems k) (vals k) (mems (k+1)))/\Zp (o::r) br vals mems N x:=by
   intro v M' hs hnp hr;obtain⟨N,vals,mems,h0,h1,h2,h3⟩:=trace hr;refine⟨N+1,fun i=>match i with|0=>v|i+1=>vals i,fun i=>match i with|0=>M|i+1=>mems i,by simpa using h0,rfl,fun k p hk hp=>?_,?_⟩
   ·grind [nQ,zU]
   ·have np:∀n,(∀k,k<n->(vals k).jx=false)->∀k,k<n+1->((fun i=>match i with|0=>v|i+1=>vals i:Nat->ag) k).jx=false:=by
     grind
    rcases h3 with ⟨e1,e2,e3⟩|⟨n,y,u,e1,e2,e3,e4,e5,e6⟩
    ·refine .inl ⟨by simp[e1],np N e2,?_⟩
     rw[zU]; omega
    ·exact .inr ⟨n+1,y,u,by rw[e1],by simpa using e2,e3,e4,np n e5,e6⟩
  rcases o6 h with ⟨y,h1,h2,⟨h3,h4⟩|⟨v,h3,h4,rfl⟩⟩|⟨t,want,h1,h2,h3⟩
  ·exact key y.1 y.2 (.inl ⟨h1,h2⟩) h3 h4
  ·refine⟨1,fun _=>y.1,fun i=>match i with|0=>M|_=>y.2,by simp,rfl,fun k p hk hp=>?_,.inr ⟨0,o,v,rfl,rfl,h3,h4,fun k hk=>by omega,rfl⟩⟩
   have:k=0:=by omega
   subst this;simp at hp; subst hp;exact .inl ⟨h1,h2⟩
  ·exact key (.tuple []) M (.inr ⟨t,want,h1,h2,rfl,rfl⟩) rfl h3
section
variable {br:Env} {l:List cQ} {vals:Nat->ag} {L L':Nat->Bool} {t:Nat}
def wr(l:List cQ)(k t:Nat):Prop:=∃o,l[k]?=some o/\o.dst=some t
theorem KB(k:Nat)(h:wr l k t)(hL:L k=true):iv (nQ br l vals L (k+1)) t=vals k:=by
 obtain⟨o,h1,h2⟩:=h;rw[nQ];simp_all [ph,iv]
theorem zV(k:Nat)(h:¬(wr l k t/\L k=true)):iv (nQ br l vals L (k+1)) t=iv (nQ br l vals L k) t:=by
 rw[nQ];split
 ·rename_i o ho;split
  ·rename_i hk;unfold ph;split
   ·rename_i d hd;rw[iv,aQ];rintro rfl;exact h ⟨⟨o,ho,hd⟩,hk⟩
   rfl
  rfl
 rfl
def uF{i:Nat}:∀n,i<=n->(∀k,i<=k->k<n->¬(wr l k t/\L k=true))->iv (nQ br l vals L n) t=iv (nQ br l vals L i) t
 |0,hi,_=>by rw[show i=0 by omega]
 |n+1,hi,h=>by
  by_cases he:i=n+1
  ·rw[he]
  ·rw[zV n (h n (by omega) (by simp))]
   exact uF n (by omega) fun k h1 h2=>h k h1 (by omega)
theorem w7:∀n,(∀k,k<n->wr l k t->L k=L' k)->iv (nQ br l vals L n) t=iv (nQ br l vals L' n) t
 |0,_=>rfl
 |n+1,h=>by
  have ih:=w7 n fun k hk=>h k (by omega)
  by_cases hw:wr l n t
  ·cases hL:L n<;>grind [KB,zV]
  grind [zV]
end
def left(L:Nat->Bool):Nat->Nat
 |0=>0
 |k+1=>left L k+if L k then 0 else 1
theorem Ec{L:Nat->Bool}:∀ {n},left L n=0->∀k,k<n->L k=true
 |0,_,k,hk=>by omega
 |n+1,h,k,hk=>by
  rw[left] at h
  by_cases he:k=n
  ·grind
  ·exact Ec (n:=n) (by omega) k (by omega)
theorem Hp{L L':Nat->Bool}{i:Nat}(hi:L i=false)(hi':L' i=true)(hne:∀k,k≠i->L' k=L k):∀n,left L n=left L' n+if i<n then 1 else 0
 |0=>by rfl
 |n+1=>by
  have ih:=Hp hi hi' hne n;rw[left,left]
  grind
theorem xO{bs:List Nat}{l:List cQ}:∀(r:List cQ)(k m:Nat)(y:cQ),(pc bs l k r)[m]?=some y->∃x,r[m]?=some x/\y.dst=x.dst/\y.op=x.op/\y.guard=x.guard
 | [],k,m,y,h=>by simp_all [pc]
 |x::r,k,m,y,h=>by
  rw[pc] at h;cases m with
  |zero=>grind
  |succ m =>
   obtain⟨z,h1,h2⟩:=xO r _ m y (by simpa using h)
   grind
def xP{bs:List Nat}{l:List cQ}:∀(r:List cQ)(k:Nat),(pc bs l k r).length=r.length
 | [],_=>rfl
 |x::r,k=>by rw[pc,au,xP r _,au]
theorem BZ{ops:Array Oper}:∀ {r:List Oper} {g:List Bool} {l:List cQ},sX P A ops g r=some l->l.length=r.length/\∀(k:Nat)(o:Oper),r[k]?=some o->∃x b,l[k]?=some x/\Ks P A ops b o=some x
 | [],g,l,h=>by grind [sX]
 |o::r,g,l,h=>by
  obtain⟨x,hx,h⟩:=aZ h;obtain⟨l',hl,h⟩:=aZ h;injection h with h; obtain⟨h1,h2⟩:=BZ hl
  grind
structure Ord(ops:Array Oper)(l:List cQ):Prop where
 len:l.length=ops.size
 V7:∀(k:Nat)(o:Oper)(e:Edge),ops[k]?=some o->e∈o.after.toList->Region.binds .any e=true->e.on<k
 alone:∀(k:Nat)(y:cQ),l[k]?=some y->y.vD=true->y.op.wm=true
 opl:∀(k:Nat)(y:cQ),l[k]?=some y->JU y.op=true
 ZK:∀(k i:Nat)(y x:cQ),l[k]?=some y->y.tG=true->y.grow=false->l[i]?=some x->x.op.N8=true->(i<k->ahead (pK ops.toList) i k=true)/\(k<i->ahead (pK ops.toList) k i=true)
 sep:∀(k i:Nat)(y x:cQ),l[k]?=some y->y.sep≠[]->l[i]?=some x->x.op.N8=true->(k<i->ahead (pK ops.toList) k i=true)/\(i<k->ahead (pK ops.toList) i k=true\/∃z,x.op.LJ=some z/\z∈y.sep/\alj l i k z=true)
 meet:∀(i k:Nat)(x y:cQ),i<k->l[i]?=some x->l[k]?=some y->meet x y=true->ahead (pK ops.toList) i k=true
 stop:∀(i k:Nat)(y:cQ),l[k]?=some y->y.lets=true->i<l.length->(k<i->ahead (pK ops.toList) k i=true)/\(i<k->ahead (pK ops.toList) i k=true\/∀x,l[i]?=some x->x.op.Qd=false)
 eff:∀(i k:Nat)(x y:cQ),i<k->l[i]?=some x->l[k]?=some y->x.tG=true->y.tG=true->ahead (pK ops.toList) i k=true\/(AV ops l i=true/\AV ops l k=true)
theorem afv{ops:Array Oper}{l:List cQ}(dR:l.length=ops.size)(h:Fx ops (pK ops.toList) l=true):Ord ops l:=by
 unfold Fx at h
 have hk:∀(k:Nat)(y:cQ)(o:Oper),l[k]?=some y->ops[k]?=some o->(o.after.toList.all (fun e => !Region.binds .any e||decide (e.on<k))=true/\((!y.vD||y.op.wm)&&JU y.op)=true/\((!(y.tG && !y.grow)||fenced (pK ops.toList) l k)&&(y.sep.isEmpty||BF (pK ops.toList) l k y.sep))=true/\(!y.lets||Kb (pK ops.toList) l k)=true) /\
   ∀(i:Nat)(x:cQ),i<k->l[i]?=some x->(!Go.Abs.meet x y||ahead (pK ops.toList) i k)=true/\(!(x.tG&&y.tG)||(ahead (pK ops.toList) i k||(AV ops l i&&AV ops l k)))=true:=by
  intro k y o hy ho;have h1:=bH.1 h k (jb.2 (aJ hy));rw[fE,hy,ho] at h1;rw[bm,bm,bm] at h1;obtain⟨⟨⟨a1,a2⟩,a3⟩,a45⟩:=h1;rw[bm] at a45;obtain⟨a5,a4⟩:=a45;refine⟨⟨a1,a2,a3,a5⟩,fun i x hi hx=>?_⟩
  have h2:=bH.1 a4 i (jb.2 hi);rw[fE,hx] at h2;simpa[bm] using h2
 have hop:∀k,k<l.length->∃o,ops[k]?=some o:=fun k hk=>⟨ops[k]'(by omega),a8 (by omega)⟩
 refine⟨dR,fun k o e ho he hb=>?_,fun k y hy hn=>?_,fun k y hy=>?_,fun k i y x hy hE hg hx hl=>?_,fun k i y x hy hsp hx hl=>?_,fun i k x y hi hx hy hm=>?_,fun i k y hy hl hi=>?_,fun i k x y hi hx hy hE hE'=>?_⟩
 ·grind
 ·grind
 ·obtain⟨o,ho⟩:=hop k (aJ hy);have:=(hk k y o hy ho).1.2.1;rw[bm] at this;exact this.2
 ·obtain⟨o,ho⟩:=hop k (aJ hy);have h1:=(bm _ _▸(hk k y o hy ho).1.2.2.1:_/\_).1;have h2:fenced (pK ops.toList) l k=true:=by simpa[hE,hg] using h1
  have h3:=bH.1 h2 i (jb.2 (aJ hx));rw[fE,hx] at h3;simp only[hl,di,cY] at h3;refine⟨fun hik=>by rw[bh hik] at h3; exact h3,fun hki=>?_⟩
  rw[aQ (by omega)] at h3
  have:¬i=k:=by omega
  simpa[this] using h3
 ·obtain⟨o,ho⟩:=hop k (aJ hy);have h1:=(bm _ _▸(hk k y o hy ho).1.2.2.1:_/\_).2
  have h2:BF (pK ops.toList) l k y.sep=true:=by
   grind
  have h3:=bH.1 h2 i (jb.2 (aJ hx));rw[fE,hx] at h3;simp only[hl,di,cY] at h3;refine⟨fun hki=>?_,fun hik=>?_⟩
  ·have hne:(i==k)=false:=by simp; omega
   rw[hne,aQ (by omega),cY] at h3
   exact h3
  ·have hne:(i==k)=false:=by simp; omega
   rw[hne,bh hik,cY,dj] at h3;rcases h3 with h3|h3
   ·exact .inl h3
   ·right;split at h3
    ·rename_i z hz;rw[bm] at h3;exact⟨z,hz,by simpa using h3.1,h3.2⟩
    ·cases h3
 ·obtain⟨o,ho⟩:=hop k (aJ hy);have:=((hk k y o hy ho).2 i x hi hx).1;simpa[hm] using this
 ·obtain⟨o,ho⟩:=hop k (aJ hy);have h1:=(hk k y o hy ho).1.2.2.2;rw[hl,di,cY] at h1;have h2:=bH.1 h1 i (jb.2 hi);refine⟨fun hki=>?_,fun hik=>?_⟩
  ·have hne:(i==k)=false:=by simp; omega
   rw[hne,aQ (by omega),cY] at h2
   exact h2
  ·have hne:(i==k)=false:=by simp; omega
   rw[hne,bh hik,cY,dj] at h2;refine h2.imp id fun h3 x hx=>?_
   rw[fE,hx] at h3;simpa using h3
 ·obtain⟨o,ho⟩:=hop k (aJ hy);have:=((hk k y o hy ho).2 i x hi hx).2;simpa[hE,hE'] using this
structure E0(n:Nat)(mems:Nat->aH)(E A:Nat->Bool)(L:Nat->Bool)(q:Nat)(G:aH):Prop where
 qn:q<=n
 last:q=0\/∃p,q=p+1/\E p=true/\L p=true
 rest:∀k,q<=k->k<n->E k=true->L k=false
 len:G.length=(mems q).length
 at':∀id:Nat,G[id]?=(mems q)[id]?\/(G[id]?=some .u6/\∃k,k<q/\A k=true/\L k=false/\(mems k).length=id)
 un:∀k,k<q->A k=true->L k=false->G[(mems k).length]?=some .u6
theorem E0.full{n:Nat}{mems:Nat->aH}{E A L:Nat->Bool}{q:Nat}{G:aH}(g:E0 n mems E A L q G)(h:∀k,k<q->A k=true->L k=true):G=mems q:=by
 apply dL;intro id;rcases g.at' _ with h1|⟨_,k,h1,h2,h3,_⟩
 ·omega
 grind
theorem fY.afe{j:J}{M:aH}{w:World}{x:ag}{v:Value}(h:fY j M w x v){id:Nat}(hid:id∈x.ib):M[id]?≠some .u6:=by
 intro hg;cases h with
 |plain h=>cases h<;>simp[ag.ib] at hid
 |c0=>simp_all [ag.ib]
 |own hk=>grind [ag.ib]
 |agg=>grind [ag.ib]
 |tuple=>simp[ag.ib] at hid
 |ptr _ hc=>grind [ag.ib]
 |iP=>simp_all [ag.ib]
 |func=>simp_all [ag.ib]
 |gP hc=>grind [ag.ib]
 |jq hc=>grind [ag.ib]
 |iL=>grind [ag.ib]
 |cN _ _ hM=>simp[ag.ib] at hid; subst hid; cases hM _ hg
 |iH _ _ hM=>simp[ag.ib] at hid; subst hid; cases hM _ hg
 |pC=>simp[ag.ib] at hid
 |jE hc=>grind [ag.ib]
 |any=>simp_all [ag.ib]
def vp{mems:Nat->aH}{i:Nat}:∀n,i<=n->(∀k,i<=k->k<n->mems k <+: mems (k+1))->mems i <+: mems n
 |0,hi,_=>by rw[show i=0 by omega]; simp
 |n+1,hi,h=>by
  by_cases he:i=n+1
  ·rw[he]; simp
  ·exact(vp n (by omega) fun k h1 h2=>h k h1 (by omega)).trans (h n (by omega) (by simp))
def cm.CN{j:J}{M:aH}{w:World}{br env':Env}{a:Act}(h:cm j M w br a)(he:∀t,iv env' t=iv br t):cm j M w env' a:=⟨fun t=>by rw[he t]; exact h.at' t,h.gl⟩
theorem HQ(hmix:P.follows .mixedOrders=true)(hC:oQ P C){rd:Option Nat}{nd:Nat}{id:Nat}{ops:Array Oper}{l0 l:List cQ}(hl0:sX P A ops [] ops.toList=some l0)(hg:Ai ops l0=some l)
  {br:Env} {M:aH} {x:Out} (hx:fK C l br M=some x) {j:J} {w:World} {a:Act} (hr:Rel j M w) (hG:rT j M w) (he:cm j M w br a) (hs:a.tmps.size=A.n) {Q:Exit->Act->World->Prop}
  (hQ:∀a' w' j',Rel j' x.mem w'->cm j' x.mem w' x.br a'->Ext j M w j' x.mem w'->a'.tmps.size=A.n->a'.defers=a.defers->Q (qq x.e) a' w'):(Code.region id ops true).wpIn (Wd rd) nd P Q a w:=by
 obtain⟨c1,c2⟩:=BZ hl0;have hlen0:l0.length=ops.size:=by simpa using c1
 unfold Ai at hg;split at hg
 case isFalse=>cases hg
 rename_i hok;injection hg with hg
 rw[hg] at hok;have dR:l.length=ops.size:=by rw[<-hg,xP]; exact hlen0
 have od:=afv dR hok
 have hop:∀(k:Nat)(y:cQ),l[k]?=some y->∃o x0 b,ops[k]?=some o/\Ks P A ops b o=some x0/\y.dst=x0.dst/\y.op=x0.op/\y.guard=x0.guard:=by
  intro k y hy;rw[<-hg] at hy;obtain⟨x0,h1,h2,h3,h4⟩:=xO _ _ _ _ hy;have hk:k<ops.size:=by rw[<-hlen0]; exact aJ h1
  have ho:ops[k]?=some ops[k]:=a8 hk;obtain⟨x1,b,h5,h6⟩:=c2 k ops[k] (by simp[hk])
  rw[h1] at h5; cases h5;exact⟨_,x0,b,ho,h6,h2,h3,h4⟩
 obtain⟨N,vals,mems,hN,m0,st,hxe⟩:=trace hx
 let E:Nat->Bool:=fun k=>match l[k]? with|some y=>y.tG|none=>false
 have hE:∀ {k:Nat} {y:cQ},l[k]?=some y->E k=y.tG:=fun {k y} h=>by simp only[E,h]
 have hEs:∀ {k:Nat},E k=true->∃y,l[k]?=some y/\y.tG=true:=fun {k} h=>by
  simp only[E] at h;split at h
  ·exact⟨_,by assumption,h⟩
  ·cases h
 -- memory stays at what is no effect,and grows at what may
 have stays:∀k,k<N->E k=false->mems (k+1)=mems k:=by
  intro k hkN hEk;have hk:k<l.length:=by omega
  have hy:=ai hk;rw[hE hy] at hEk;rcases st k _ hkN hy with ⟨_,h⟩|⟨_,_,_,_,_,h⟩
  ·rcases qV h with ⟨hn,hi,h1⟩|⟨hn,_,h1⟩|⟨hn,_,_,h1⟩
   ·exact(Gb (od.alone k _ hy hn) h1 hi).1
   all_goals
    have hE0:l[k].op.Qd=false:=by simpa[cQ.tG,hn] using hEk
    cases hl:l[k].op.N8 with
    |true=>exact(Ht hl h1).1
    |false=>exact(Lx hE0 hl h1).1
  ·exact h
 have grows:∀k (y:cQ),k<N->l[k]?=some y->y.tG=true->y.grow=true->mems k <+: mems (k+1)\/(y.sep≠[]/\wI (nQ br l vals (fun _=>true) k) (mems k) (mems (k+1)) y.sep):=by
  intro k y hkN hy hEy hgr;rcases st k y hkN hy with ⟨_,h⟩|⟨_,_,_,_,_,h⟩
  ·rcases qV h with ⟨hn,_,_⟩|⟨_,hg',_⟩|⟨_,_,hp,_⟩
   ·simp[cQ.tG,hn] at hEy
   ·rw[hgr] at hg'; cases hg'
   ·exact hp
  ·rw[h]; exact .inl (jR _)
 let A0:Nat->Bool:=AV ops l
 have hA:∀k,k<N->A0 k=true->∃(y:cQ) (o:Oper) (V:Nat->ag) (B:dv),l[k]?=some y/\ops[k]?=some o/\y.guard=none/\E k=true/\vals k=V (mems k).length/\mems (k+1)=mems k++[B]/\(V (mems k).length).jx=false /\
   ∀ {env':Env} {j:J} {G:aH} {w:World} {a:Act} {p:Nat} {K:Act->World->Prop} {KP:Value->World->Prop},(∀t,t∈y.op.kQ->iv env' t=iv (nQ br l vals (fun _=>true) k) t)->Rel j G w->rT j G w->cm j G w env' a->G[p]?=some .u6 ->
    (∀v w',iI j G w (V p,G.set p B) v w'->K (a.put o.dst v) w')->sS P o a w K KP:=by
  intro k hkN hAk;have hk:k<l.length:=by omega
  obtain⟨y,hy⟩:∃y,l[k]?=some y:=⟨_,ai hk⟩;obtain⟨o,ho⟩:∃o,ops[k]?=some o:=⟨_,a8 (by omega)⟩
  obtain⟨o',x0,b,ho',hco,f1,f2,f3⟩:=hop k _ hy;rw[ho] at ho'; cases ho';obtain⟨g1,_⟩:=zL hco;rw[<-f2] at g1;simp only[A0,AV,ho,fE,hy,bm,Option.isNone_iff_eq_none] at hAk;obtain⟨k2,k3⟩:=hAk
  have h1:dX C (nQ br l vals (fun _=>true) k) (mems k) y.op=some (vals k,mems (k+1)):=by
   rcases st k y hkN hy with ⟨_,h⟩|⟨t',want,h,_⟩
   ·rcases qV h with ⟨_,_,h1⟩|⟨_,_,h1⟩|⟨_,_,_,h1⟩<;>exact h1
   ·rw[k3] at h; cases h
  have hnm:y.op.wm=false->y.vD=false:=fun hc=>by
   cases hn:y.vD with
   |false=>rfl
   |true=>have:=od.alone k y hy hn; rw[hc] at this; cases this
  split at k2
  ·rename_i cs hcs;split at k2
   case h_2=>cases k2
   rename_i t hot;have hn:=hnm (by rw[hcs]; rfl)
   rw[hcs] at h1 g1;simp only[dX] at h1;injection h1 with h1
   refine⟨y,o,fun p => .ptr p 0,.cells cs,hy,ho,k3,by rw[hE hy]; simp[cQ.tG,hn,hcs,ke.Qd],(congrArg Prod.fst h1).symm,(congrArg Prod.snd h1).symm,rfl,fun {env' j G w a p K KP} _ hr hG he hp hK=>?_⟩
   obtain⟨us,tt,hRC,hRan⟩:=L7 hot g1 a w;exact .inl ⟨_,_,hRan,hK _ _ (Pm hr hp (hRC _ _ _) tt)⟩
  ·rename_i f args hcs;split at k2
   case h_2=>cases k2
   rename_i c hot;split at k2
   case h_2=>cases k2
   rename_i f0 hcal;have hn:=hnm (by rw[hcs]; rfl)
   rw[hcs] at h1 g1;obtain⟨xs,sz,n,hx0,_⟩:=xZ hC hot hcal g1 h1;refine⟨y,o,fun p => .slice (.own p) xs,.tick sz n,hy,ho,k3,by rw[hE hy]; simp[cQ.tG,hn,hcs,ke.Qd],congrArg Prod.fst hx0,congrArg Prod.snd hx0,rfl,fun {env' j G w a p K KP} hag hr hG he hp hK=>?_⟩
   have h2:dX C env' (mems k) (.vw f args)=some (vals k,mems (k+1)):=by
    rw[(DB (C:=C) (M:=mems k) (op := .vw f args) fun t ht=>hag t (by rw[hcs]; exact ht)).1]
    exact h1
   obtain⟨xs',sz',n',hx1,hrun⟩:=xZ hC hot hcal g1 h2;rw[hx0] at hx1;injection hx1 with e1 e2
   injection e1 with _ e1
   have e3:=List.append_cancel_left e2;injection e3 with e3 _
   injection e3 with e3 e4
   subst e1; subst e3; subst e4;exact hrun hr hG he hp hK
  ·cases k2
 have hAE:∀k,k<N->A0 k=true->E k=true:=fun k hk h=>by
  obtain⟨y,o,V,B,_,_,_,h1,_⟩:=hA k hk h;exact h1
 -- where nothing but boxes is made memory grows
 have pref:∀a b,a<=b->b<=N->(∀k,a<=k->k<b->E k=true->A0 k=true)->mems a <+: mems b:=fun a b hab hb hk=>vp b hab fun k h1 h2=>by
  cases hEk:E k with
  |false=>rw[stays k (by omega) hEk]; exact jR _
  |true =>
   obtain⟨y,o,V,B,_,_,_,_,_,h3,_⟩:=hA k (by omega) (hk k h1 h2 hEk)
   rw[h3]; exact List.prefix_append _ _
 have same:∀a b,a<=b->b<=N->(∀k,a<=k->k<b->E k=false)->mems b=mems a:=by
  intro a b hab;induction b with
  |zero=>intro _ _; rw[show a=0 by omega]
  |succ b ih =>
   intro hb hk
   by_cases he:a=b+1
   ·rw[he]
   ·rw[stays b (by omega) (hk b (by omega) (by omega)),ih (by omega) (by omega) fun k h1 h2=>hk k h1 (by omega)]
 -- where a box of that length is made
 have posn:∀a b,a<=b->b<=N->(∀k,a<=k->k<b->E k=true->A0 k=true)->∀id,(mems a).length<=id->id<(mems b).length->∃k,a<=k/\k<b/\A0 k=true/\(mems k).length=id:=by
  intro a b hab;induction b with
  |zero=>intro _ _ id h1 h2; rw[show a=0 by omega] at h1; omega
  |succ b ih =>
   intro hb hk id h1 h2
   by_cases he:a=b+1
   ·rw[he] at h1; omega
   ·cases hEb:E b with
    |false =>
     rw[stays b (by omega) hEb] at h2
     obtain⟨k,g1,g2,g3⟩:=ih (by omega) (by omega) (fun k h1 h2=>hk k h1 (by omega)) id h1 h2
     exact⟨k,g1,by omega,g3⟩
    |true =>
     have hAb:=hk b (by omega) (by omega) hEb
     obtain⟨y,o,V,B,_,_,_,_,_,h3,_⟩:=hA b (by omega) hAb
     rw[h3] at h2;simp only[aD,au,av] at h2
     by_cases hid:id<(mems b).length
     ·obtain⟨k,g1,g2,g3⟩:=ih (by omega) (by omega) (fun k h1 h2=>hk k h1 (by omega)) id h1 hid
      exact⟨k,g1,by omega,g3⟩
     ·exact⟨b,by omega,by omega,hAb,by omega⟩
 refine wpIn_region_any hmix ?_
 have key:∀(fuel:Nat)(listed:Array Bool)(a1:Act)(w1:World),listed.size=ops.size->left (fun k=>listed.getD k false) l.length=fuel->Down ops (fun k=>listed.getD k false)->(∀k,k<l.length->listed.getD k false=true->k<N/\(vals k).jx=false) ->
   (∃j1 q G,E0 l.length mems E A0 (fun k=>listed.getD k false) q G/\Rel j1 G w1/\cm j1 G w1 (nQ br l vals (fun k=>listed.getD k false) l.length) a1 /\
    Ext j M w j1 G w1/\a1.tmps.size=A.n/\a1.defers=a.defers)->wpAnyIn (Wd rd) nd P .any ops Q fuel listed a1 w1:=by
  have ends:∀(listed:Array Bool)(a1:Act)(w1:World),(∀k,k<l.length->listed.getD k false=true) ->
    (∃j1 q G,E0 l.length mems E A0 (fun k=>listed.getD k false) q G/\Rel j1 G w1/\cm j1 G w1 (nQ br l vals (fun k=>listed.getD k false) l.length) a1 /\
    Ext j M w j1 G w1/\a1.tmps.size=A.n/\a1.defers=a.defers)->(∀k,k<l.length->listed.getD k false=true->k<N/\(vals k).jx=false)->Q .normal a1 w1:=by
   intro listed a1 w1 hall hI hin;obtain⟨j1,q,G,gp,r1,e1,x1,s1,d1⟩:=hI;rcases hxe with ⟨n1,_,n3⟩|⟨n,y,v,n1,n2,_,n4,_,_⟩
   ·have hm:G=mems l.length:=by
     have hqn:=gp.qn;rw[gp.full fun k hk _=>hall k (by omega),same q l.length gp.qn (by omega) fun k h1 h2=>?_]
     cases hEk:E k with
     |false=>rfl
     |true =>
      have:=gp.rest k h1 h2 hEk;rw[hall k h2] at this; cases this
    rw[hm] at r1 e1 x1;rw[n3,n1] at hQ;exact hQ a1 w1 j1 r1 (e1.CN fun t=>w7 _ fun k hk _=>(hall k hk).symm) x1 s1 d1
   ·have hnl:=aJ n2;have:=(hin n hnl (hall n hnl)).2;rw[n4] at this; cases this
  intro fuel;induction fuel with
  |zero =>
   intro listed a1 w1 hsz hleft hd hin hI;have hall:=Ec hleft;refine⟨?_,ends listed a1 w1 hall hI hin⟩;apply List.eq_nil_iff_forall_not_mem.2;intro i hi;obtain⟨h1,oi,h2,_⟩:=mem_ready.1 hi;have hil:i<l.length:=by rw[dR]; exact(fj.1 h2).1
   have h3:=hall i hil;simp only[dh] at h1 h3;have:i<listed.size:=by omega
   rw[a8 this] at h1 h3;simp at h1 h3;rw[h1] at h3; cases h3
  |succ fuel ih =>
   intro listed a1 w1 hsz hleft hd hin hI;refine⟨fun hnil=>?_,fun i hi=>?_⟩
   ·refine ends listed a1 w1 ?_ hI hin;intro k;induction k using Nat.strongRecOn with
    |_ k ihk =>
     intro hk;cases hL:listed.getD k false with
     |true=>rfl
     |false =>
      exfalso;have hks:k<ops.size:=by omega
      have ho:ops[k]?=some ops[k]:=a8 hks
      have:k∈Region.ready .any ops listed:=by
       refine mem_ready.2 ⟨?_,_,ho,fun e he hb=>?_⟩
       ·simp only[dh] at hL ⊢;have hkl:k<listed.size:=by omega
        rw[a8 hkl] at hL ⊢;simpa using hL
       ·have:=od.V7 k _ e ho (by simpa using he) hb
        exact ihk e.on this (by omega)
      rw[hnil] at this;cases this
   ·obtain⟨hun0,o,ho,hall⟩:=mem_ready.1 hi;obtain⟨j1,q,G,gp,r1,e1,x1,s1,d1⟩:=hI;have his:i<ops.size:=(fj.1 ho).1;have hil:i<l.length:=by omega
    have hils:i<listed.size:=by omega
    have hLi:listed.getD i false=false:=by
     simp only[dh] at hun0 ⊢;rw[a8 hils] at hun0 ⊢;simpa using hun0
    have hL'i:(listed.setIfInBounds i true).getD i false=true:=by
     simp only[dh,gG,hils,aG];rfl
    have hL'ne:∀k,k≠i->(listed.setIfInBounds i true).getD k false=listed.getD k false:=fun k hk=>by
     simp only[dh,fh (eY hk)]
    have hy:=ai hil;obtain⟨o',x0,b,ho',hco,f1,f2,f3⟩:=hop i _ hy;rw[ho] at ho'; cases ho';obtain⟨g1,g2,_,g4,g5⟩:=zL hco;rw[<-f2] at g1;rw[<-f1] at g2;rw[<-f3] at g5;generalize hyy:l[i]=y at *;have hall':∀e,e∈o.after.toList->Region.binds .any e=true->listed.getD e.on false=true:=fun e h1 h2=>hall e (by simpa using h1) h2
    have rdy:∀k,ahead (pK ops.toList) k i=true->listed.getD k false=true:=fun k h=>Ga (L:=fun k=>listed.getD k false) hd od.V7 ho hall' h
    have nol:∀k,k<l.length->ahead (pK ops.toList) i k=true->listed.getD k false=false:=fun k hk h=>by
     cases hL:listed.getD k false with
     |false=>rfl
     |true =>
      have:=BN (L:=fun k=>listed.getD k false) hd od.V7 k h (by omega) hL
      rw[hLi] at this; cases this
    have hiN:i<N:=by
     rcases bF i N with h|h
     ·exact h
     rcases hxe with ⟨n1,_,_⟩|⟨n,y',v,n1,n2,n3,n4,_,_⟩
     ·omega
     ·have h5:=rdy n ((od.stop i n y' n2 n3 hil).1 (by omega))
      have:=(hin n (aJ n2) h5).2;rw[n4] at this; cases this
    have agree:∀t,t∈y.reads->iv (nQ br l vals (fun k=>listed.getD k false) l.length) t=iv (nQ br l vals (fun _=>true) i) t:=by
     intro t ht;refine(uF l.length (Nat.le_of_lt hil) fun k h1 h2=>?_).trans (w7 i fun k hk hw=>?_)
     ·rintro⟨⟨x',hx',hdx⟩,hLk⟩
      by_cases hki:k=i
      ·subst hki; rw[hLi] at hLk; cases hLk
      ·have hm:meet y x'=true:=by simp[meet,hdx,ht]
       rw[nol k h2 (od.meet i k y x' (by omega) hy hx' hm)] at hLk
       cases hLk
     ·obtain⟨x',hx',hdx⟩:=hw;have hm:meet x' y=true:=by simp[meet,hdx,ht]
      exact rdy k (od.meet k i x' y hk hx' hy hm)
    have newEnv:∀t,iv (nQ br l vals (fun k=>(listed.setIfInBounds i true).getD k false) l.length) t=iv (ph (nQ br l vals (fun k=>listed.getD k false) l.length) y.dst (vals i)) t:=by
     intro t
     by_cases hdt:y.dst=some t
     ·rw[hdt];simp only[ph,iv,aG];rw[uF (i:=i+1) l.length (by omega) fun k h1 h2=>?_]
      ·exact KB i ⟨y,hy,hdt⟩ hL'i
      ·rintro⟨⟨x',hx',hdx⟩,hLk⟩;rw[hL'ne k (by omega)] at hLk
       have hm:meet y x'=true:=by simp[meet,hdt,hdx]
       rw[nol k h2 (od.meet i k y x' (by omega) hy hx' hm)] at hLk
       cases hLk
     ·have e2:iv (ph (nQ br l vals (fun k=>listed.getD k false) l.length) y.dst (vals i)) t=iv (nQ br l vals (fun k=>listed.getD k false) l.length) t:=by
       unfold ph;split
       ·rename_i d hd';rw[iv,aQ];rintro rfl;exact hdt hd'
       ·rfl
      rw[e2];refine w7 _ fun k _ hw=>hL'ne k ?_
      rintro rfl;obtain⟨x',hx',hdx⟩:=hw;rw[hy] at hx'; cases hx';exact hdt hdx
    have hqN:q<=N:=by
     rcases gp.last with h|⟨p,hp1,hp2,hp3⟩
     ·omega
     ·obtain⟨z0,hz0,_⟩:=hEs hp2;have:=(hin p (aJ hz0) hp3).1;omega
    -- effects that are ordered
    have effA:∀a b,a<b->E a=true->E b=true->(A0 a=false\/A0 b=false)->ahead (pK ops.toList) a b=true:=by
     intro a b hab ha hb hn;obtain⟨x',hx',hE'⟩:=hEs ha;obtain⟨y',hy',hE2⟩:=hEs hb;rcases od.eff a b x' y' hab hx' hy' hE' hE2 with h|⟨h1,h2⟩
     ·exact h
     ·rcases hn with hn|hn
      ·rw[show A0 a=true from h1] at hn; cases hn
      ·rw[show A0 b=true from h2] at hn; cases hn
    have inL:∀a b,b<l.length->ahead (pK ops.toList) a b=true->listed.getD b false=true->listed.getD a false=true:=fun a b hb h1 h2=>BN (L:=fun k=>listed.getD k false) hd od.V7 b h1 (by omega) h2
    -- what is between one that is not done and the last that is
    have betw:∀k,k<q->E k=true->A0 k=true->listed.getD k false=false->∀m,k<=m->m<q->E m=true->A0 m=true:=by
     intro k hkq hEk hAk hLk m h1 h2 hEm;cases hAm:A0 m with
     |true=>rfl
     |false =>
      exfalso;rcases gp.last with h|⟨p,hp1,hp2,hp3⟩
      ·omega
      have hqn:=gp.qn
      have hkm:k<m:=by
       rcases bF k m with h|h
       ·exact h
       ·have:k=m:=by omega
        subst this; rw[hAk] at hAm; cases hAm
      have a1:=effA k m hkm hEk hEm (.inr hAm)
      have hLm:listed.getD m false=true:=by
       by_cases hmp:m=p
       ·rw[hmp]; exact hp3
       ·exact inL m p (by omega) (effA m p (by omega) hEm hp2 (.inl hAm)) hp3
      rw[inL k m (by omega) a1 hLm] at hLk; cases hLk
    have gC:E i=false->E0 l.length mems E A0 (fun k=>(listed.setIfInBounds i true).getD k false) q G:=by
     intro hEi;have hne:∀k,E k=true->(listed.setIfInBounds i true).getD k false=listed.getD k false:=fun k hk=>hL'ne k (by rintro rfl; rw[hEi] at hk; cases hk)
     refine⟨gp.qn,gp.last.imp (fun h=>h) fun⟨p,h1,h2,h3⟩=>⟨p,h1,h2,by simp only[hne p h2]; exact h3⟩,fun k h1 h2 h3=>by simp only[hne k h3]; exact gp.rest k h1 h2 h3,gp.len,fun id=>?_,fun k h1 h2 h3=>?_⟩
     ·rcases gp.at' id with h|⟨h,k,h1,h2,h3,h4⟩
      ·exact .inl h
      ·exact .inr ⟨h,k,h1,h2,by simp only[hne k (hAE k (by omega) h2)]; exact h3,h4⟩
     ·simp only[hne k (hAE k (by omega) h2)] at h3
      exact gp.un k h1 h2 h3
    have gB:E i=true->A0 i=false->G=mems i/\E0 l.length mems E A0 (fun k=>(listed.setIfInBounds i true).getD k false) (i+1) (mems (i+1)):=by
     intro hEi hAi
     have hqi:q<=i:=by
      rcases gp.last with h|⟨p,hp1,hp2,hp3⟩
      ·omega
      ·have hqn:=gp.qn;rcases bF i p with h|h
       ·rw[inL i p (by omega) (effA i p h hEi hp2 (.inl hAi)) hp3] at hLi; cases hLi
       ·by_cases hip:i=p
        ·subst hip; simp only[hLi] at hp3; cases hp3
        ·omega
     have done:∀k,k<i->E k=true->listed.getD k false=true:=fun k hk hEk=>rdy k (effA k i hk hEk hEi (.inr hAi))
     refine⟨?_,by omega,.inr ⟨i,rfl,hEi,hL'i⟩,fun k h1 h2 h3=>by simp only[hL'ne k (show k≠i by omega)]; exact gp.rest k (by omega) h2 h3,rfl,fun id => .inl rfl,fun k h1 h2 h3=>?_⟩
     ·rw[gp.full fun k hk hAk=>done k (by omega) (hAE k (by omega) hAk)]
      refine(same q i hqi (by omega) fun k h1 h2=>?_).symm
      cases hEk:E k with
      |false=>rfl
      |true =>
       have:=gp.rest k h1 (by omega) hEk
       simp only[done k h2 hEk] at this; cases this
     ·have hki:k≠i:=by rintro rfl; rw[hAi] at h2; cases h2
      simp only[hL'ne k hki,done k (by omega) (hAE k (by omega) h2)] at h3
      cases h3
    have down':Down ops (fun k=>(listed.setIfInBounds i true).getD k false):=by
     intro k p e hp hL he' hb
     have hsome:listed.getD e.on false=true:=by
      by_cases hki:k=i
      ·subst hki;rw[ho] at hp; cases hp;exact hall' e he' hb
      ·exact hd k p e hp (by show listed.getD k false=true; rw[<-hL'ne k hki]; exact hL) he' hb
     show(listed.setIfInBounds i true).getD e.on false=true
     by_cases hei:e.on=i
     ·rw[hei]; exact hL'i
     ·rw[hL'ne _ hei]; exact hsome
    have AZ:left (fun k=>(listed.setIfInBounds i true).getD k false) l.length=fuel:=by
     have:=Hp (L:=fun k=>listed.getD k false) (L':=fun k=>(listed.setIfInBounds i true).getD k false) (i:=i) hLi hL'i (fun k hk=>hL'ne k hk) l.length
     rw[bh hil] at this;omega
    have hin':(vals i).jx=false->∀k,k<l.length->(listed.setIfInBounds i true).getD k false=true->k<N/\(vals k).jx=false:=by
     intro hnp k hk hL
     by_cases hki:k=i
     ·rw[hki]; exact⟨hiN,hnp⟩
     ·rw[hL'ne k hki] at hL; exact hin k hk hL
    have hgslot:∀t want,y.guard=some (t,want)->t∈y.reads:=fun t want h=>by simp[cQ.reads,h]
    have hopslot:∀t,t∈y.op.kQ->t∈y.reads:=fun t h=>by simp[cQ.reads,h]
    unfold wpOpIn;rw[ho];simp only;rcases st i y hiN hy with ⟨hgd,hstep⟩|⟨t,want,hgt,hgv,hv0,hm0⟩
    ·rw[bh (yv e1 s1 g5 fun t want h=>by rw[agree t (hgslot t want h)]; exact hgd t want h)]
     cases hAi:A0 i with
     |true =>
      obtain⟨y',o',V,B,n1,n2,n3,hEi,n6,n7,npan,hruns⟩:=hA i hiN hAi;rw[hy] at n1; cases n1;rw[ho] at n2; cases n2;have hag:∀t,t∈y.op.kQ->iv (nQ br l vals (fun k=>listed.getD k false) l.length) t=iv (nQ br l vals (fun _=>true) i) t:=fun t ht=>agree t (hopslot t ht)
      have fin:∀q' G' G1 j1' p,E0 l.length mems E A0 (fun k=>(listed.setIfInBounds i true).getD k false) q' G'->Rel j1' G1 w1->Ext j1 G w1 j1' G1 w1->G1[p]?=some .u6->p=(mems i).length->G'=G1.set p B ->
        o.wpIn (Wd rd) nd P a1 w1 (wpAnyIn (Wd rd) nd P .any ops Q fuel (listed.setIfInBounds i true)) Q:=by
       intro q' G' G1 j1' p hG' hr1 hx1 hp hpe hGe;refine sS.wpIn (KP:=fun _ _=>False) (zc g1) (hruns hag hr1 ((hG.mono x1).mono hx1) (e1.mono hx1) hp ?_) fun u w' h=>h.elim
       rintro v w' ⟨j',p1,p2,p3⟩;rw[<-hGe] at p1 p2 p3;simp only at p1 p2 p3;refine ih (listed.setIfInBounds i true) _ _ (by simpa using hsz) AZ down' (hin' (by rw[n6]; exact npan)) ⟨j',q',G',hG',p1,?_,x1.trans (hx1.trans p2),by rw[wH]; exact s1,by rw[put_defers]; exact d1⟩
       refine cm.CN ?_ newEnv;rw[g2,n6,<-hpe];exact(e1.mono (hx1.trans p2)).put s1 g4 p3
      rcases bF i q with hiq|hqi
      ·-- its place is there
       have hu:=gp.un i hiq hAi hLi;have hpi:=pref (i+1) q (by omega) hqN fun k h1 h2=>betw i hiq hEi hAi hLi k (by omega) h2
       have hat:(mems q)[(mems i).length]?=some B:=by
        obtain⟨t',ht'⟩:=hpi;rw[<-ht',n7,fm,bz (aC _)];simp
       refine fin q (G.set (mems i).length B) G j1 (mems i).length ⟨gp.qn,?_,fun k h1 h2 h3=>by simp only[hL'ne k (show k≠i by omega)]; exact gp.rest k h1 h2 h3,by simpa using gp.len,fun id=>?_,fun k h1 h2 h3=>?_⟩ r1 (Ext.refl _ _ _) hu rfl rfl
       ·refine gp.last.imp (fun h=>h) fun⟨p,h1,h2,h3⟩=>⟨p,h1,h2,?_⟩
        have hpi:p≠i:=by rintro rfl; simp only[hLi] at h3; cases h3
        simp only[hL'ne p hpi]; exact h3
       ·by_cases hid:(mems i).length=id
        ·subst hid;rw[dJ (aJ hu)];exact .inl hat.symm
        ·rw[cI hid];rcases gp.at' id with h|⟨h,k,h1,h2,h3,h4⟩
         ·exact .inl h
         ·have hki:k≠i:=by rintro rfl; exact hid h4
          refine .inr ⟨h,k,h1,h2,?_,h4⟩;simp only[hL'ne k hki]; exact h3
       ·have hki:k≠i:=by rintro rfl; simp only[hL'i] at h3; cases h3
        simp only[hL'ne k hki] at h3
        have hne:(mems i).length≠(mems k).length:=by
         rcases bF k i with h|h
         ·obtain⟨_,_,_,_,_,_,_,hEk,_,m7,_⟩:=hA k (by omega) h2
          have:=(pref (k+1) i (by omega) (by omega) fun m g1 g2=>betw k h1 hEk h2 h3 m (by omega) (by omega)).length_le
          rw[m7] at this;simp at this; omega
         ·have:=(pref (i+1) k (by omega) (by omega) fun m g1 g2=>betw i hiq hEi hAi hLi m (by omega) (by omega)).length_le
          rw[n7] at this;simp at this; omega
        rw[cI hne];exact gp.un k h1 h2 h3
      ·-- behind all that is made
       have allA:∀k,q<=k->k<i->E k=true->A0 k=true:=fun k h1 h2 h3=>by
        cases hAk:A0 k with
        |true=>rfl
        |false =>
         have:=gp.rest k h1 (by omega) h3
         simp only[rdy k (effA k i h2 h3 hEi (.inl hAk))] at this; cases this
       have hpi:=pref q i hqi (by omega) allA
       have hle:=hpi.length_le;have hln:=gp.len;have hsum:G.length+((mems i).length-(mems q).length)=(mems i).length:=by omega
       obtain⟨j1',hr1,hx1⟩:=An r1 ((mems i).length-(mems q).length+1);have hgl:(G++List.replicate ((mems i).length-(mems q).length) dv.u6).length=(mems i).length:=by simp; omega
       have hG1:G++List.replicate ((mems i).length-(mems q).length+1) dv.u6=(G++List.replicate ((mems i).length-(mems q).length) dv.u6)++[dv.u6]:=by rw[mH,<-fm]
       have hg1:(G++List.replicate ((mems i).length-(mems q).length+1) dv.u6)[(mems i).length]?=some .u6:=by
        rw[bz (by omega),jJ,bh (by omega)]
       have hset:∀(A:aH)(m:Nat),A.length=m->A++[B]=(A++[dv.u6]).set m B:=fun A m h=>by subst h; simp
       have hg2:G++List.replicate ((mems i).length-(mems q).length) dv.u6++[B]=(G++List.replicate ((mems i).length-(mems q).length+1) dv.u6).set (mems i).length B:=by
        rw[hG1]; exact hset _ _ hgl
       refine fin (i+1) (G++List.replicate ((mems i).length-(mems q).length) dv.u6++[B]) _ j1' (mems i).length ⟨by omega,.inr ⟨i,rfl,hEi,hL'i⟩,fun k h1 h2 h3=>by simp only[hL'ne k (show k≠i by omega)]; exact gp.rest k (by omega) h2 h3,by rw[n7]; simp; omega,fun id=>?_,fun k h1 h2 h3=>?_⟩ hr1 hx1 hg1 rfl hg2
       ·rcases bF id G.length with h|h
        ·have e1:(G++List.replicate ((mems i).length-(mems q).length) dv.u6++[B])[id]?=G[id]?:=by
          rw[fm,bA h]
         have e2:(mems (i+1))[id]?=(mems q)[id]?:=by
          obtain⟨t',ht'⟩:=hpi;rw[n7,<-ht',fm,bA (by omega)]
         rw[e1,e2];rcases gp.at' id with h|⟨h,k,h1,h2,h3,h4⟩
         ·exact .inl h
         ·exact .inr ⟨h,k,by omega,h2,by simp only[hL'ne k (show k≠i by omega)]; exact h3,h4⟩
        ·rcases bF id (mems i).length with h'|h'
         ·refine .inr ⟨?_,?_⟩
          ·rw[bA (by simp; omega),bz h,jJ,bh (by omega)]
          ·obtain⟨k,k1,k2,k3,k4⟩:=posn q i hqi (by omega) allA id (by omega) h'
           exact⟨k,by omega,k3,by simp only[hL'ne k (show k≠i by omega)]; exact gp.rest k k1 (by omega) (hAE k (by omega) k3),k4⟩
         ·left;rw[n7,bz (by simp; omega),bz h']
          congr 1;simp; omega
       ·have hki:k≠i:=by rintro rfl; simp only[hL'i] at h3; cases h3
        simp only[hL'ne k hki] at h3;rcases bF k q with h|h
        ·have hu:=gp.un k h h2 h3;rw[fm,bA (aJ hu)];exact hu
        ·obtain⟨_,_,_,_,_,_,_,hEk,_,m7,_⟩:=hA k (by omega) h2
         have b1:=(pref (k+1) i (by omega) (by omega) fun m g1 g2=>allA m (by omega) g2).length_le
         have b2:=(pref q k h (by omega) fun m g1 g2=>allA m g1 (by omega)).length_le
         rw[m7] at b1;simp at b1;rw[bA (by simp; omega),bz (by omega),jJ,bh (by omega)]
     |false =>
     have hex:∃q' G',dX C (nQ br l vals (fun k=>listed.getD k false) l.length) G y.op=some (vals i,G')/\E0 l.length mems E A0 (fun k=>(listed.setIfInBounds i true).getD k false) q' G'/\(y.lets=true->G'=mems (i+1)):=by
      have pan0:E i=false->y.lets=true->G=mems (i+1):=by
       intro hEi cn
       have hqi:q<=i:=by
        rcases gp.last with h|⟨p,hp1,hp2,hp3⟩
        ·omega
        ·have hqn:=gp.qn;rcases bF i p with h|h
         ·rw[inL i p (by omega) ((od.stop p i y hy cn (by omega)).1 h) hp3] at hLi; cases hLi
         ·by_cases hip:i=p
          ·subst hip; simp only[hLi] at hp3; cases hp3
          ·omega
       have done:∀k,k<i->E k=true->listed.getD k false=true:=fun k hk hEk=>by
        obtain⟨x',hx',hE'⟩:=hEs hEk;rcases(od.stop k i y hy cn (by omega)).2 hk with h4|h4
        ·exact rdy k h4
        ·have:=h4 x' hx';simp[cQ.tG,this] at hE'
       rw[stays i hiN hEi,gp.full fun k hk hAk=>done k (by omega) (hAE k (by omega) hAk)]
       refine(same q i hqi (by omega) fun k h1 h2=>?_).symm
       cases hEk:E k with
       |false=>rfl
       |true =>
        have:=gp.rest k h1 (by omega) hEk
        simp only[done k h2 hEk] at this; cases this
      obtain⟨q1,q2⟩:=DB (C:=C) (M:=G) (op:=y.op) fun t ht=>agree t (hopslot t ht)
      rw[q1];rcases qV hstep with ⟨hn,hids,h1⟩|⟨hn,hgr,h1⟩|⟨hn,hgr,hp,h1⟩
      ·have hEi:E i=false:=by rw[hE hy]; simp[cQ.tG,hn]
       exact⟨q,G,(Gb (od.alone i y hy hn) h1 hids).2 _,gC hEi,pan0 hEi⟩
      all_goals
       cases hEo:y.op.Qd with
       |true =>
        have hEi:E i=true:=by rw[hE hy]; simp[cQ.tG,hn,hEo]
        obtain⟨k1,k2⟩:=gB hEi hAi;exact⟨i+1,mems (i+1),by rw[k1]; exact h1,k2,fun _=>rfl⟩
       |false =>
        have hEi:E i=false:=by rw[hE hy]; simp[cQ.tG,hEo]
        refine⟨q,G,?_,gC hEi,pan0 hEi⟩;cases hlo:y.op.N8 with
        |false=>exact(Lx hEo hlo h1).2 _
        |true =>
         -- a load: the memory of the moment and that of the text agree at its box
         have hz:∃z,(y.op = .ic z\/(∃n,y.op = .kN n z)\/∃fk zr ok k,y.op = .look fk zr ok z k)/\∀t,t∈z.kQ->t∈y.op.kQ:=by
          generalize y.op=op at hlo;cases op<;>simp only[ke.N8,af] at hlo
          case kN n z=>exact⟨z,.inr (.inl ⟨n,rfl⟩),fun t h=>h⟩
          case look fk zr ok z k=>exact⟨z,.inr (.inr ⟨fk,zr,ok,k,rfl⟩),fun t h=>by simp[ke.kQ,h]⟩
          case ic z=>exact⟨z,.inl rfl,fun t h=>h⟩
         obtain⟨z,hz1,hz2⟩:=hz
         have hrep:∃v,fY j1 G w1 (z.ev (nQ br l vals (fun _=>true) i)) v:=by
          rw[<-cT (x:=z) fun t ht=>agree t (hopslot t (hz2 t ht))]
          cases z with
          |tmp t=>exact⟨_,e1.at' t⟩
          |kb c =>
           have:=od.opl i y hy;rcases hz1 with hz1|⟨n,hz1⟩|⟨_,_,_,_,hz1⟩<;>(rw[hz1] at this; cases this)
         obtain⟨v,hv⟩:=hrep
         have hsame:∀id b,id∈(z.ev (nQ br l vals (fun _=>true) i)).ib->id<G.length->nth (mems i) id=some b->nth G id=some b:=by
          intro id bx hidz hidl hbx;have hq3:=gp.rest;have hq4:=gp.last;have hqn:=gp.qn;rw[gp.len] at hidl
          have hG0:nth G id=nth (mems q) id:=by
           rw[fE,fE];rcases gp.at' id with h|⟨h,_⟩
           ·exact h
           ·exact absurd h (hv.afe hidz)
          rw[hG0];have hni:E i=false:=by rw[hE hy]; simp[cQ.tG,hEo]
          by_cases hqi:q<=i
          ·refine HM (.inr (vp i hqi fun k h2 h3=>?_)) hidl hbx
           cases hEk:E k with
           |false=>rw[stays k (by omega) hEk]; exact jR _
           |true =>
            obtain⟨y',hz1',hz2'⟩:=hEs hEk
            have hunl:¬listed.getD k false=true:=by
             have h5:=hq3 k h2 (by omega) hEk
             rw[h5]; simp
            cases hzg:y'.grow with
            |false=>exact absurd (rdy k ((od.ZK k i y' y hz1' hz2' hzg hy hlo).2 h3)) hunl
            |true =>
             rcases grows k y' (by omega) hz1' hz2' hzg with hg'|⟨hsp,_⟩
             ·exact hg'
             ·exact absurd (rdy k ((od.sep k i y' y hz1' hsp hy hlo).1 h3)) hunl
          ·have chain:∀n,i<=n->n<=q->nth (mems n) id=some bx:=by
            intro n;induction n with
            |zero=>intro h0 _; rw[show 0=i by omega]; exact hbx
            |succ n ihn =>
             intro h0 h0'
             by_cases he:i=n+1
             ·rw[<-he]; exact hbx
             ·have hb':=ihn (by omega) (by omega)
              cases hEk:E n with
              |false=>rw[stays n (by omega) hEk]; exact hb'
              |true =>
               obtain⟨y',hz1',hz2'⟩:=hEs hEk;cases hAn:A0 n with
               |true =>
                obtain⟨_,_,_,_,_,_,_,_,_,m7,_⟩:=hA n (by omega) hAn
                rw[fE] at hb' ⊢;rw[m7,bA (aJ hb')];exact hb'
               |false =>
               have hkni:n≠i:=by rintro rfl; rw[hEk] at hni; cases hni
               have hdone:listed.getD n false=true:=by
                rcases hq4 with h0|⟨p,hp1,hp2,hp3⟩
                ·omega
                ·by_cases hkp:n=p
                 ·subst hkp; exact hp3
                 ·exact inL n p (by omega) (effA n p (by omega) hEk hp2 (.inl hAn)) hp3
               have hnol:ahead (pK ops.toList) i n=true->False:=fun ha=>by
                have:=nol n (by omega) ha
                rw[this] at hdone; cases hdone
               cases hzg:y'.grow with
               |false=>exact absurd ((od.ZK n i y' y hz1' hz2' hzg hy hlo).1 (by omega)) hnol
               |true =>
                rcases grows n y' (by omega) hz1' hz2' hzg with hg'|⟨hsp,hsa⟩
                ·obtain⟨t,ht⟩:=hg';rw[fE] at hb' ⊢;rw[<-ht,bA (aJ hb')];exact hb'
                ·rcases(od.sep n i y' y hz1' hsp hy hlo).2 (by omega) with ha|⟨zs,hzs,hmem,hnw⟩
                 ·exact(hnol ha).elim
                 ·have hslot:z = .tmp zs:=by
                   rcases hz1 with hz1|⟨m,hz1⟩|⟨_,_,_,_,hz1⟩<;>(rw[hz1] at hzs; cases z<;>simp[ke.LJ] at hzs; rw[hzs])
                  subst hslot
                  have hsame0:iv (nQ br l vals (fun _=>true) n) zs=iv (nQ br l vals (fun _=>true) i) zs:=by
                   refine uF n (by omega) fun p hp1 hp2=>?_
                   rintro⟨⟨x',hx',hdx⟩,_⟩;have:=bH.1 hnw p (jb.2 hp2);rw[fE,hx'] at this;simp[hdx,nV.2 hp1] at this
                  have hat:∀ {sl:List Nat},wI (nQ br l vals (fun _=>true) n) (mems n) (mems (n+1)) sl->zs∈sl->nth (mems (n+1)) id=nth (mems n) id:=by
                   intro sl;induction sl with
                   |nil=>intro _ h; cases h
                   |cons z0 r0 ih0 =>
                    intro hs hm;rcases bC.1 hm with rfl|hm
                    ·have h6:=hs.1;rw[hsame0] at h6;simp only[gQ.ev] at hidz;split at h6
                     ·rename_i id' off' he';rw[he'] at hidz;simp[ag.ib] at hidz;subst hidz;exact h6
                     ·exact h6.elim
                    ·exact ih0 hs.2 hm
                  rw[hat hsa hmem]; exact hb'
           exact chain q (by omega) (aC _)
         exact(Ht hlo h1).2 z hsame hz1 hv
     obtain⟨q',G',haop,hG',hpan⟩:=hex;refine sS.wpIn (KP:=fun u w'=>F4 j1 G w1 (vals i,G') u w') (zc g1) (CO hC g1 haop r1 (hG.mono x1) e1 ?_ fun u w' h=>h) ?_
     ·rintro v w' ⟨j',p1,p2,p3⟩
      have hnp:(vals i).jx=false:=by
       cases hvi:vals i<;>first|rfl|(rw[hvi] at p3; exact p3.JT.elim)
      refine ih (listed.setIfInBounds i true) _ w' (by simpa using hsz) AZ down' (hin' hnp) ⟨j',q',G',hG',p1,?_,x1.trans p2,by rw[wH]; exact s1,by rw[put_defers]; exact d1⟩
      refine cm.CN ?_ newEnv;rw[g2];exact(e1.mono p2).put s1 g4 p3
     ·rintro u w' ⟨hu,j',p1,p2⟩;simp only at hu;rcases hxe with ⟨n1,n2,_⟩|⟨n,y',v,n1,n2,n3,n4,n5,n6⟩
      ·have:=n2 i hiN; rw[hu] at this; cases this
      ·have hin0:i=n:=by
        rcases bF i n with h|h
        ·have:=n5 i h; rw[hu] at this; cases this
        ·omega
       subst hin0;rw[hy] at n2; cases n2;rw[hu] at n4; cases n4;have hmem:G'=mems N:=by rw[hpan n3,n1]
       rw[hmem] at p1 p2;rw[n6] at hQ;exact hQ a1 w' j' p1 (e1.nil p2) (x1.trans p2) s1 d1
    ·rw[aQ (by rw[EF e1 s1 g5 hgt (by rw[agree t (hgslot t want hgt)]; exact hgv)]; simp)]
     have hmem:∃q',E0 l.length mems E A0 (fun k=>(listed.setIfInBounds i true).getD k false) q' G:=by
      cases hEi:E i with
      |true =>
       have hAi:A0 i=false:=by
        cases hAi:A0 i with
        |false=>rfl
        |true =>
         obtain⟨y',_,_,_,n1,_,n5,_⟩:=hA i hiN hAi;rw[hy] at n1; cases n1;rw[n5] at hgt; cases hgt
       obtain⟨k1,k2⟩:=gB hEi hAi;rw[hm0,<-k1] at k2;exact⟨_,k2⟩
      |false=>exact⟨_,gC hEi⟩
     obtain⟨q',hG'⟩:=hmem;refine⟨fun _ _=>trivial,?_⟩
     refine ih (listed.setIfInBounds i true) _ w1 (by simpa using hsz) AZ down' (hin' (by rw[hv0]; rfl)) ⟨j1,q',G,hG',r1,?_,x1,by rw[wH]; exact s1,by rw[put_defers]; exact d1⟩
     refine cm.CN ?_ newEnv;rw[g2,hv0];exact e1.put s1 g4 (.tuple (vs := #[]) rfl fun i c v h=>by simp at h)
 have q:Quiet w { w with drawn:=w.drawn+1 }:=⟨aC _,rfl,rfl,rfl⟩
 have hrep:∀k,(Array.replicate ops.size false).getD k false=false:=fun k=>by
  simp only[dh,Array.getElem?_replicate];split<;>rfl
 have hleft:left (fun k=>(Array.replicate ops.size false).getD k false) l.length=ops.size:=by
  have:∀n,left (fun k=>(Array.replicate ops.size false).getD k false) n=n:=by
   intro n;induction n with
   |zero=>rfl
   |succ n ihn=>rw[left,ihn,hrep n]; rfl
  rw[this,dR]
 refine key ops.size _ a _ (by simp) hleft (fun k o e _ hL=>by rw[show(fun k=>(Array.replicate ops.size false).getD k false) k=false from hrep k] at hL; cases hL) (fun k _ hL=>by rw[hrep k] at hL; cases hL) ⟨j,0,M,⟨cS _,.inl rfl,fun k _ _ _=>hrep k,by rw[m0],fun id => .inl (by rw[m0]),fun k h=>by omega⟩,?_,?_,?_,hs,rfl⟩
 ·exact hr.grow q.size rfl rfl rfl fun _ _=>rfl
 ·refine cm.CN (cm.mono he (Ext.grow q.size rfl rfl rfl fun _ _=>rfl)) fun t=>?_
  exact uF (i:=0) l.length (cS _) fun k _ _ hc=>by have h2:=hc.2; rw[hrep k] at h2; cases h2
 ·exact Ext.grow q.size rfl rfl rfl fun _ _=>rfl
end
def HS{F:Fence}{nd:Nat}{P:Program}{c:Code}{Q Q':Exit->Act->World->Prop}{n:Nat}{a:Act}{w:World}(h:Code.roundsIn F nd P c Q n a w)(hq:∀e a w,Q e a w->Q' e a w):Code.roundsIn F nd P c Q' n a w:=by
 induction n generalizing a w with
 |zero=>exact h
 |succ n ih =>
  refine wpIn_mono h fun e a' w' h'=>?_
  cases e<;>simp[Exit.then] at h' ⊢ <;> first|exact ih h'|exact hq _ _ _ h'
theorem nW{bQ:Nat}{M:aH}(hb:bQ<=M.length):(lA bQ M).length=bQ:=by grind [lA]
theorem kD{bQ:Nat}{M:aH}{i:Nat}(hi:i<bQ):(lA bQ M)[i]?=(M[i]?).map (dv.back bQ M):=by
 grind [lA]
theorem OQ(bQ:Nat)(M:aH)(b:dv):(b.back bQ M).tag=b.tag:=by cases b<;>rfl
def IM(bQ:Nat)(M:aH)(b:dv):(b.back bQ M).fixed=b.fixed:=by cases b<;>rfl
def IQ{bQ:Nat}{M:aH}{b:dv}(h:b.loose=true):b.back bQ M=b:=by cases b<;>first|rfl|cases h
section
variable {bQ:Nat} {M:aH} {j:J} {w:World} (hb:bQ<=M.length)
include hb
def vY{b off:Nat}(h:ng j M w b off):ng j (lA bQ M) w b off:=by
 refine⟨h.lt,fun id hid hj=>?_,h.nx⟩
 rw[nW hb] at hid;obtain⟨sz,n,h1,h2⟩:=h.ids _ (by omega) hj
 exact⟨sz,n,by rw[kD hid,h1]; rfl,h2⟩
def lP:∀b off,ng j M w b off->ng j (lA bQ M) w b off/\w.cell? ⟨b,off,none⟩=w.cell? ⟨b,off,none⟩:=fun b off hs=>⟨vY hb hs,rfl⟩
def Kn{id:Nat}(cn:id<bQ)(hM:∀bx,M[id]?=some bx->bx.loose=true):(lA bQ M)[id]?=M[id]?:=by
 have h0:=ai (show id<M.length by omega)
 rw[kD cn,h0,eM,IQ (hM _ h0)]
variable (hr:Rel j M w)
include hr
theorem zG{x:ag}{v:Value}(h:fY j M w x v):fY j (lA bQ M) w (x.jA bQ M) v:=by
 cases h with
 |plain h =>
  have:x.jA bQ M=x:=by cases h<;>rfl
  rw[this];exact .plain (h.mono (lP hb))
 |c0 A=>exact .c0 A
 | @own k xs v sz n hk hn hp ht =>
  simp only[ag.jA];split
  ·rename_i cn;exact .own (sz:=sz) (n:=n) (by rw[kD cn,hk]; rfl) hn (hp.mono (lP hb)) ht
  ·exact .plain (hp.mono (lP hb))
 |agg=>exact .any _
 |tuple=>exact .any _
 | @ptr id off b hid hc hj =>
  simp only[ag.jA];split
  ·rename_i cn;obtain⟨cs,hc⟩:=hc;exact .ptr (by rw[nW hb]; omega) ⟨_,by rw[kD cn,hc]; rfl⟩ hj
  ·exact .any _
 |iP h=>exact .iP fun k c hk=>⟨(h k c hk).1,vY hb (h k c hk).2.1,(h k c hk).2.2.mono (lP hb)⟩
 |func=>exact .any _
 | @gP id b hc hj =>
  simp only[ag.jA];split
  ·rename_i cn;obtain⟨ks,vs,hc⟩:=hc;exact .gP ⟨_,_,by rw[kD cn,hc]; rfl⟩ hj
  ·exact .any _
 | @jq id b hc hj =>
  simp only[ag.jA];split
  ·rename_i cn;obtain⟨ks,vs,hc⟩:=hc;exact .jq ⟨_,_,by rw[kD cn,hc]; rfl⟩ hj
  ·exact .any _
 |iL cn hf hx hw hk hv hks hvs =>
  exact .iL cn (fun i hi=>hf i (by rw[nW hb] at hi; omega)) hx hw hk hv (fun i k e h1 h2=>(hks i k e h1 h2).mono (lP hb)) (fun i k e h1 h2=>(hvs i k e h1 h2).mono (lP hb))
 | @jE t id off b hc hj =>
  simp only[ag.jA];split
  ·rename_i cn;obtain⟨cs,hc⟩:=hc;exact .jE ⟨_,by rw[kD cn,hc]; rfl⟩ hj
  ·exact .any _
 |pC hl hd=>exact .pC hl fun i c v h1 h2=>(hd i c v h1 h2).mono (lP hb)
 | @cN id ver sz0 lo hi v h0 hid hM hv =>
  simp only[ag.jA];split
  ·rename_i cn;have e:=Kn hb cn hM;exact .cN h0 (by rw[nW hb]; omega) (fun bx hbx=>hM bx (e▸hbx)) fun sz v' xs h=>hv sz v' xs (e▸h)
  ·rename_i hge;split
   ·rename_i sz v' xs hMi;split
    ·rename_i he;subst he;obtain⟨_,k2⟩:=hv sz v' xs hMi;obtain⟨rfl,l1,l2,⟨rfl,_,A,rfl⟩|⟨b,cap,vs,t,l3,rfl,l5,l6,l7⟩⟩:=k2 rfl
     ·simp only[List.take_nil,List.drop_nil];exact .plain (fF.nil _ _ _)
     obtain⟨b',vs',t',g1,g2,g3,g4,g5⟩:=hr.yE hMi l3;rw[l3] at g1; cases g1;refine .plain (wX g2 g4 g5 (fun b off h=>vY hb h) (fun off _=>⟨hr.lt id b hid l3,fun id' hid' hj'=>?_,hr.um id b hid l3 off⟩) l1 l2 l5)
     rw[nW hb] at hid';have:=hr.inj id' id b (by omega) hid hj' l3
     omega
    ·exact .any _
   ·exact .any _
 | @iH id ver i off v h0 hid hM hv =>
  simp only[ag.jA];split
  ·rename_i cn;have e:=Kn hb cn hM;exact .iH h0 (by rw[nW hb]; omega) (fun bx hbx=>hM bx (e▸hbx)) fun sz v' xs h=>hv sz v' xs (e▸h)
  ·exact .any _
 |any v=>exact .any v
theorem jf{x:ag}{v:Value}(h:fY j M w x v):fY j (lA bQ M) w (x.kC bQ M) v:=by
 by_cases hag:∃f cs,x = .func f cs
 ·obtain⟨f,caps,rfl⟩:=hag;obtain⟨vs,rfl,hl,hc⟩:=h.rF;refine .func (by grind) fun i c u hi hu=>?_
  rw[bd,aR] at hi;obtain⟨c0,hc0,rfl⟩:=hi
  grind [zG]
 ·have e1:x.kC bQ M=x.jA bQ M:=by cases x<;>first|rfl|grind
  grind [zG]
theorem zH{x:ag}{v:Value}(h:fY j M w x v):fY j (lA bQ M) w (x.kg bQ M) v:=by
 by_cases hag:∃cs,x = .agg cs
 ·obtain⟨cs,rfl⟩:=hag;obtain⟨vs,rfl,hl,hc⟩:=h.lU;refine .agg (by grind) fun i c u hi hu=>?_
  grind [jf]
 ·have e1:x.kg bQ M=x.kC bQ M:=by cases x<;>first|rfl|grind
  grind [jf]
theorem Mb{x:ag}{v:Value}(h:fY j M w x v):fY j (lA bQ M) w (x.nK bQ M) v:=by
 by_cases hag:∃cs,x = .tuple cs
 ·obtain⟨cs,rfl⟩:=hag;obtain⟨vs,rfl,hl,hc⟩:=h.sP;refine .tuple (by grind) fun i c u hi hu=>?_
  grind [zH]
 ·have e1:x.nK bQ M=x.kg bQ M:=by cases x<;>first|rfl|grind
  grind [zH]
theorem Ma{br:Env}{a:Act}(h:cm j M w br a):cm j (lA bQ M) w (yF bQ M br) a:=by
 refine⟨fun t=>?_,h.gl.ia fun b off hs=>vY hb hs⟩
 have:iv (yF bQ M br) t=(iv br t).nK bQ M:=by
  clear h hr hb;induction br with
  |nil=>rfl
  |cons p r ih =>
   grind [yF,iv]
 rw[this];exact Mb hb hr (h.at' t)
theorem BR{x:ag}{v:Value}(h:fY j M w x v):fY j (lA bQ M) w (x.jV bQ M) v:=by
 cases x with
 |slice tk xs=>exact .plain (h.dN.mono (lP hb))
 |gP id =>
  simp only[ag.jV];split
  ·have:=zG hb hr h;simp_all [ag.jA]
  ·split
   ·rename_i ks vs hM;split
    ·rename_i hp;simp only[bm,bH] at hp;obtain⟨b,_,hj,rfl⟩:=h.uQ;obtain⟨b',hj',es,clock,g1,g2,g3,g4,g5⟩:=hr.fix id _ hM rfl;have:b'=b:=by grind
     subst this;have hid  := aJ hM
     exact .iL (hr.lt id _ hid hj) (fun i hi he=>by
      rw[nW hb] at hi;have:=hr.inj i id _ (by omega) hid he hj
      omega) (hr.um id _ hid hj) g1 g2 g3 (fun i k e h1 h2=>(g4 i k e h1 h2).mono (lP hb))
      fun i u e h1 h2=>(Bj.wC (g5 i u e h1 h2) (hp.1 u (aO h1))).mono (lP hb)
    ·exact .any _
   ·exact .any _
 |func f caps=>exact jf hb hr h
 |agg cs=>exact jf hb hr h
 |tuple cs=>exact jf hb hr h
 |bool b=>exact jf hb hr h
 |int k n=>exact jf hb hr h
 |str s=>exact jf hb hr h
 |ptr id off=>exact jf hb hr h
 |iP cs=>exact jf hb hr h
 |jq id=>exact jf hb hr h
 |cN id v sz lo hi=>exact jf hb hr h
 |iH id v i off=>exact jf hb hr h
 |pC f fs=>exact jf hb hr h
 |jE t id off=>exact jf hb hr h
 |iL ks vs=>exact jf hb hr h
 |raw v=>exact jf hb hr h
 |mw v=>exact h.JT.elim
 |any=>exact .any _
theorem BS{x:ag}{v:Value}(h:fY j M w x v):fY j (lA bQ M) w (x.j9 bQ M) v:=by
 by_cases hag:∃cs,x = .agg cs
 ·obtain⟨cs,rfl⟩:=hag;obtain⟨vs,rfl,hl,hc⟩:=h.lU;refine .agg (by grind) fun i c u hi hu=>?_
  grind [BR]
 ·have e1:x.j9 bQ M=x.jV bQ M:=by cases x<;>first|rfl|grind
  grind [BR]
theorem DE{x:ag}{v:Value}(h:fY j M w x v):fY j (lA bQ M) w (x.lY bQ M) v:=by
 by_cases hag:∃cs,x = .tuple cs
 ·obtain⟨cs,rfl⟩:=hag;obtain⟨vs,rfl,hl,hc⟩:=h.sP;refine .tuple (by grind) fun i c u hi hu=>?_
  grind [BS]
 ·have e1:x.lY bQ M=x.j9 bQ M:=by cases x<;>first|rfl|grind
  grind [BS]
theorem IP{b:Nat}{bx:dv}(h:Holds j M w b bx):Holds j (lA bQ M) w b (bx.back bQ M):=by
 cases bx with
 |cells cs =>
  obtain⟨vs,t,h1,h2,h3⟩:=h;refine⟨vs,t,h1,by grind,fun q c v hc hv=>?_⟩
  grind [jf]
 |tick=>trivial
 |map ks vs =>
  obtain⟨es,clock,h1,h2,h3,h4,h5⟩:=h;refine⟨es,clock,h1,h2,by grind,fun i k e hk he=>(h4 i k e hk he).mono (lP hb),fun i k e hk he=>?_⟩
  grind [zH]
 |mc s pos=>exact h
 |u6=>trivial
 |arr=>trivial
theorem yG:Rel j (lA bQ M) w:=by
 have ln:=nW hb;refine⟨fun i i' b hi hi'=>hr.inj i i' b (by omega) (by omega),fun i b hi=>hr.lt i b (by omega),fun i bx h hf=>?_,fun i sz n b h hj=>?_,fun i sz ver xs h=>?_,fun i b hi=>hr.um i b (by omega),hr.zC⟩
 ·have hi:i<bQ:=by grind
  rw[kD hi,aR] at h;obtain⟨bx0,h1,rfl⟩:=h;obtain⟨b,g1,g2⟩:=hr.fix i bx0 h1 (by rw[<-IM bQ M]; omega)
  grind [IP]
 ·have hi:i<bQ:=by rw[<-ln]; grind
  rw[kD hi,aR] at h;obtain⟨bx,h1,h2⟩:=h;cases bx with
  |tick sz0 n0=>exact hr.tick i sz0 n0 b h1 hj
  |cells cs=>cases h2
  |map ks vs=>cases h2
  |mc s p=>cases h2
  |u6=>cases h2
  |arr sz v xs=>cases h2
 ·have hi:i<bQ:=by rw[<-ln]; grind
  rw[kD hi,aR] at h;obtain⟨bx,h1,h2⟩:=h;cases bx with
  |arr sz0 v0 xs0 =>
   injection h2 with e1 e2 e3
   subst e1; subst e2; subst e3;obtain⟨g0,g1⟩|⟨b,vs,t,g1,g2,g3,g4,g5⟩:=hr.arr i _ _ _ h1
   ·grind
   exact .inr ⟨b,vs,t,g1,g2,g3,g4,fun q x k c hx hk=>(g5 q x k c hx hk).imp fun u hu=>⟨hu.1,hu.2.mono (lP hb)⟩⟩
  |cells cs=>cases h2
  |map ks vs=>cases h2
  |mc s p=>cases h2
  |u6=>cases h2
  |tick sz n=>cases h2
omit hr in
theorem vX{j0:J}{M0:aH}{w0:World}(h0:M0.length=bQ)(hx:Ext j0 M0 w0 j M w):Ext j0 M0 w0 j (lA bQ M) w where
 len:=by rw[nW hb]; omega
 size:=hx.size
 os:=hx.os
 tape:=hx.tape
 output:=hx.output
 X:=hx.X
 fix:=fun i bx h hf=>by
  obtain⟨h1,bx',h2,h3⟩:=hx.fix i bx h hf
  grind [aJ,kD,OQ,trans]
 tick:=fun i sz n h=>by
  obtain⟨n',h1,h2,h3⟩:=hx.tick i sz n h;have hi:i<bQ:=by grind
  exact⟨n',h1,by rw[kD hi,h2]; rfl,h3⟩
 arr:=fun i sz v xs h=>by
  have hi:i<bQ:=by grind
  rcases hx.arr i sz v xs h with ⟨n',g⟩|⟨v',xs',g1,g2⟩
  ·exact .inl ⟨n',by rw[kD hi,g]; rfl⟩
  ·exact .inr ⟨v',xs',by rw[kD hi,g1]; rfl,g2⟩
 tags:=hx.tags
 ia:=fun b off h=>⟨vY hb (hx.ia b off h).1,(hx.ia b off h).2⟩
 uo:=fun b cn h=>⟨(hx.uo b cn h).1,fun i hi=>(hx.uo b cn h).2 i (by rw[nW hb] at hi; omega)⟩
end
def VE(A:De)(j:J)(M:aH)(w:World)(a:Act)(o:Out):Exit->Act->World->Prop:=fun e a' w' =>
 e=qq o.e/\a'.tmps.size=A.n/\a'.defers=a.defers/\∃j',Rel j' o.mem w'/\cm j' o.mem w' o.br a'/\Ext j M w j' o.mem w'
theorem Al{A:De}{j:J}{M:aH}{w:World}{a:Act}{o:Out}{live:List Nat}{a':Act}{w':World}{j':J}(h1:Rel j' o.mem w')(h2:cm j' o.mem w' o.br a')(h3:Ext j M w j' o.mem w')(h4:a'.tmps.size=A.n)
  (h5:a'.defers=a.defers):VE A j M w a (o.oq live) (qq o.e) a' w':=by
 obtain⟨e,br,M'⟩:=o;cases e
 case normal=>exact⟨rfl,h4,h5,j',h1,h2.oq _,h3⟩
 all_goals exact⟨rfl,h4,h5,j',h1,h2,h3⟩
section
variable {P:Program} {C:eB} {A:De}
theorem lB(hmix:P.follows .mixedOrders=true)(hC:oQ P C){rd:Option Nat}{nd:Nat}:∀(c:Code){ac:cA},comp P A c=some ac->∀ {br:Env} {M:aH} {o:Out},eP C ac br M=some o->∀ {j:J} {w:World} {a:Act},Rel j M w->rT j M w->cm j M w br a ->
  a.tmps.size=A.n->c.wpIn (Wd rd) nd P (VE A j M w a o) a w
 | .skip,ac,hc,br,M,o,h,j,w,a,hr,hG,he,hs=>by
  simp only[comp] at hc; cases hc;simp only[eP] at h; cases h;exact wpIn_skip ⟨rfl,hs,rfl,j,hr,he,Ext.refl j M w⟩
 | .exit id,ac,hc,br,M,o,h,j,w,a,hr,hG,he,hs=>by
  simp only[comp] at hc; cases hc;simp only[eP] at h; cases h;exact wpIn_exit ⟨rfl,hs,rfl,j,hr,he,Ext.refl j M w⟩
 | .ret,ac,hc,br,M,o,h,j,w,a,hr,hG,he,hs=>by
  simp only[comp] at hc; cases hc;simp only[eP] at h; cases h;exact wpIn_ret ⟨rfl,hs,rfl,j,hr,he,Ext.refl j M w⟩
 | .region id ops draw,ac,hc,br,M,o,h,j,w,a,hr,hG,he,hs=>by
  simp only[comp] at hc;cases draw with
  |true =>
   simp only[aG] at hc;obtain⟨l0,hl0,hc⟩:=aZ hc;obtain⟨l,hl,hc⟩:=aZ hc;cases hc;simp only[eP] at h;obtain⟨x,hx,h⟩:=bg h
   grind [HQ,Al]
  |false =>
   simp only[af,az] at hc;obtain⟨l,hl,hc⟩:=aZ hc;cases hc;simp only[eP] at h;obtain⟨x,hx,h⟩:=bg h;cases h;refine wpIn_region ?_;rw[mG];exact xh hC (grow:=[]) ops.toList 0 (by rfl) hl hx hr hG he hs fun a' w' j' h1 h2 h3 h4 h5=>Al h1 h2 h3 h4 h5
 | .seq x y,ac,hc,br,M,o,h,j,w,a,hr,hG,he,hs=>by
  simp only[comp] at hc;obtain⟨ax,hx,hc⟩:=aZ hc;obtain⟨ay,hy,hc⟩:=aZ hc;cases hc;simp only[eP] at h;obtain⟨o1,h1,h⟩:=bg h;refine wpIn_seq (wpIn_mono (lB hmix hC x hx h1 hr hG he hs) ?_);rintro e a1 w1 ⟨he1,hs1,hd1,j1,r1,e1,x1⟩;rcases te h with ⟨hn,h2⟩|⟨hn,h2⟩
  ·rw[hn] at he1;subst he1;refine wpIn_mono (lB hmix hC y hy h2 r1 (hG.mono x1) e1 hs1) ?_;rintro e a2 w2 ⟨he2,hs2,hd2,j2,r2,e2,x2⟩;exact⟨he2,hs2,hd2.trans hd1,j2,r2,e2,x1.trans x2⟩
  ·subst h2;have:qq o.e ≠ .normal:=by cases ho:o.e<;>simp_all [qq]
   subst he1
   cases hx:qq o.e<;>first
    |exact absurd hx this
    |(simp only[Exit.then]; exact⟨hx.symm,hs1,hd1,j1,r1,e1,x1⟩)
 | .cond c x y,ac,hc,br,M,o,h,j,w,a,hr,hG,he,hs=>by
  simp only[comp] at hc;obtain⟨cc,hcc,hc⟩:=aZ hc;obtain⟨ax,hx,hc⟩:=aZ hc;obtain⟨ay,hy,hc⟩:=aZ hc;cases hc;simp only[eP] at h;have h1:=cU he hcc;split at h
  ·rename_i t ht;rw[ht] at h1;rcases jO h with ⟨rfl,h⟩|⟨rfl,h⟩
   ·exact wpIn_cond_true h1.jg (lB hmix hC x hx h hr hG he hs)
   ·exact wpIn_cond_false h1.jg (lB hmix hC y hy h hr hG he hs)
  grind
 | .block id c,ac,hc,br,M,o,h,j,w,a,hr,hG,he,hs=>by
  simp only[comp] at hc;obtain⟨ax,hx,hc⟩:=aZ hc;cases hc;simp only[eP] at h;obtain⟨o1,h1,h⟩:=bg h;cases h;refine wpIn_block (wpIn_mono (lB hmix hC c hx h1 hr hG he hs) ?_);rintro e a1 w1 ⟨he1,hs1,hd1,j1,r1,e1,x1⟩;subst he1;cases ho:o1.e with
  |normal=>simp only[qq,Exit.inBlock]; refine⟨?_,hs1,hd1,j1,?_⟩<;>simp[vE,ho,qq,r1,e1,x1]
  |ret=>simp only[qq,Exit.inBlock]; refine⟨?_,hs1,hd1,j1,?_⟩<;>simp[vE,ho,qq,r1,e1,x1]
  |mw v=>simp only[qq,Exit.inBlock]; refine⟨?_,hs1,hd1,j1,?_⟩<;>simp[vE,ho,qq,r1,e1,x1]
  |exit i =>
   simp only[qq,Exit.inBlock]
   by_cases hi:i=id
   ·rw[bh hi]; refine⟨?_,hs1,hd1,j1,?_⟩<;>simp[vE,ho,qq,hi,r1,e1,x1]
   ·rw[aQ hi]; refine⟨?_,hs1,hd1,j1,?_⟩<;>simp[vE,ho,qq,hi,r1,e1,x1]
 | .loop c,ac,hc,br,M,o,h,j,w,a,hr,hG,he,hs=>by
  simp only[comp] at hc;obtain⟨ax,hx,hc⟩:=aZ hc;cases hc;simp only[eP] at h;obtain⟨n,hn⟩:=vn h;refine wpIn_loop_rounds n ?_
  have key:∀n br M j1 w1 a1,iter (eP C ax) (find A.lp (nh c)) n br M=some o->Rel j1 M w1->rT j1 M w1->cm j1 M w1 br a1->a1.tmps.size=A.n ->
    Code.roundsIn (Wd rd) nd P c (VE A j1 M w1 a1 o) n a1 w1:=by
   intro n;induction n with
   |zero=>intro br M j1 w1 a1 h; cases h
   |succ n ih =>
    intro br M j1 w1 a1 h r1 hG1 e1 s1;rw[iter] at h;obtain⟨o1,h1,h⟩:=bg h;rw[roundsIn_succ];refine wpIn_mono (lB hmix hC c hx h1 r1 hG1 (e1.oq _) s1) ?_;rintro e a2 w2 ⟨he2,hs2,hd2,j2,r2,e2,x2⟩;rcases te h with ⟨hn,h2⟩|⟨hn,h2⟩
    ·rw[hn] at he2;subst he2;have:=ih _ _ j2 w2 a2 h2 (yG x2.len r2) (hG1.mono (vX x2.len rfl x2)) (Ma x2.len r2 (e2.oq _)) hs2;simp only[qq,Exit.then]
     exact HS this fun e a3 w3 ⟨g1,g2,g3,j3,g4,g5,g6⟩=>⟨g1,g2,g3.trans hd2,j3,g4,g5,(vX x2.len rfl x2).trans g6⟩
    ·subst h2;have:qq o.e ≠ .normal:=by cases ho:o.e<;>simp_all [qq]
     subst he2
     cases hx:qq o.e<;>first
      |exact absurd hx this
      |(simp only[Exit.then]; exact⟨hx.symm,hs2,hd2,j2,r2,e2,x2⟩)
  grind
 | .rangeFunc ..,ac,hc,br,M,o,h,j,w,a,hr,hG,he,hs=>by grind [comp]
 | .scope _,ac,hc,br,M,o,h,j,w,a,hr,hG,he,hs=>by grind [comp]
 | .label _,ac,hc,br,M,o,h,j,w,a,hr,hG,he,hs=>by grind [comp]
 | .goto _,ac,hc,br,M,o,h,j,w,a,hr,hG,he,hs=>by grind [comp]
 | .refuse _,ac,hc,br,M,o,h,j,w,a,hr,hG,he,hs=>by simp_all [comp]
theorem BE{br:Env}{M:aH}{j:J}{w:World}{a:Act}(hr:Rel j M w)(he:cm j M w br a):∀ {rs:List ResultVar} {ars:List sb} {l:List ag},Gk P rs=some ars->rY br M ars=some l ->
  ∃vs:List Value,(rs.mapM fun r=>(match r with | .tmp t=>pure (a.tmps.getD t undef) | .cell q t=>do loadVar t (<-asAddr (a.tmps.getD q undef)):Sem Value)).run P w = .ok vs w/\l.length=vs.length /\
   ∀(i:Nat)(c:ag)(v:Value),l[i]?=some c->vs[i]?=some v->fY j M w c v
 | [],ars,l,h1,h2=>by
  simp_all [Gk,rY]
 | .tmp t::rs,ars,l,h1,h2=>by
  simp only[Gk] at h1;obtain⟨ars',h3,h1⟩:=aZ h1;cases h1;simp only[rY,CX,bT] at h2;obtain⟨l',h4,h2⟩:=bg h2;cases h2;obtain⟨vs,g1,g2,g3⟩:=BE hr he h3 h4
  refine⟨a.tmps.getD t undef::vs,by
   rw[List.mapM_cons,Sem.run_bind];simp_all,by simp[g2],fun i c v hc hv=>?_⟩
  cases i with
  |zero=>simp only[eL,eS] at hc hv; subst hc; subst hv; exact he.at' t
  |succ i=>grind
 | .cell q t::rs,ars,l,h1,h2=>by
  simp only[Gk] at h1;obtain⟨g,hg,h1⟩:=aZ h1;obtain⟨n,hn,h1⟩:=aZ h1;obtain⟨ars',h3,h1⟩:=aZ h1;cases h1;simp only[rY] at h2;obtain⟨c0,hc0,h2⟩:=bg h2;obtain⟨l',h4,h2⟩:=bg h2;cases h2;obtain⟨vs,g1,g2,g3⟩:=BE hr he h3 h4;have hq:=he.at' q
  have hload:∃v,(do loadVar t (<-asAddr (a.tmps.getD q undef)):Sem Value).run P w = .ok v w/\fY j M w c0 v:=by
   cases g with
   |true =>
    simp only[aG,CX] at hc0;split at hc0
    ·rename_i id off e;rw[e] at hq;obtain⟨b,_,_,hj,hv⟩:=hq.pa;rw[fE] at hc0;split at hc0
     ·rename_i cs hM;split at hc0
      ·rename_i hle;cases hc0;obtain⟨us,t0,hw,hl,hcs,hcell⟩:=vZ hr hM hj
       have hrun:=oW (P:=P) (w:=w) b off n (fun k=>(us[off+k]?).getD undef) fun k hk=>by
        rw[hcell,a8 (by omega)]; simp
       refine⟨_,by simp only[hv,asAddr,Sem.run_bind,Sem.run_pure,Result.andThen_ok,loadVar,kG hg,aG,ji hn,hrun]; rfl,.agg (by simp; omega) fun p c u hc hu=>?_⟩
       grind
      ·cases hc0
     ·cases hc0
    ·cases hc0
   |false =>
    simp only[af,az,CX] at hc0;split at hc0
    ·rename_i id off e;rw[e] at hq;obtain⟨b,_,_,hj,hv⟩:=hq.pa;rw[fE] at hc0;split at hc0
     ·rename_i cs hM;rw[fE] at hc0;obtain⟨us,t0,hw,hl,hcs,hcell⟩:=vZ hr hM hj;have cn:=aJ hc0;have hu:us[off]?=some (us[off]'(by omega)):=a8 (by omega)
      exact⟨_,by simp[hv,asAddr,loadVar,kG hg,hcell,hu],hcs _ _ _ hc0 hu⟩
     ·cases hc0
    ·cases hc0
  obtain⟨v0,hv0,hr0⟩:=hload;refine⟨v0::vs,?_,by simp[g2],fun i c v hc hv=>?_⟩
  ·rw[List.mapM_cons,Sem.run_bind,hv0];simp_all
  grind
def z7:∀(args:List ag)(i t:Nat),iv (fq i args) t=if i<=t then (args[t-i]?).getD .any else .any
 | [],i,t=>by simp[fq,iv]
 |v::r,i,t=>by
  rw[fq,iv,z7 r (i+1) t]
  by_cases h:i=t
  ·subst h; simp
  ·rw[aQ h]
   by_cases h2:i<=t
   ·rw[bh (by omega),bh h2,show t-i=(t-(i+1))+1 by omega]; simp
   ·rw[aQ (by omega),aQ h2]
def Lq{j:J}{M:aH}{w:World}:∀ {l:List ag} {us:List Value},l.length=us.length->(∀(i:Nat)(c:ag)(v:Value),l[i]?=some c->us[i]?=some v->fY j M w c v) ->
  fY j M w (one l) (if h:us.toArray.size=1 then us.toArray[0] else .tuple us.toArray)
 | [c0],[v0],_,h=>by simpa[one] using h 0 c0 v0 rfl rfl
 | [],[],_,_=>by simpa[one] using(fY.tuple (j:=j) (M:=M) (w:=w) (cs:=[]) (vs := #[]) rfl fun i c v h=>by simp at h)
 |c0::c1::r,v0::v1::s,hl,h=>by
  have:¬(v0::v1::s).toArray.size=1:=by simp
  rw[dif_neg this];exact .tuple (by simpa using hl) fun i c v h1 h2=>h i c v h1 (by simpa using h2)
 | [],_::_,hl,_=>by simp at hl
 | [_],[],hl,_=>by simp at hl
 | [_],_::_::_,hl,_=>by simp at hl
 |_::_::_,[],hl,_=>by simp at hl
 |_::_::_,[_],hl,_=>by simp at hl
def PZ(hmix:P.follows .mixedOrders=true)(hC:oQ P C){f:Nat}{fn:dY}{A:De}{func:Func}(hf:P.funcs[f]?=some func)(hc:oS P A func=some fn){args:List ag}{M:aH}{x:ag×aH}
  (hl:args.length=fn.nparams) (h:bI (eP C fn.body (fq 0 args) M) (finish fn.results M.length)=some x):lQ P f=true/\dC P f args M x:=by
 unfold oS at hc;split at hc
 ·cases hc
 ·rename_i c hbody;split at hc
  ·rename_i hcond;obtain⟨hname,hn,hle⟩:=hcond;obtain⟨b,hb,hc⟩:=aZ hc;obtain⟨rs,hrs,hc⟩:=aZ hc;cases hc;refine⟨by simp[lQ,hf,hbody,hname],fun j w vs hr hG dR hv=>?_⟩
   obtain⟨o,ho,hfin⟩:=bg h;simp only at hl;refine calls_of_wp hf hbody ?_;have hsz:(vs++Array.replicate (func.ntmps-vs.size) undef).size=A.n:=by simp; omega
   have he:cm j M w (fq 0 args) { tmps:=vs++Array.replicate (func.ntmps-vs.size) undef,defers:=[] }:=by
    refine⟨fun t=>?_,hG⟩
    rw[z7,bh (cS _),bN];rcases bF t args.length with ht|ht
    ·have h1:=ai ht;have cn:t<vs.size:=by omega
     have h2:=a8 cn;rw[h1];have h3:=hv t _ _ h1 h2
     have:(vs++Array.replicate (func.ntmps-vs.size) undef).getD t undef=vs[t]:=by
      simp[dh,cj cn,h2]
     rw[this];exact h3
    ·rw[ec ht]; exact .any _
   refine wp_mono (wpIn_wide.1 (lB (rd:=none) (nd:=0) hmix hC c hb ho hr hG he hsz)) ?_;rintro e a' w' ⟨he1,hs1,hd1,j1,r1,e1,x1⟩
   by_cases hpan:∃u,o.e = .mw u
   ·obtain⟨u,hu⟩:=hpan;rw[hu] at he1; subst he1;simp only[finish,hu] at hfin;cases hfin;exact⟨hd1,.inr ⟨u,rfl,rfl,j1,yG x1.len r1,vX x1.len rfl x1⟩⟩
   have hno:∀i,o.e ≠ .exit i:=by
    intro i hi;simp[finish,hi] at hfin
   have hfin':bI (rY o.br o.mem rs) (fun l=>some ((one l).lY M.length o.mem,lA M.length o.mem))=some x:=by
    unfold finish at hfin;split at hfin
    ·rename_i i hi; exact absurd hi (hno i)
    ·rename_i u hu; exact absurd ⟨u,hu⟩ hpan
    ·exact hfin
   obtain⟨l,hl',hfin'⟩:=bg hfin';cases hfin';obtain⟨us,u1,u2,u3⟩:=BE (P:=P) r1 e1 hrs hl';have hbase:M.length<=o.mem.length:=x1.len
   have hres:(results func a'.tmps).run P w' = .ok (if h:us.toArray.size=1 then us.toArray[0] else .tuple us.toArray) w':=by
    unfold results;rw[kH,Sem.run_bind,Sem.run_map];refine ik (congrArg (fun r:Result (List Value)=>Result.andThen (r.andThen fun a w' => .ok a.toArray w') _) (ik ?_ u1)) rfl
    rfl
   have hone:fY j1 o.mem w' (one l) (if h:us.toArray.size=1 then us.toArray[0] else .tuple us.toArray):=by
    exact Lq u2 u3
   have hfinal:∃v,(results func a'.tmps).run P w' = .ok v w'/\u9 j M w ((one l).lY M.length o.mem,lA M.length o.mem) (.returned v) w' :=
    ⟨_,hres,.inl ⟨_,rfl,j1,yG hbase r1,vX hbase rfl x1,DE hbase r1 hone⟩⟩
   cases hoe:o.e with
   |exit i=>exact absurd hoe (hno i)
   |mw u=>exact absurd ⟨u,hoe⟩ hpan
   |normal=>rw[hoe] at he1; subst he1; exact⟨hd1,hfinal⟩
   |ret=>rw[hoe] at he1; subst he1; exact⟨hd1,hfinal⟩
  ·cases hc
structure vV(P:Program)(T:yz):Prop where
 code:∀f fn,T.code f=some fn->∃A func,P.funcs[f]?=some func/\oS P A func=some fn
 mQ:∀f g,T.mQ f=some g->∀args M x,g args M=some x->lQ P f=true/\dC P f args M x
def yB(hmix:P.follows .mixedOrders=true){T:yz}(hT:vV P T):∀n,oQ P (jy T n)
 |0,f,args,M,x,h=>by
  unfold jy at h;split at h
  ·rename_i g hg; exact hT.mQ f g hg args M x h
  ·cases h
 |n+1,f,args,M,x,h=>by
  rw[jy] at h;split at h
  ·rename_i g hg; exact hT.mQ f g hg args M x h
  ·split at h
   ·cases h
   ·rename_i fn hfn;split at h
    ·rename_i hl;obtain⟨A,func,h1,h2⟩:=hT.code f fn hfn;exact PZ hmix (yB hmix hT n) h1 h2 hl h
    ·cases h
def ry(hmix:P.follows .mixedOrders=true){T:yz}(hT:vV P T):oQ P (ar T):=fun f args M x h=>by
 obtain⟨n,hn⟩:=vn h;exact yB hmix hT n f args M x hn
end
section
variable {j:J} {M:aH} {w w':World}
def nk(b:Nat):∀(l:List Value)(o:Nat)(w:World),w.setCells b o l=ot w b o l
 | [],_,_=>rfl
 |v::r,o,w=>by rw[World.setCells,ot,nk b r]
end
noncomputable def lG(sz bytes:Nat):List ag->aH->Option (ag×aH)
 | [.slice _ xs],M=>match xs with
  | []=>some (.slice .c0 [],M)
  |x::r=>cq (wid (x::r) sz/\cu (x::r).length bytes) (some (.cN M.length 0 sz 0 (x::r).length,M++[.arr sz 0 (x::r)]))
 |_,_=>none
noncomputable def HF(sz bytes:Nat):List ag->aH->Option (ag×aH)
 | [.slice _ xs],M=>cq (wid xs sz/\cu xs.length bytes) (some (.slice .sh xs,M))
 |_,_=>none
noncomputable def rn(sz bytes:Nat):List ag->aH->Option (ag×aH)
 | [.slice _ xs],M=>cq (wid xs sz/\cu xs.length bytes) (some (.slice (.own M.length) xs,M++[.tick sz xs.length]))
 |_,_=>none
noncomputable def kE(sz:Nat):List ag->aH->Option (ag×aH)
 | [.cN id ver sz' lo hi,.int .i64 i,.int .i64 i'],M=>match nth M id with
  |some (.arr sz0 v xs)=>cq (v=ver/\sz'=sz/\lo=0/\hi=xs.length/\0<=i/\i.toNat<xs.length/\i'=i+1/\xs.length<=2 ^ 44)
    (some (.cN id (ver+1) sz 0 (xs.length-1),jk M id (.arr sz0 (ver+1) (xs.take i.toNat++xs.drop (i.toNat+1)))))
  |_=>none
 |_,_=>none
noncomputable def km(sz bytes:Nat):List ag->aH->Option (ag×aH)
 | [.cN id ver sz' lo hi,.int .i64 i,.slice _ [e]],M=>match nth M id with
  |some (.arr sz0 v xs)=>cq (v=ver/\sz'=sz/\lo=0/\hi=xs.length/\0<=i/\i.toNat<=xs.length/\e.cells.length=sz/\cu (xs.length+1) bytes)
    (some (.cN id (ver+1) sz 0 (xs.length+1),jk M id (.arr sz0 (ver+1) (xs.take i.toNat++e::xs.drop i.toNat))))
  |_=>none
 | [.slice .c0 [],.int .i64 i,.slice _ [e]],M=>cq (i=0/\e.cells.length=sz) (some (.cN M.length 0 sz 0 1,M++[.arr sz 0 [e]]))
 |_,_=>none
def yA(P:Program)(f:Nat)(E:TypeId)(sz bytes:Nat):Prop:=∀(b off n c:Nat)(news:List Value)(w:World),news.length=n*sz->n<=maxLen->n*bytes<=140737488355328->(∀j u,news[j]?=some u->w.cell? ⟨b,off+j,none⟩=some u)->(∀u∈news,u.oneCell'=true) ->
 Calls P f #[.slice (some ⟨b,off,none⟩) n c] w fun e w'=>∃v',e = .returned v'/\w'.ownsRow w.heap.size E sz v' n news/\v' ≠ .slice none 0 0/\Below w.heap.size w w'
def vR(P:Program)(f:Nat):Prop:=∀(A:Option Addr)(c:Nat)(w:World),Calls P f #[.slice A 0 c] w fun e w'=>(∃B,e = .returned (.slice B 0 0))/\Below w.heap.size w w'
def Zk(P:Program)(f sz:Nat)(z:List Value):Prop:=∀(blk cap i i' n:Nat)(cs:List Value)(w:World),cs.length=n*sz->n<=cap->n<=9223372036854775807->i<n->i'=i+1 ->
 (∀p v,cs[p]?=some v->w.cell? ⟨blk,p,none⟩=some v/\w.frozen? ⟨blk,p,none⟩=false/\v.oneCell'=true) ->
 Calls P f #[.slice (some ⟨blk,0,none⟩) n cap,.int .i64 i,.int .i64 i'] w fun e w'=>e = .returned (.slice (some ⟨blk,0,none⟩) (n-1) cap) /\
  w'=(w.drew.setCells blk (i*sz) (cs.drop (i'*sz))).setCells blk ((n-1)*sz) z
def wT(sz:Nat)(w:World)(b:Nat)(row:Array Value)(t:TypeId)(n i:Nat)(cs vs:List Value)(e:Ending)(w':World):Prop :=
 ∃b' cap' row' t',e = .returned (.slice (some ⟨b',0,none⟩) (n+1) cap')/\n+1<=cap'/\w'.heap[b']?=some (.cells row' t' (0,0))/\cap'*sz<=row'.size /\
  (∀p,p<(n+1)*sz->row'[p]?=(cs.take (i*sz)++(vs++cs.drop (i*sz)))[p]?)/\Quiet w w' /\
  ((b'=b/\t'=t/\row'.size=row.size/\∀b0,b0≠b->b0<w.heap.size->w'.heap[b0]?=w.heap[b0]?)\/(w.heap.size<=b'/\∀b0,b0<w.heap.size->w'.heap[b0]?=w.heap[b0]?))
def Ou(P:Program)(f sz bytes:Nat):Prop:=∀(b n c i vb voff vc:Nat)(cs vs:List Value)(w:World)(row:Array Value)(t:TypeId),i<=n->n<=c->(n+1)*bytes<=140737488355328->n+1<=9223372036854775807->vb≠b->cs.length=n*sz->vs.length=sz->w.heap[b]?=some (.cells row t (0,0))->c*sz<=row.size ->
 (∀(p:Nat)(v:Value),cs[p]?=some v->row[p]?=some v)->(∀(p:Nat)(v:Value),vs[p]?=some v->w.cell? ⟨vb,voff+p,none⟩=some v)->(∀v∈cs,v.oneCell'=true)->(∀v∈vs,v.oneCell'=true) ->
 Calls P f #[.slice (some ⟨b,0,none⟩) n c,.int .i64 i,.slice (some ⟨vb,voff,none⟩) 1 vc] w (wT sz w b row t n i cs vs)
def Ov(P:Program)(f sz:Nat):Prop:=∀(A:Option Addr)(vb voff vc:Nat)(vs:List Value)(w:World)(row:Array Value),vs.length=sz->(∀(p:Nat)(v:Value),vs[p]?=some v->w.cell? ⟨vb,voff+p,none⟩=some v)->(∀v∈vs,v.oneCell'=true) ->
 Calls P f #[.slice A 0 0,.int .i64 0,.slice (some ⟨vb,voff,none⟩) 1 vc] w fun e w'=>wT sz w w.heap.size row 0 0 0 [] vs e w'
section
variable {P:Program} {f:Nat} {sz bytes:Nat} {E:TypeId}
def Da{α:Type}{vs:Array α}{p q r:ag}(h:[p,q,r].length=vs.size):∃a b c,vs = #[a,b,c]:=by
 obtain⟨l⟩:=vs
 match l,h with
 | [a,b,c],_=>simp
def BC{α:Type}{vs:Array α}{p:ag}(h:[p].length=vs.size):∃a,vs = #[a]:=by
 obtain⟨l⟩:=vs
 match l,h with
 | [a],_=>simp
def fY.wL{j:J}{M:aH}{w:World}{tk:Tk}{xs:List ag}{v:Value}(h:fY j M w (.slice tk xs) v):fF w (ng j M w) (.slice .sh xs) v:=h.dN
theorem rA(hsz:0<sz)(hby:bytes*8<=2 ^ 20/\0<bytes)
  (hC:yA P f E sz bytes) (h0:vR P f)
  {args:List ag} {M:aH} {x:ag×aH} (h:lG sz bytes args M=some x):dC P f args M x:=by
 unfold lG at h;split at h
 ·refine mD.call ?_;intro j w vs hr hG hl hv;obtain⟨u,rfl⟩:=BC hl;have h1:=(hv 0 _ u rfl rfl).wL;split at h
  ·cases h;obtain⟨A,cap,rfl,_,_⟩:=mN (size:=sz) h1 (fun y hy=>by cases hy)
   refine(h0 A cap w).mono ?_;rintro e w' ⟨⟨B,rfl⟩,hb⟩;exact⟨_,j,rfl,hr.grow hb.size hb.os hb.tape hb.output hb.block,Ext.grow hb.size hb.os hb.tape hb.output hb.block,.c0 _⟩
  ·rename_i y r;obtain⟨⟨hw,hroom⟩,h⟩:=da h;cases h;obtain⟨A,cap,rfl,hcap,h2⟩:=mN h1 hw;obtain⟨b,off,rfl,us,hrl,hul,hone,hcell⟩:=h2.resolve_left (by simp)
   unfold cu at hroom;have hle:(y::r).length<=2 ^ 44:=aV (fp _ hby.2) hroom;refine(hC b off (y::r).length cap us w hul (by unfold maxLen; omega) (by omega) (fun p u hp=>(hcell p u hp).1) hone).mono ?_
   rintro e w' ⟨v',rfl,⟨_,hown⟩,hnn,hb⟩;obtain⟨g,cap',cur,rfl,hg,hg',hn1,_,hcs,htk⟩:=hown.resolve_left (fun h=>hnn h.1)
   have q:Quiet w w':=⟨hb.size,hb.os,hb.tape,hb.output⟩;have hob:∀b,some g=some b->w.heap.size<=b/\b<w'.heap.size:=fun b h=>by grind
   have hcl:∀p,p<us.length->cur[p]?=us[p]?:=fun p hp=>by
    rw[<-htk,bE (by rw[<-hul]; exact hp)]; simp
   have ext:Ext j M w (gy j M.length (some g)) (M++[.arr sz 0 (y::r)]) w':=Ext.push (fun b h=>(hob b h).1) q hb.block
   refine⟨_,gy j M.length (some g),rfl,hr.push hob q hb.block (fun h=>by cases h) (fun sz n b h _=>by cases h) (fun sz0 v0 xs0 he=>?_),ext,?_⟩
   ·injection he with e1 e2 e3
    subst e1; subst e3;have hat:∀j' M',Ext j M w j' M' w'->Dy j' M' w' g sz (y::r):=fun j' M' hx=>ly hg' hw (hrl.mono hx.ia) hcl
    refine .inr ⟨g,cur,E,rfl,hg',by rw[hcs]; grind,hw,fun j' M' hx q x k c hx' hk=>?_⟩
    obtain⟨vs,t,a1,a2,a3,a4⟩:=hat j' M' hx;rw[hg'] at a1; injection a1 with a1; injection a1 with a1 a1'
    subst a1;exact a4 q x k c hx' hk
   ·refine .cN (.inl ⟨g,0,cap',rfl,by omega⟩) (by simp) (fun bx hbx=>by rw[lX] at hbx; cases hbx; rfl) fun sz' v' xs hx=>?_
    rw[lX] at hx; injection hx with hx; injection hx with e1 e2 e3
    subst e1; subst e2; subst e3;exact⟨aC _,fun _=>⟨rfl,cS _,aC _,.inr ⟨g,cap',cur,E,by simp[gy],by simp,by omega,hg',by rw[aK]; omega⟩⟩⟩
 ·cases h
theorem I7(hsz:0<sz)(hby:bytes*8<=2 ^ 20/\0<bytes)
  (hC:yA P f E sz bytes) (h0:vR P f)
  {args:List ag} {M:aH} {x:ag×aH} (h:HF sz bytes args M=some x):dC P f args M x:=by
 unfold HF at h;split at h
 ·rename_i tk xs;refine mD.call ?_;intro j w vs hr hG hl hv;obtain⟨u,rfl⟩:=BC hl;have h1:=(hv 0 _ u rfl rfl).wL;obtain⟨⟨hw,hroom⟩,h⟩:=da h;cases h;obtain⟨A,cap,rfl,hcap,h2⟩:=mN h1 hw;rcases h2 with rfl|⟨b,off,rfl,us,hrl,hul,hone,hcell⟩
  ·refine(h0 A cap w).mono ?_;rintro e w' ⟨⟨B,rfl⟩,hb⟩;exact⟨_,j,rfl,hr.grow hb.size hb.os hb.tape hb.output hb.block,Ext.grow hb.size hb.os hb.tape hb.output hb.block,.plain (fF.nil _ _ _)⟩
  ·unfold cu at hroom;have hle  := aV (fp _ hby.2) hroom;refine(hC b off xs.length cap us w hul (by grind [maxLen]) (by omega) (fun p u hp=>(hcell p u hp).1) hone).mono ?_
   rintro e w' ⟨v',rfl,⟨_,hown⟩,hnn,hb⟩;obtain⟨g,cap',cur,rfl,hg,hg',hn1,_,hcs,htk⟩:=hown.resolve_left (fun h=>hnn h.1)
   have ext:Ext j M w j M w':=Ext.grow hb.size hb.os hb.tape hb.output hb.block;refine⟨_,j,rfl,hr.grow hb.size hb.os hb.tape hb.output hb.block,ext,.plain ?_⟩
   have hcl:∀p,p<us.length->cur[p]?=us[p]?:=fun p hp=>by
    rw[<-htk,bE (by omega)]; simp
   obtain⟨vs,t,a1,a2,a3,a4⟩:=ly (j':=j) hg' hw (hrl.mono ext.ia) hcl;rw[hg'] at a1; injection a1 with a1; injection a1 with a1 a1'
   subst a1;have:=wX hg' a3 a4 (fun b off h=>h) (fun off ho=>⟨lt_of_block hg',fun id hid hji=>by have:=hr.lt id g hid hji; omega,fun hx=>by have:=hr.zC g off hx; omega⟩) (cS _) (aC _) (by omega)
   simpa using this
 grind
theorem yJ(hsz:0<sz)(hby:bytes*8<=2 ^ 20/\0<bytes)
  (hC:yA P f E sz bytes) (h0:vR P f)
  {args:List ag} {M:aH} {x:ag×aH} (h:rn sz bytes args M=some x):dC P f args M x:=by
 unfold rn at h;split at h
 ·rename_i tk xs;refine mD.call ?_;intro j w vs hr hG hl hv;obtain⟨u,rfl⟩:=BC hl;have h1:=(hv 0 _ u rfl rfl).wL;obtain⟨⟨hw,hroom⟩,h⟩:=da h;cases h;obtain⟨A,cap,rfl,hcap,h2⟩:=mN h1 hw;rcases h2 with rfl|⟨b,off,rfl,us,hrl,hul,hone,hcell⟩
  ·refine(h0 A cap w).mono ?_;rintro e w' ⟨⟨B,rfl⟩,hb⟩;have q:Quiet w w':=⟨hb.size,hb.os,hb.tape,hb.output⟩;refine⟨_,gy j M.length none,rfl,hr.push (fun b h=>by cases h) q hb.block (fun h=>by cases h) (fun _ _ _ _ h=>by cases h),Ext.push (fun b h=>by cases h) q hb.block,?_⟩
   refine .own (lX ..) (aC _) (fF.nil _ _ _) fun _ => .inl ⟨by simp[gy],rfl,B,rfl⟩
  ·unfold cu at hroom;have hle:xs.length<=2 ^ 44:=aV (fp _ hby.2) hroom;refine(hC b off xs.length cap us w hul (by grind [maxLen]) (by omega) (fun p u hp=>(hcell p u hp).1) hone).mono ?_
   rintro e w' ⟨v',rfl,⟨_,hown⟩,hnn,hb⟩;obtain⟨g,cap',cur,rfl,hg,hg',hn1,_,hcs,htk⟩:=hown.resolve_left (fun h=>hnn h.1)
   have q:Quiet w w':=⟨hb.size,hb.os,hb.tape,hb.output⟩;have hob:∀b,some g=some b->w.heap.size<=b/\b<w'.heap.size:=fun b h=>by grind
   have ext:Ext j M w (gy j M.length (some g)) (M++[.tick sz xs.length]) w':=Ext.push (fun b h=>(hob b h).1) q hb.block
   refine⟨_,gy j M.length (some g),rfl,hr.push hob q hb.block (fun h=>by cases h) (fun _ _ b _ h=>by grind),ext,?_⟩
   have hcl:∀p,p<us.length->cur[p]?=us[p]?:=fun p hp=>by
    rw[<-htk,bE (by rw[<-hul]; exact hp)]; simp
   obtain⟨vs,t,a1,a2,a3,a4⟩:=ly (j':=gy j M.length (some g)) (M':=M++[.tick sz xs.length]) hg' hw (hrl.mono ext.ia) hcl;rw[hg'] at a1; injection a1 with a1; injection a1 with a1 a1'
   subst a1
   have:=wX (lo:=0) (hi:=xs.length) (cap:=cap') hg' a3 a4 (fun b off h=>h) (fun off ho=>⟨lt_of_block hg',fun id hid hji=>by
    rcases bF id M.length with hid'|hid'
    ·have hj:j id=some g:=by simpa[gy,gI hid'] using hji
     have:=hr.lt id g hid' hj; omega
    grind,fun hx=>by have:=hr.zC g off hx; omega⟩) (cS _) (aC _) (by omega)
   refine .own (lX ..) (aC _) (by simpa using this) fun _ => .inr ⟨g,cap',cur,E,by simp[gy],by simp,hg',by omega,by omega⟩
 ·cases h
noncomputable def pCC(sz bytes:Nat)(args:List ag):aH->Option (ag×aH)
 | []=>HF sz bytes args []
 |b::M=>lG sz bytes args (b::M)
def OW(hsz:0<sz)(hby:bytes*8<=2 ^ 20/\0<bytes)
  (hC:yA P f E sz bytes) (h0:vR P f)
  {args:List ag} {M:aH} {x:ag×aH} (h:pCC sz bytes args M=some x):dC P f args M x:=by
 cases M with
 |nil=>exact I7 hsz hby hC h0 h
 |cons b M=>exact rA hsz hby hC h0 h
def sk(hsz:0<sz){z:List Value}(hz:z.length=sz)
  (hD:Zk P f sz z)
  {args:List ag} {M:aH} {x:ag×aH} (h:kE sz args M=some x):dC P f args M x:=by
 unfold kE at h;split at h
 ·rename_i id ver sz' lo hi i i';rw[fE] at h;split at h
  ·rename_i sz0 v0 xs hM;obtain⟨hc,h⟩:=da h;cases h;obtain⟨rfl,rfl,rfl,rfl,hi0,hin,rfl,hbig⟩:=hc;refine mD.call ?_;intro j w vs hr hG hl hv;obtain⟨u1,u2,u3,rfl⟩:=Da hl;have h2:=(hv 1 _ u2 rfl rfl).fN;have h3:=(hv 2 _ u3 rfl rfl).fN;subst h2; subst h3;obtain⟨_,hid,_,g⟩:=(hv 0 _ u1 rfl rfl).nJ;obtain⟨e1,_,_,⟨rfl,l3,B,rfl⟩|⟨b,cap,row,t0,l3,l4,l5,l6,l7⟩⟩:=(g sz0 v0 xs hM).2 rfl
   ·exact absurd hin (by simp)
   subst e1; subst l4;obtain⟨b',row',t',k1,k2,k3,k4,k5⟩:=hr.yE hM l3;rw[l3] at k1; cases k1;rw[l6] at k2; injection k2 with k2; injection k2 with k2 k2'
   subst k2; subst k2';have hrow:=wW (b:=b) k3 k4 k5;rw[bN] at l5;rw[aK] at l7;generalize hcs:row.toList.take (xs.length*sz0)=cs at hrow;have hcl:cs.length=xs.length*sz0:=by rw[<-hcs]; simp; omega
   have hat:∀p v,cs[p]?=some v->row[p]?=some v:=fun p v hp=>by
    have cn:p<xs.length*sz0:=by rw[<-hcl]; exact aJ hp
    rw[<-hcs,bE cn] at hp; simpa using hp
   obtain⟨m,rfl⟩:∃m:Nat,i=m:=⟨i.toNat,(nr (by assumption)).symm⟩
   simp only[ju] at hin ⊢;have e0:((m:Int)+1)=((m+1:Nat):Int):=rfl;rw[bN,jS,e0];refine(hD b cap m (m+1) xs.length cs w hcl l5 (by omega) hin rfl (fun p v hp=>⟨by simp[World.cell?,l6,hat p v hp],by simp[World.frozen?,l6],?_⟩)).mono ?_
   ·have hp':p<(jB xs).length:=by rw[hrow.1]; exact aJ hp
    exact fF.one (hrow.2 p _ v (ai hp') hp)
   ·rintro e w' ⟨rfl,hw'⟩;rw[nk,nk] at hw';have hl1:(cs.drop ((m+1)*sz0)).length=(xs.length-(m+1))*sz0:=by rw[iW,hcl,lu]
    have ha1:(m+1)*sz0=m*sz0+sz0:=by rw[bL,fG]
    have ha2:(xs.length-(m+1))*sz0=xs.length*sz0-(m*sz0+sz0):=by rw[lu,ha1]
    have ha3:(xs.length-1)*sz0=xs.length*sz0-sz0:=by rw[lu,fG]
    have ha4:m*sz0+sz0<=xs.length*sz0:=by rw[<-ha1]; exact bf _ hin
    have hd:w.drew.heap=w.heap:=rfl;obtain⟨s1,s2,s3,s4,s5,r1,s6,s7,s8,s9⟩:=lj (t:=t0) (cs.drop ((m+1)*sz0)) w.drew (m*sz0) row (by rw[hd]; exact l6) (by rw[hl1]; omega)
    obtain⟨q1,q2,q3,q4,q5,r2,q6,q7,q8,q9⟩:=lj (t:=t0) z _ ((xs.length-1)*sz0) r1 s6 (by rw[hz,s7]; omega)
    rw[<-hw'] at q1 q2 q3 q4 q5 q6;have hwd:wid (xs.take m++xs.drop (m+1)) sz0:=mr (uZ k4) (uY k4)
    have je:RL w (ng j M w) (jB (xs.take m++xs.drop (m+1))) (cs.take (m*sz0)++cs.drop ((m+1)*sz0)):=by
     rw[nA,ra m k4,td (m+1) k4];exact(hrow.take _).append (hrow.drop _)
    have htk:(cs.take (m*sz0)).length=m*sz0:=by rw[il,hcl]; omega
    have hput:=wV (ver':=v0+1) (xs':=xs.take m++xs.drop (m+1)) hr hM l3 (w':=w') ⟨by rw[q1,s1]; simp,q2.trans s2,q3.trans s3,q4.trans s4⟩ (fun b' hb' _=>(q5 b' hb').trans (s5 b' hb')) l6 q6 (q7.trans s7) (by omega) (fun h=>by omega) hwd je (fun p hp=>by
     rw[aD,htk,hl1] at hp;rw[q8 p (.inl (by omega))]
     rcases bF p (m*sz0) with c1|c1
     ·rw[s8 p (.inl c1),bA (by rw[htk]; exact c1),bE c1]
      have hp1:p<cs.length:=by omega
      rw[hat p _ (ai hp1),ai hp1]
     ·rw[bz (by rw[htk]; exact c1),htk]
      have:=s9 (p-m*sz0) (by rw[hl1]; omega)
      rw[db c1] at this;exact this)
    rw[gq];refine⟨_,j,rfl,hput.1,hput.2,.cN (.inl ⟨b,0,cap,rfl,by omega⟩) (by simpa using hid) (fun bx hbx=>by rw[dJ (aJ hM)] at hbx; cases hbx; rfl) fun sz' v' ys hx=>?_⟩
    rw[dJ (aJ hM)] at hx; injection hx with hx; injection hx with e1 e2 e3
    subst e1; subst e2; subst e3;exact⟨aC _,fun _=>⟨rfl,cS _,by simp; omega,.inr ⟨b,cap,r2,t0,l3,by simp,by omega,q6,by rw[aK,q7,s7]; exact l7⟩⟩⟩
  ·cases h
 ·cases h
end
section
variable {sz:Nat} {w:World} {b n c i:Nat} {row:Array Value} {t:TypeId} {cs vs:List Value} {e:Ending} {w':World}
def qT(w:World)(o:Obj):(w.alloc o).heap=w.heap.push o:=rfl
def sN(w:World):w.drew.heap=w.heap:=rfl
def Be{A B C:List Value}{p:Nat}:(A++(B++C))[p]?=if p<A.length then A[p]? else if p<A.length+B.length then B[p-A.length]? else C[p-A.length-B.length]?:=by
 split
 ·rw[bA (by assumption)]
 ·rw[bz (by omega)]
  split
  ·rw[bA (by omega)]
  ·rw[bz (by omega)]
def MQ(hi:i<n)(hroom:n+1<=c)(hcl:cs.length=n*sz)(hvl:vs.length=sz)(hw:w.heap[b]?=some (.cells row t (0,0)))(hrow:c*sz<=row.size)(hat:∀(p:Nat)(v:Value),cs[p]?=some v->row[p]?=some v)
  (he:e = .returned (.slice (some ⟨b,0,none⟩) (n+1) c)) (hw':w'=(w.drew.setCells b ((i+1)*sz) (cs.drop (i*sz))).setCells b (i*sz) vs):wT sz w b row t n i cs vs e w':=by
 have a1:(i+1)*sz=i*sz+sz:=by rw[bL,fG]
 have a2:(n+1)*sz=n*sz+sz:=by rw[bL,fG]
 have a3:i*sz+sz<=n*sz:=by rw[<-a1]; exact bf _ hi
 have a4:(n+1)*sz<=row.size:=aV (bf _ hroom) hrow;have hdl:(cs.drop (i*sz)).length=n*sz-i*sz:=by rw[iW,hcl]
 rw[nk,nk] at hw';obtain⟨s1,s2,s3,s4,s5,r1,s6,s7,s8,s9⟩:=lj (t:=t) (cs.drop (i*sz)) w.drew ((i+1)*sz) row hw (by omega)
 obtain⟨q1,q2,q3,q4,q5,r2,q6,q7,q8,q9⟩:=lj (t:=t) vs _ (i*sz) r1 s6 (by omega)
 rw[<-hw'] at q1 q2 q3 q4 q5 q6;have htk:(cs.take (i*sz)).length=i*sz:=by rw[il,hcl]; omega
 refine⟨b,c,r2,t,he,hroom,q6,by rw[q7,s7]; exact hrow,fun p hp=>?_,⟨by rw[q1,s1]; exact aC _,q2.trans s2,q3.trans s3,q4.trans s4⟩,.inl ⟨rfl,rfl,q7.trans s7,fun b0 h0 _=>(q5 b0 h0).trans (s5 b0 h0)⟩⟩
 rw[Be,htk,hvl];split
 ·rename_i c1;rw[q8 p (.inl c1),s8 p (.inl (by omega)),bE c1]
  have hp1:p<cs.length:=by omega
  rw[hat p _ (ai hp1),ai hp1]
 ·rename_i c1;split
  ·have:=q9 (p-i*sz) (by omega)
   rwa[db (by omega)] at this
  ·rw[q8 p (.inr (by omega))]
   have:=s9 (p-(i+1)*sz) (by omega)
   rw[db (by omega)] at this
   rw[this]; congr 1; omega
def Qc(hroom:n+1<=c)(hcl:cs.length=n*sz)(hvl:vs.length=sz)(hw:w.heap[b]?=some (.cells row t (0,0)))(hrow:c*sz<=row.size)(hat:∀(p:Nat)(v:Value),cs[p]?=some v->row[p]?=some v)
  (he:e = .returned (.slice (some ⟨b,0,none⟩) (n+1) c)) (hw':w'=w.setCells b (n*sz) vs):wT sz w b row t n n cs vs e w':=by
 have a2:(n+1)*sz=n*sz+sz:=by rw[bL,fG]
 have a4:(n+1)*sz<=row.size:=aV (bf _ hroom) hrow;rw[nk] at hw';obtain⟨q1,q2,q3,q4,q5,r2,q6,q7,q8,q9⟩:=lj (t:=t) vs w (n*sz) row hw (by omega)
 rw[<-hw'] at q1 q2 q3 q4 q5 q6;refine⟨b,c,r2,t,he,hroom,q6,by rw[q7]; exact hrow,fun p hp=>?_,⟨by rw[q1]; exact aC _,q2,q3,q4⟩,.inl ⟨rfl,rfl,q7,fun b0 h0 _=>q5 b0 h0⟩⟩
 rw[<-hcl,cg,List.drop_length,cW];rcases bF p cs.length with c1|c1
 ·rw[q8 p (.inl (by omega)),bA c1,hat p _ (ai c1),ai c1]
 ·rw[bz c1];have:=q9 (p-n*sz) (by omega)
  rw[db (by omega)] at this
  rw[this,hcl]
def yW{z:Value}{E:TypeId}(hsz:0<sz)(hz:z.cells.size=sz)(hcl:cs.length=n*sz)(hvl:vs.length=sz)(hG:n+1<=c)
  (he:e = .returned (.slice (some ⟨w.heap.size,0,none⟩) (n+1) c)) (hw':w'=w.drew.alloc (.cells ((cs++vs).toArray++Builtin.zeroCells z.cells (c-(n+1))) E)):wT sz w b row t n n cs vs e w':=by
 have a2:(n+1)*sz=n*sz+sz:=by rw[bL,fG]
 have hzl:(Builtin.zeroCells z.cells (c-(n+1))).size=(c-(n+1))*sz:=by simp[Builtin.zeroCells,hz]
 have a3:c*sz=(n+1)*sz+(c-(n+1))*sz:=by rw[<-bL,db hG]
 subst hw';refine⟨w.heap.size,c,(cs++vs).toArray++Builtin.zeroCells z.cells (c-(n+1)),E,he,hG,by rw[qT,sN]; simp,by simp[hzl,hcl,hvl]; omega,fun p hp=>?_,⟨by rw[qT,sN]; simp,rfl,rfl,rfl⟩,.inr ⟨aC _,fun b0 h0=>by rw[qT,sN]; simp[fI,gI h0]⟩⟩
 rw[cj (by simp; omega),<-hcl,cg,List.drop_length,cW]
 simp
def Qb{z:Value}{E:TypeId}(hsz:0<sz)(hz:z.cells.size=sz)(hi:i<n)(hcl:cs.length=n*sz)(hvl:vs.length=sz)(hG:n+1<=c)
  (he:e = .returned (.slice (some ⟨w.heap.size,0,none⟩) (n+1) c))
  (hw':w'=(((w.alloc (.cells ((cs.take (i*sz)).toArray++Builtin.zeroCells z.cells (n+1-i)++Builtin.zeroCells z.cells (c-(n+1))) E)).drew.setCells w.heap.size (i*sz) vs).drew).setCells w.heap.size ((i+1)*sz) (cs.drop (i*sz))):wT sz w b row t n i cs vs e w':=by
 have a1:(i+1)*sz=i*sz+sz:=by rw[bL,fG]
 have a2:(n+1)*sz=n*sz+sz:=by rw[bL,fG]
 have a3:i*sz+sz<=n*sz:=by rw[<-a1]; exact bf _ hi
 have hz1:(Builtin.zeroCells z.cells (n+1-i)).size=(n+1-i)*sz:=by simp[Builtin.zeroCells,hz]
 have hz2:(Builtin.zeroCells z.cells (c-(n+1))).size=(c-(n+1))*sz:=by simp[Builtin.zeroCells,hz]
 have a4:c*sz=(n+1)*sz+(c-(n+1))*sz:=by rw[<-bL,db hG]
 have a5:(n+1)*sz=i*sz+(n+1-i)*sz:=by rw[<-bL,db (by omega)]
 have htk:(cs.take (i*sz)).length=i*sz:=by rw[il,hcl]; omega
 have hdl:(cs.drop (i*sz)).length=n*sz-i*sz:=by rw[iW,hcl]
 generalize hR:(cs.take (i*sz)).toArray++Builtin.zeroCells z.cells (n+1-i)++Builtin.zeroCells z.cells (c-(n+1))=ROW at hw';have hRs:ROW.size=c*sz:=by rw[<-hR]; simp only[fP,hz1,hz2,cR,htk]; omega
 have hR0:∀p,p<i*sz->ROW[p]?=cs[p]?:=fun p hp=>by
  rw[<-hR,cj (by simp only[fP,hz1,cR,htk]; omega),cj (by simp only[cR,htk]; exact hp)]
  simp[bE hp]
 rw[nk,nk] at hw';have h0:((w.alloc (.cells ROW E)).drew).heap[w.heap.size]?=some (.cells ROW E (0,0)):=by rw[sN,qT]; simp
 obtain⟨s1,s2,s3,s4,s5,r1,s6,s7,s8,s9⟩:=lj (t:=E) vs _ (i*sz) ROW h0 (by omega)
 obtain⟨q1,q2,q3,q4,q5,r2,q6,q7,q8,q9⟩:=lj (t:=E) (cs.drop (i*sz)) (ot ((w.alloc (.cells ROW E)).drew) w.heap.size (i*sz) vs).drew ((i+1)*sz) r1 s6 (by omega)
 rw[<-hw'] at q1 q2 q3 q4 q5 q6;have hpush:((w.alloc (.cells ROW E)).drew).heap.size=w.heap.size+1:=by rw[sN,qT]; simp
 refine⟨w.heap.size,c,r2,E,he,hG,q6,by omega,fun p hp=>?_,⟨?_,q2.trans s2,q3.trans s3,q4.trans s4⟩,.inr ⟨aC _,fun b0 hb0=>?_⟩⟩
 ·rw[Be,htk,hvl];split
  ·rename_i c1;rw[q8 p (.inl (by omega)),s8 p (.inl c1),hR0 p c1,bE c1]
  ·rename_i c1;split
   ·rw[q8 p (.inl (by omega))]
    have:=s9 (p-i*sz) (by omega)
    rwa[db (by omega)] at this
   ·have:=q9 (p-(i+1)*sz) (by omega)
    rw[db (by omega)] at this
    rw[this]; congr 1; omega
 ·have e1:(ot ((w.alloc (.cells ROW E)).drew) w.heap.size (i*sz) vs).drew.heap.size=(ot ((w.alloc (.cells ROW E)).drew) w.heap.size (i*sz) vs).heap.size:=rfl;omega
 ·rw[q5 b0 (by omega)]
  refine(s5 b0 (by omega)).trans ?_
  rw[sN,qT]; simp[fI,gI hb0]
end
def sq{P:Program}{f sz bytes:Nat}(hsz:0<sz)(hby:0<bytes)
  (hI:Ou P f sz bytes) (h0:Ov P f sz)
  {args:List ag} {M:aH} {x:ag×aH} (h:km sz bytes args M=some x):dC P f args M x:=by
 unfold km at h;split at h
 ·rename_i id ver sz' lo hi i tk el;rw[fE] at h;split at h
  ·rename_i sz0 v0 xs hM;obtain⟨hc,h⟩:=da h;cases h;obtain⟨rfl,rfl,rfl,rfl,hi0,hin,hel,hroom⟩:=hc;refine mD.call ?_;intro j w vs hr hG hl hv;obtain⟨u1,u2,u3,rfl⟩:=Da hl;have h2:=(hv 1 _ u2 rfl rfl).fN;subst h2;have h3:=(hv 2 _ u3 rfl rfl).wL;have hwe:wid [el] sz':=fun y hy=>by rw[bP.1 hy]; exact hel
   obtain⟨A,vc,rfl,_,h4⟩:=mN h3 hwe;obtain⟨vb,voff,rfl,us,hrl,hul,hone,hcell⟩:=h4.resolve_left (by simp)
   obtain⟨_,hid,_,g⟩:=(hv 0 _ u1 rfl rfl).nJ;obtain⟨e1,_,_,⟨rfl,l3,B,rfl⟩|⟨b,cap,row,t0,l3,l4,l5,l6,l7⟩⟩:=(g sz0 v0 xs hM).2 rfl
   ·subst e1;have hm0:i=0:=by simp at hin; omega
    subst hm0;have hvl:us.length=sz0:=by simpa using hul
    refine(h0 B vb voff vc us w #[] hvl (fun p v hp=>(hcell p v hp).1) hone).mono ?_
    rintro e w' ⟨b',cap',row',t',rfl,d1,d2,d3,d4,q,d5⟩
    have hbk:w.heap.size<=b'/\∀b0,b0<w.heap.size->w'.heap[b0]?=w.heap[b0]?:=by
     rcases d5 with ⟨rfl,_,_,d7⟩|d5
     ·exact⟨aC _,fun b0 hb0=>d7 b0 (gI hb0) hb0⟩
     ·exact d5
    have hrel:=Rel.uc (ver':=v0+1) (xs':=[el]) hM hr q hbk.2 hbk.1 (lt_of_block d2) (by omega) (fun j' M' hx=>ly d2 hwe (hrl.mono hx.ia) (fun p hp=>by have:=d4 p (by omega); simpa using this))
    have hext:=Ext.uc (j:=j) (ver':=v0+1) (xs':=[el]) hM q hbk.2 hbk.1 (by omega)
    rw[gq];refine⟨_,_,rfl,by simpa using hrel,by simpa using hext,.cN (.inl ⟨b',0,cap',rfl,by simpa using d1⟩) (by simpa using hid) (fun bx hbx=>by rw[dJ (aJ hM)] at hbx; cases hbx; rfl) fun sz' v' ys hx=>?_⟩
    rw[dJ (aJ hM)] at hx; injection hx with hx; injection hx with e1 e2 e3
    subst e1; subst e2; subst e3;exact⟨aC _,fun _=>⟨rfl,cS _,by simp,.inr ⟨b',cap',row',t',by simp[gy],by simp,by simpa using d1,d2,by rw[aK]; exact d3⟩⟩⟩
   subst e1; subst l4;obtain⟨b',row',t',k1,k2,k3,k4,k5⟩:=hr.yE hM l3;rw[l3] at k1; cases k1;rw[l6] at k2; injection k2 with k2; injection k2 with k2 k2'
   subst k2; subst k2';have hrow:=wW (b:=b) k3 k4 k5;rw[bN] at l5;rw[aK] at l7;generalize hcs:row.toList.take (xs.length*sz0)=cs at hrow;have hcl:cs.length=xs.length*sz0:=by rw[<-hcs]; simp; omega
   have hat:∀p v,cs[p]?=some v->row[p]?=some v:=fun p v hp=>by
    have cn:p<xs.length*sz0:=by rw[<-hcl]; exact aJ hp
    rw[<-hcs,bE cn] at hp; simpa using hp
   obtain⟨m,rfl⟩:∃m:Nat,i=m:=⟨i.toNat,(nr (by assumption)).symm⟩
   simp only[ju] at hin ⊢;unfold cu at hroom;have hbig:xs.length+1<=2 ^ 44:=aV (fp _ hby) hroom;have hvl:us.length=sz0:=by simpa using hul
   have hvb:vb≠b:=by
    rintro rfl;obtain⟨s,n,hs1,_⟩:=(hcell 0 _ (ai (by omega))).2.ids id hid l3
    rw[hM] at hs1; cases hs1
   rw[bN,jS];refine(hI b xs.length cap m vb voff vc cs us w row t0 hin l5 (by omega) (by omega) hvb hcl hvl l6 l7 hat (fun p v hp=>(hcell p v hp).1) (fun v hv=>?_) hone).mono ?_
   ·obtain⟨p,hp⟩:=bJ hv;have hp':p<(jB xs).length:=by rw[hrow.1]; exact aJ hp
    exact fF.one (hrow.2 p _ v (ai hp') hp)
   ·rintro e w' ⟨b',cap',row',t',rfl,d1,d2,d3,d4,q,d5⟩
    have hwd:wid (xs.take m++el::xs.drop m) sz0:=mr (uZ k4) (fun y hy=>by
     rcases bC.1 hy with rfl|hy
     ·exact hel
     ·exact uY k4 y hy)
    have je:RL w (ng j M w) (jB (xs.take m++el::xs.drop m)) (cs.take (m*sz0)++(us++cs.drop (m*sz0))):=by
     rw[nA,nB,ra m k4,td m k4];have hrl':RL w (ng j M w) el.cells us:=by simpa[jB] using hrl
     exact(hrow.take _).append (hrl'.append (hrow.drop _))
    have dR:(xs.take m++el::xs.drop m).length=xs.length+1:=by simp; omega
    have hpl:(cs.take (m*sz0)++(us++cs.drop (m*sz0))).length=(xs.length+1)*sz0:=by rw[<-je.1,ir hwd,dR]
    rw[gq];rcases d5 with ⟨rfl,rfl,d6,d7⟩|⟨d6,d7⟩
    ·have hput:=wV (ver':=v0+1) (xs':=xs.take m++el::xs.drop m) hr hM l3 q d7 l6 d2 d6 (by omega) (fun h=>by omega) hwd je (fun p hp=>d4 p (by rw[<-hpl]; exact hp))
     refine⟨_,j,rfl,hput.1,hput.2,.cN (.inl ⟨b',0,cap',rfl,by omega⟩) (by simpa using hid) (fun bx hbx=>by rw[dJ (aJ hM)] at hbx; cases hbx; rfl) fun sz' v' ys hx=>?_⟩
     rw[dJ (aJ hM)] at hx; injection hx with hx; injection hx with e1 e2 e3
     subst e1; subst e2; subst e3;exact⟨aC _,fun _=>⟨rfl,cS _,by omega,.inr ⟨b',cap',row',t',l3,by simp,by omega,d2,by rw[aK]; exact d3⟩⟩⟩
    ·have hrel:=Rel.uc (ver':=v0+1) (xs':=xs.take m++el::xs.drop m) hM hr q d7 d6 (lt_of_block d2) (by omega) (fun j' M' hx=>ly d2 hwd (je.mono hx.ia) (fun p hp=>d4 p (by rw[<-hpl]; exact hp)))
     have hext:=Ext.uc (j:=j) (ver':=v0+1) (xs':=xs.take m++el::xs.drop m) hM q d7 d6 (by omega)
     refine⟨_,_,rfl,hrel,hext,.cN (.inl ⟨b',0,cap',rfl,by omega⟩) (by simpa using hid) (fun bx hbx=>by rw[dJ (aJ hM)] at hbx; cases hbx; rfl) fun sz' v' ys hx=>?_⟩
     rw[dJ (aJ hM)] at hx; injection hx with hx; injection hx with e1 e2 e3
     subst e1; subst e2; subst e3;exact⟨aC _,fun _=>⟨rfl,cS _,by omega,.inr ⟨b',cap',row',t',by simp[gy],by simp,by omega,d2,by rw[aK]; exact d3⟩⟩⟩
  ·cases h
 ·rename_i i tk el;obtain⟨hc,h⟩:=da h;cases h;obtain⟨rfl,hel⟩:=hc;refine mD.call ?_;intro j w vs hr hG hl hv;obtain⟨u1,u2,u3,rfl⟩:=Da hl;have h2:=(hv 1 _ u2 rfl rfl).fN;subst h2;have h3:=(hv 2 _ u3 rfl rfl).wL;have hwe:wid [el] sz:=fun y hy=>by rw[bP.1 hy]; exact hel
  obtain⟨A,vc,rfl,_,h4⟩:=mN h3 hwe;obtain⟨vb,voff,rfl,us,hrl,hul,hone,hcell⟩:=h4.resolve_left (by simp)
  obtain⟨B,rfl⟩:=(hv 0 _ u1 rfl rfl).BX;have hvl:us.length=sz:=by simpa using hul
  refine(h0 B vb voff vc us w #[] hvl (fun p v hp=>(hcell p v hp).1) hone).mono ?_
  rintro e w' ⟨b',cap',row',t',rfl,d1,d2,d3,d4,q,d5⟩
  have hbk:w.heap.size<=b'/\∀b0,b0<w.heap.size->w'.heap[b0]?=w.heap[b0]?:=by
   rcases d5 with ⟨rfl,_,_,d7⟩|d5
   ·exact⟨aC _,fun b0 hb0=>d7 b0 (gI hb0) hb0⟩
   ·exact d5
  have hob:∀b,some b'=some b->w.heap.size<=b/\b<w'.heap.size:=fun b h=>by cases h; exact⟨hbk.1,lt_of_block d2⟩
  have ext:Ext j M w (gy j M.length (some b')) (M++[.arr sz 0 [el]]) w':=Ext.push (fun b h=>(hob b h).1) q hbk.2
  refine⟨_,gy j M.length (some b'),rfl,hr.push hob q hbk.2 (fun h=>by cases h) (fun sz n b h _=>by cases h) (fun sz0 v0 xs0 he=>?_),ext,?_⟩
  ·injection he with e1 e2 e3
   subst e1; subst e3;refine .inr ⟨b',row',t',rfl,d2,by simp at d1 d3 ⊢; exact aV (Nat.le_mul_of_pos_left _ (by omega)) d3,hwe,fun j' M' hx q x k c hx' hk=>?_⟩
   obtain⟨vs,t,a1,a2,a3,a4⟩:=ly (j':=j') (M':=M') d2 hwe (hrl.mono hx.ia) (fun p hp=>by have:=d4 p (by omega); simpa using this)
   rw[d2] at a1; injection a1 with a1; injection a1 with a1 a1'
   subst a1;exact a4 q x k c hx' hk
  ·refine .cN (.inl ⟨b',0,cap',rfl,by omega⟩) (by simp) (fun bx hbx=>by rw[lX] at hbx; cases hbx; rfl) fun sz' v' xs hx=>?_
   rw[lX] at hx; injection hx with hx; injection hx with e1 e2 e3
   subst e1; subst e2; subst e3;exact⟨aC _,fun _=>⟨rfl,cS _,aC _,.inr ⟨b',cap',row',t',by simp[gy],by simp,by omega,d2,by rw[aK]; exact d3⟩⟩⟩
 ·cases h
end Go.Abs
namespace Go.Proofs.YtahkjijkflobhaaGreatDoor
open Go Go.Abs
open Go.RowKit Go.Lib
def EM{P:Program}(w:World){o:Oper}{a:Act}{K:Act->World->Prop}{Q:Exit->Act->World->Prop}(d s:Operand)(t t':TypeId)
  (ho:o.op = .call { callee := .builtin .copy,args := #[d,s],argTypes := #[t,t'] }) (v u:Value) (hd:a.eval d=v) (hs:a.eval s=u) {v':Value} {w':World}
  (hr:(Builtin.copy_ #[t,t'] o.type #[v,u]).run P w = .ok v' w') (h:K (a.put o.dst v') w'):o.wp P a w K Q:=by
 unfold Oper.wp execOp;simp only[ho,resolve,invoke,builtin,Sem.run_bind,Sem.run_pure,Result.andThen_ok,List.map_toArray,aP,bc,hd,hs,hr];exact h
def iG{P:Program}(w:World){ops:Array Oper}{rest:List Oper}{o:Oper}{a:Act}{Q:Exit->Act->World->Prop}(hgd:o.guard=none)(d s:Operand)(t t':TypeId)
  (ho:o.op = .call { callee := .builtin .copy,args := #[d,s],argTypes := #[t,t'] }) (v u:Value) (hd:a.eval d=v) (hs:a.eval s=u) {v':Value} {w':World}
  (hr:(Builtin.copy_ #[t,t'] o.type #[v,u]).run P w = .ok v' w') (h:wpList P ops Q rest (a.put o.dst v') w'):wpList P ops Q (o::rest) a w :=
 wpList_plain hgd fun _ hK=>EM w d s t t' ho v u hd hs hr (hK _ _ h)
def nn{P:Program}{ops:Array Oper}{o:Oper}{a:Act}{w:World}{K:Act->World->Prop}{Q:Exit->Act->World->Prop}{E:Prop}
  (hg:o.guard=none) (d x:Operand) (dT sT:TypeId) (hop:o.op=Op.call { callee:=Callee.builtin Builtin.copy,args := #[d,x],argTypes := #[dT,sT] })
  (v u:Value) (hd:a.eval d=v) (hx:a.eval x=u) {v':Value} {w':World} (hr:(Builtin.copy_ #[dT,sT] o.type #[v,u]).run P w = .ok v' w') (hK:K (a.put o.dst v') w') :
  if Region.wanted o (yielded ops a.tmps) then Oper.wp P o a w K Q else E:=by
 rw[bh (show Region.wanted o (yielded ops a.tmps)=true by simp[Region.wanted,hg])]
 exact EM w d x dT sT hop v u hd hx hr hK
def rr{P:Program}{ops:Array Oper}{o:Oper}{a:Act}{w:World}{K:Act->World->Prop}{Q:Exit->Act->World->Prop}{E:Prop}
  (hg:o.guard=none) (d x:Operand) (dT sT:TypeId) (hop:o.op=Op.call { callee:=Callee.builtin Builtin.append,args := #[d,x],argTypes := #[dT,sT] })
  (v u:Value) (hd:a.eval d=v) (hx:a.eval x=u) {v':Value} {w':World} (hr:(Builtin.append_ #[dT,sT] o.type #[v,u]).run P w = .ok v' w') (hK:K (a.put o.dst v') w') :
  if Region.wanted o (yielded ops a.tmps) then Oper.wp P o a w K Q else E:=by
 rw[bh (show Region.wanted o (yielded ops a.tmps)=true by simp[Region.wanted,hg])]
 exact wp_append_run w d x dT sT hop v u hd hx v' w' hr hK
section
variable {P:Program} {S E:TypeId} {k by' f fo:Nat} {z:Value}
def xk(w:World)(dT sT ty elem:TypeId)(k b o dLen dCap:Nat)(a:Addr)(sLen sCap:Nat)(cs:List Value)(m:Nat)
  (hu:P.underlying dT=some (.slice elem)) (hs:(P.info? elem).map (·.size)=some k) (hm:m=Nat.min sLen dLen) (hn:cs.length=m*k)
  (hsrc:∀j v,cs[j]?=some v->w.cell? (a.add j)=some v) (hc:∀j,j<cs.length->(w.cell? ⟨b,o+j,none⟩).isSome=true) (hf:∀j,j<cs.length->w.frozen? ⟨b,o+j,none⟩=false) (h1:∀v∈cs,v.oneCell'=true) :
  (Builtin.copy_ #[dT,sT] ty #[.slice (some ⟨b,o,none⟩) dLen dCap,.slice (some a) sLen sCap]).run P w = .ok (goInt m) (w.setCells b o cs):=by
 have hl:=run_loadCells_list (P:=P) w a cs hsrc;have hst:=run_storeCells_cells (P:=P) b o cs 0 w (by simpa using hc) (by simpa using hf) h1
 cases hq:P.info? elem with
 |none=>simp[hq] at hs
 |some i =>
  have hi:i.size=k:=by simpa[hq] using hs
  simp only[dg] at hst;rw[hn] at hl;subst hm;simp[Builtin.copy_,run_underlying hu,Builtin.lenOf,Builtin.firstCells,sizeOf,typeInfo,hq,hi,hl,hst]
def CZ(w:World)(tS tR e:TypeId)(ht:P.underlying tS=some (.slice e))(size:Nat)(hz:∀w,(Go.sizeOf e).run P w = .ok size w)
  (a b:Addr) (la ca lb cb:Nat) (hne:a.block≠b.block) (tA tB:TypeId) (kA:Nat) (vs:Array Value) (hsa:w.shape? a.block=some (tA,kA+1)) (hb:w.heap[b.block]?=some (.cells vs tB (0,0))) :
  (Extern.SlicesOverlaps.overlaps #[tS,tS] #[tR] #[.slice (some a) la ca,.slice (some b) lb cb]).run P w = .ok (.bool false) w:=by
 have hnb:(a.block != b.block)=true:=by simpa using hne
 have hnb':(a.block==b.block)=false:=by simpa using hne
 have hsb:w.shape? b.block=some (tB,vs.size):=by simp[World.shape?,hb]
 have hfb:∀o s,w.frozen? ⟨b.block,o,s⟩=false:=fun o s=>by simp[World.frozen?,hb]
 have hfb':w.frozen? b=false:=by simp[World.frozen?,hb]
 rw[show Extern.SlicesOverlaps.overlaps #[tS,tS] #[tR] #[.slice (some a) la ca,.slice (some b) lb cb]=(underlying tS >>= _) from rfl]
 by_cases h0:la=0\/lb=0\/size=0
 ·simp[run_underlying ht,hz,h0]
 ·cases hfa:w.frozen? a with
  |true=>simp[run_underlying ht,hz,h0,hnb,hnb',frozen,noView,viewAt,mayBeOne,stringish,shape,Sem.run,hsa,hsb,hfa,hfb,hfb']
  |false =>
   cases hfe:w.frozen? { block:=a.block,off:=kA+1 } <;>
   simp[run_underlying ht,hz,h0,hnb,hnb',frozen,noView,viewAt,mayBeOne,stringish,shape,Sem.run,hsa,hsb,hfa,hfb,hfb',hfe]
def Bt(w:World)(t e ty:TypeId)(ht:P.underlying t=some (.slice e)){i:TypeInfo}(hi:P.info? e=some i){z:Value}(hz:i.zero=some z)(b o n c:Nat)(hn:0<n)
  (zs:List Value) (hzs:zs=(Builtin.zeroCells z.cells n).toList) (hc:∀j,j<zs.length->(w.cell? ⟨b,o+j,none⟩).isSome=true) (hf:∀j,j<zs.length->w.frozen? ⟨b,o+j,none⟩=false) (h1:∀v∈zs,v.oneCell'=true) :
  (Builtin.clear_ #[t] ty #[.slice (some ⟨b,o,none⟩) n c]).run P w = .ok (.tuple #[]) (w.setCells b o zs):=by
 have hst:=run_storeCells_cells (P:=P) b o zs 0 w (by simpa using hc) (by simpa using hf) h1
 simp only[dg] at hst;rw[hzs] at hst;obtain⟨m,rfl⟩:∃m,n=m+1:=⟨n-1,by omega⟩
 rw[hzs];simp[Builtin.clear_,run_underlying ht,zeroValue,typeInfo,hi,hz,hst]
def py(b:Nat)(vs:List Value)(o:Nat)(w:World)(h:∀j,j<vs.length->(w.cell? ⟨b,o+j,none⟩).isSome=true)(k:Nat)(hk:(w.cell? ⟨b,k,none⟩).isSome=true):((w.setCells b o vs).cell? ⟨b,k,none⟩).isSome=true:=by
 by_cases hin:o<=k/\k<o+vs.length
 ·have:=World.cell?_setCells_in b vs o w h (k-o) (by omega)
  rw[show o+(k-o)=k by omega] at this
  rw[this];simp
 ·rw[World.cell?_setCells_out b vs o w ⟨b,k,none⟩ (fun _ _=>by show k<o\/o+vs.length<=k; omega)]
  exact hk
structure El(P:Program)(S E:TypeId)(k by':Nat)(z:Value):Prop where
 u:P.underlying S=some (.slice E)
 i:∃i0,P.info? E=some i0/\i0.size=k/\i0.zero=some z/\i0.bytes=by'
 c:z.cells.size=k
 o:∀v∈z.cells.toList,v.oneCell'=true
 p:0<k
 b:0<by'
def El.of(hu:P.underlying S=some (.slice E))(hi:(P.info? E).map (fun i=>(i.size,i.zero,i.bytes))=some (k,some z,by'))(hc:z.cells.size=k/\z.cells.toList.all (·.oneCell')=true)(hp:0<k)(hb:0<by'):El P S E k by' z:=by
 obtain⟨i0,h1,h2⟩:=aR.1 hi;injection h2 with h2 h3
 injection h3 with h3 h4
 exact⟨hu,⟨i0,h1,h2,h3,h4⟩,hc.1,bH.1 hc.2,hp,hb⟩
def El.s(h:El P S E k by' z):(P.info? E).map (·.size)=some k:=by
 obtain⟨i0,h1,h2,_⟩:=h.i;rw[h1]; simp[h2]
def El.so(h:El P S E k by' z)(w:World):(Go.sizeOf E).run P w = .ok k w:=by
 obtain⟨i0,h1,h2,_⟩:=h.i;simp[sizeOf,typeInfo,h1,h2]
def El.q(h:El P S E k by' z):(∀(w:World)(a:Option Addr)(n c n' c':Nat),(binOp .eql S (.slice a n c) (.slice none n' c')).run P w = .ok (.bool a.isNone) w)/\∀w,Sem.run P (underlying S) w = .ok (TypeDesc.slice E) w :=
 ⟨fun w a n c n' c'=>Lib.run_eql_slice_nil w _ _ a n c n' c' h.u,run_underlying h.u⟩
def vS(P:Program)(f:Nat)(S E:TypeId):Prop:=∀(b off n c:Nat)(w:World)(K:Value->World->Prop),
 (∀ {ops:Array Oper} {rest:List Oper} {o:Oper} {a:Act} {Q:Exit->Act->World->Prop},o.guard=none->∀s x,o.op = .call { callee := .builtin .append,args := #[s,x],argTypes := #[S,S] }->a.eval s = .slice (some ⟨w.heap.size,0,none⟩) 0 0 ->
  a.eval x = .slice (some ⟨b,off,none⟩) n c->(∀v' w1,K v' w1->wpList P ops Q rest (a.put o.dst v') w1)->wpList P ops Q (o::rest) a (w.alloc (.cells #[] E))) ->
 Calls P f #[.slice (some ⟨b,off,none⟩) n c] w fun e w'=>∃v',e = .returned v'/\K v' w'
def vQ(P:Program)(f:Nat)(S E:TypeId):Prop:=∀(A:Option Addr)(c:Nat)(w:World),
 (∀ty a,(Builtin.append_ #[S,S] ty #[.slice (some ⟨w.heap.size,0,none⟩) 0 0,.slice (some a) 0 c]).run P (w.alloc (.cells #[] E)) = .ok (.slice (some ⟨w.heap.size,0,none⟩) 0 0) (w.alloc (.cells #[] E))) ->
 Calls P f #[.slice A 0 c] w fun e w'=>(∃B,e = .returned (.slice B 0 0))/\(w'=w\/w'=w.alloc (.cells #[] E))
def sY(h:El P S E k by' z)(hw:vS P f S E):yA P f E k by':=by
 intro b off n c news w hl hn hbig hc h1;obtain⟨i0,g1,g2,g3,g4⟩:=h.i;refine(hw b off n c w (fun v' w'=>w'.ownsRow w.heap.size E k v' n news/\v' ≠ .slice none 0 0/\Below w.heap.size w w') ?_).mono fun e w' ⟨v',e1,e2⟩=>⟨v',e1,e2⟩
 intro ops rest o a Q hg s x ho hs hx hK;refine wpList_append_own _ hg s x S ho w.heap.size E i0 z k by' h.u g1 g3 g2 g4 h.c h.p _ _ _ hs (World.ownsRow_made w #[] 0 (aC _) (cS _) (by simp)) ⟨b,off,none⟩ n c news hx hl (fun j u hj=>?_) h1 (by rw[aK]; exact hn) (by rw[aK]; exact hbig) (by simp) ?_
 ·rw[Addr.add_lit];exact Lib.cell?_alloc_some _ (hc j u hj)
 ·intro v' w1 hown hgrow hnil;refine hK v' w1 ⟨by simpa using hown,by simpa using hnil,?_⟩
  exact((Below.refl _ w).alloc (aC _) _).grown hgrow (by simp) (by intro k hk; simp[Value.ownBlock] at hk; omega)
def qX(h:El P S E k by' z)(hw:vQ P f S E):vR P f:=by
 intro A c w;refine(hw A c w fun ty a=>?_).mono fun e w' ⟨h1,h2⟩=>⟨h1,?_⟩
 ·simp[Builtin.append_,run_underlying h.u,h.so,Builtin.lenOf,Builtin.firstCells,loadCells,loadCellsFrom,storeCells]
 ·rcases h2 with rfl|rfl
  ·exact Below.refl _ _
  ·exact(Below.refl _ w).alloc (aC _) _
def Oc(P:Program)(f:Nat)(S:TypeId)(k:Nat):Prop:=∀(blk cap i j n:Nat)(A:Addr)(w W1 W2:World),(if cap=j then some (⟨blk,0,none⟩:Addr) else some ⟨blk,j*k,none⟩)=some A ->
 (∀ty,(Builtin.append_ #[S,S] ty #[.slice (some ⟨blk,0,none⟩) i cap,.slice (some A) (n-j) (cap-j)]).run P w.drew = .ok (.slice (some ⟨blk,0,none⟩) (i+(n-j)) cap) W1) ->
 (∀ty,(Builtin.clear_ #[S] ty #[.slice (some ⟨blk,(i+(n-j))*k,none⟩) (n-(i+(n-j))) (cap-(i+(n-j)))]).run P W1 = .ok (.tuple #[]) W2) ->
 n<=cap->n<=9223372036854775807->i<n->i<=cap->i<j->j<=cap->j<=n ->
 Calls P f #[.slice (some ⟨blk,0,none⟩) n cap,.int .i64 i,.int .i64 j] w fun e w'=>e = .returned (.slice (some ⟨blk,0,none⟩) (i+(n-j)) cap)/\w'=W2
def Fb(h:El P S E k by' z)(hw:Oc P f S k):Zk P f k z.cells.toList:=by
 intro blk cap i j n cs w hl hcap hm hi hj hH;obtain⟨i0,g1,g2,g3,g4⟩:=h.i;have a1:j*k=i*k+k:=by rw[hj,lN]
 have a2:j*k<=n*k:=bf _ (by omega)
 have a3:(n-j)*k=n*k-j*k:=lu ..;have a4:(n-1)*k=n*k-k:=by rw[lu,fG]
 obtain⟨news,hnews⟩:∃news,news=cs.drop (j*k):=⟨_,rfl⟩;have dR:news.length=(n-j)*k:=by rw[hnews,iW,hl,a3]
 have hsome:∀p,p<n*k->(w.cell? ⟨blk,p,none⟩).isSome=true/\w.frozen? ⟨blk,p,none⟩=false:=fun p hp=>by
  obtain⟨h1,h2,_⟩:=hH p _ (ai (by omega))
  exact⟨by rw[h1]; rfl,h2⟩
 obtain⟨A,hA,hsrc⟩:∃A:Addr,(if cap=j then some (⟨blk,0,none⟩:Addr) else some ⟨blk,j*k,none⟩)=some A/\∀t u,news[t]?=some u->w.drew.cell? (A.add t)=some u:=by
  by_cases hc:cap=j
  ·refine⟨⟨blk,0,none⟩,by simp[hc],fun t u hu=>?_⟩
   have e0:n-j=0:=by omega
   have h0:news.length=0:=by rw[dR,e0,jS]
   rw[ck.1 h0] at hu;simp at hu
  ·refine⟨⟨blk,j*k,none⟩,by simp[hc],fun t u hu=>?_⟩
   rw[hnews,cH] at hu;rw[Addr.add_lit];exact(hH _ _ hu).1
 have s2:∀u∈news,u.oneCell'=true:=by
  intro u hu;rw[hnews] at hu;obtain⟨p,hp⟩:=bJ (dk hu);exact(hH p u hp).2.2
 have hW1c:∀p,p<n*k->((w.drew.setCells blk (i*k) news).cell? ⟨blk,p,none⟩).isSome=true:=fun p hp =>
  py blk news _ w.drew (fun q hq=>(hsome (i*k+q) (by rw[dR] at hq; omega)).1) p (hsome p hp).1
 have hW1f:∀p,p<n*k->(w.drew.setCells blk (i*k) news).frozen? ⟨blk,p,none⟩=false:=fun p hp=>by
  rw[World.frozen?_setCells];exact(hsome p hp).2
 have hin:i+(n-j)=n-1:=by omega
 have hzl:z.cells.toList.length=k:=by simp[h.c]
 have hzz:∀q,q<z.cells.toList.length->(n-1)*k+q<n*k:=fun q hq=>by
  have:k<=n*k:=Nat.le_mul_of_pos_left _ (by omega)
  omega
 refine(hw blk cap i j n A w (w.drew.setCells blk (i*k) news) ((w.drew.setCells blk (i*k) news).setCells blk ((n-1)*k) z.cells.toList) hA (fun ty=>?_) (fun ty=>?_) hcap hm hi (by omega) (by omega) (by omega) (by omega)).mono ?_
 ·have hr:=run_append_room_cells (P:=P) w.drew S ty E i0 h.u g1 blk 0 i cap A (n-j) (cap-j) news (by rw[g2,dR]) hsrc s2 (by omega) (fun q hq=>by rw[g2,aK]; exact(hsome _ (by omega)).1) (fun q hq=>by rw[g2,aK]; exact(hsome _ (by omega)).2)
  rw[g2,aK] at hr;exact hr
 ·rw[hin];exact Bt _ _ _ ty h.u g1 g3 blk _ _ _ (by omega) _ (by rw[show n-(n-1)=1 by omega,qe]; simp) (fun q hq=>hW1c _ (hzz q hq)) (fun q hq=>hW1f _ (hzz q hq)) h.o
 ·rintro e w' ⟨rfl,rfl⟩;exact⟨by rw[hin],by rw[hnews]⟩
def BJ(P:Program)(f fo:Nat)(S:TypeId)(k:Nat):Prop:=∀(b n c i vb voff vc:Nat)(vs:List Value)(w W1:World),
 (∀lb cb,(callFunc fo #[.slice (some ⟨vb,voff,none⟩) 1 vc,.slice (some ⟨b,(i+1)*k,none⟩) lb cb]).run P w = .ok (.value (.bool false)) w) ->
 (∀ty dc sc,(Builtin.copy_ #[S,S] ty #[.slice (some ⟨b,(i+1)*k,none⟩) (n-i) dc,.slice (some ⟨b,i*k,none⟩) (n+1-i) sc]).run P w.drew = .ok (goInt ((n-i:Nat):Int)) W1) ->
 (∀W:World,(∀x,W.cell? x=W1.cell? x)->(∀x,W.frozen? x=W1.frozen? x)->∀ty dc,(Builtin.copy_ #[S,S] ty #[.slice (some ⟨b,i*k,none⟩) (n+1-i) dc,.slice (some ⟨vb,voff,none⟩) 1 vc]).run P W = .ok (goInt 1) (W.setCells b (i*k) vs)) ->
 i<n->n+1<=c->n+1<=9223372036854775807->¬((i:Int)=(n:Int))->IntKind.i64.wrap ((i:Int)+1)=(i:Int)+1->(0:Int)<=(i:Int)+1->i<=n->((i:Int)+1).toNat=i+1->¬(c=i+1)->(i:Int)<=(n:Int)+1->¬(c=i) ->
 Calls P f #[.slice (some ⟨b,0,none⟩) n c,.int .i64 i,.slice (some ⟨vb,voff,none⟩) 1 vc] w fun e w'=>e = .returned (.slice (some ⟨b,0,none⟩) (n+1) c)/\w'=W1.setCells b (i*k) vs
def L4(P:Program)(f:Nat)(S:TypeId):Prop:=∀(bQ:Option Addr)(n c vb voff vc:Nat)(V:Value)(w W:World),
 (∀ty,(Builtin.append_ #[S,S] ty #[.slice bQ n c,.slice (some ⟨vb,voff,none⟩) 1 vc]).run P w = .ok V W)->n<=c->n+1<=9223372036854775807->(bQ=none->n=0) ->
 Calls P f #[.slice bQ n c,.int .i64 n,.slice (some ⟨vb,voff,none⟩) 1 vc] w fun e w'=>e = .returned V/\w'=W
def F2(P:Program)(f:Nat)(S E:TypeId)(k:Nat):Prop:=∀(b n c i G vb voff vc:Nat)(ROW:Array Value)(vs ds:List Value)(w:World),
 (∀ty,(Builtin.append_ #[S,3] ty #[.slice (some ⟨b,0,none⟩) i c,.int .i64 ((n:Int)+1-(i:Int))]).run P w = .ok (.slice (some ⟨w.heap.size,0,none⟩) (n+1) G) (w.drew.alloc (.cells ROW E))) ->
 (∀W:World,(∀x,W.cell? x=(w.drew.alloc (.cells ROW E)).cell? x)->(∀x,W.frozen? x=(w.drew.alloc (.cells ROW E)).frozen? x)->∀ty dc,(Builtin.copy_ #[S,S] ty #[.slice (some ⟨w.heap.size,i*k,none⟩) (n+1-i) dc,.slice (some ⟨vb,voff,none⟩) 1 vc]).run P W = .ok (goInt 1) (W.setCells w.heap.size (i*k) vs)) ->
 (∀W:World,(∀x,W.cell? x=((w.drew.alloc (.cells ROW E)).setCells w.heap.size (i*k) vs).cell? x)->(∀x,W.frozen? x=((w.drew.alloc (.cells ROW E)).setCells w.heap.size (i*k) vs).frozen? x)->∀ty dc sc,
  (Builtin.copy_ #[S,S] ty #[.slice (some ⟨w.heap.size,(i+1)*k,none⟩) (n+1-(i+1)) dc,.slice (some ⟨b,i*k,none⟩) (n-i) sc]).run P W = .ok (goInt ((n-i:Nat):Int)) (W.setCells w.heap.size ((i+1)*k) ds)) ->
 (∀x,((w.alloc (.cells ROW E)).drew).cell? x=(w.drew.alloc (.cells ROW E)).cell? x)->(∀x,((w.alloc (.cells ROW E)).drew).frozen? x=(w.drew.alloc (.cells ROW E)).frozen? x) ->
 (∀x,(((w.alloc (.cells ROW E)).drew.setCells w.heap.size (i*k) vs).drew).cell? x=((w.drew.alloc (.cells ROW E)).setCells w.heap.size (i*k) vs).cell? x) ->
 (∀x,(((w.alloc (.cells ROW E)).drew.setCells w.heap.size (i*k) vs).drew).frozen? x=((w.drew.alloc (.cells ROW E)).setCells w.heap.size (i*k) vs).frozen? x) ->
 i<n->n<=c->c<n+1->¬((i:Int)=(n:Int))->(c:Int)<(n:Int)+1->n+1<=G->G<=9223372036854775807->¬(G=i)->¬(G=i+1)->¬(c=i)->IntKind.i64.wrap ((i:Int)+1)=(i:Int)+1->(0:Int)<=(i:Int)+1->i<=n->((i:Int)+1).toNat=i+1->(i:Int)<=(n:Int)->n+1<=140737488355328 ->
 Calls P f #[.slice (some ⟨b,0,none⟩) n c,.int .i64 i,.slice (some ⟨vb,voff,none⟩) 1 vc] w fun e w'=>e = .returned (.slice (some ⟨w.heap.size,0,none⟩) (n+1) G) /\
  w'=(((w.alloc (.cells ROW E)).drew.setCells w.heap.size (i*k) vs).drew).setCells w.heap.size ((i+1)*k) ds
def UW{w:World}{vb voff:Nat}{v:Value}(h0:w.cell? ⟨vb,voff,none⟩=some v):∃tA kA,w.shape? vb=some (tA,kA+1):=by
 unfold World.cell? at h0;unfold World.shape?;split at h0
 ·rename_i cc ee ff hb;simp only[hb];simp at h0;have:=(fj.1 h0).1;exact⟨ee,cc.size-1,by simp; omega⟩
 ·cases h0
def BA(h:El P S E k by' z)(h3:P.underlying 3=some (.int .i64))(ho:∀args w,(callFunc fo args).run P w=((Extern.SlicesOverlaps.overlaps #[S,S] #[4] args).run P w).andThen fun v w' => .ok (.value v) w')
  (hS:BJ P f fo S k) (hE:L4 P f S) (hG:F2 P f S E k):Ou P f k by':=by
 intro b n c i vb voff vc cs vs w row tB hi hnc hbig h63 hvb hcl hvl hw hrow hat hvs h1c h1v;obtain⟨i0,hi0,hzs,hz0,hzb⟩:=h.i;have hk:=h.p;have hcs:∀(p:Nat)(v:Value),cs[p]?=some v->w.cell? ⟨b,p,none⟩=some v:=fun p v hp=>by simp[World.cell?,hw,hat p v hp]
 have hfz:∀j,w.frozen? ⟨b,j,none⟩=false:=fun j=>by simp[World.frozen?,hw]
 have a1:(n+1)*k=n*k+k:=lN ..;have a2:(i+1)*k=i*k+k:=lN ..;have a3:(n-i)*k=n*k-i*k:=lu ..;have a4:i*k<=n*k:=bf _ hi;have hdl:(cs.drop (i*k)).length=(n-i)*k:=by rw[iW,hcl,a3]
 have hv0:=hvs 0 _ (ai (by omega))
 have hle:n+1<=140737488355328:=aV (fp _ h.b) hbig;have hw1:IntKind.i64.wrap ((i:Int)+1)=(i:Int)+1:=by rw[IntKind.wrap_i64]; omega
 have hmin:1=Nat.min 1 (n+1-i):=by simp only[Nat.min_def]; split<;>omega
 by_cases hroom:n+1<=c
 ·have hr0:(n+1)*k<=row.size:=aV (bf _ hroom) hrow
  have hsp:∀j,j<(n+1)*k->(w.cell? ⟨b,j,none⟩).isSome=true:=fun j hj=>by
   simp[World.cell?,hw,a8 (show j<row.size by omega)]
  by_cases hin:i<n
  ·have a5:(i+1)*k<=n*k:=bf _ hin;obtain⟨tA,kA,hsa⟩:=UW hv0;refine(hS b n c i vb voff vc vs w (w.drew.setCells b ((i+1)*k) (cs.drop (i*k))) (fun lb cb=>?_) (fun ty dc sc=>?_) (fun W hWc hWf ty dc=>?_) hin hroom h63 (by omega) hw1 (by omega) (by omega) (by omega) (by omega) (by omega) (by omega)).mono ?_
   ·rw[ho,CZ w S 4 E h.u k h.so ⟨vb,voff,none⟩ ⟨b,(i+1)*k,none⟩ 1 vc lb cb hvb tA tB kA row hsa hw];rfl
   ·exact xk w.drew _ _ ty E k b ((i+1)*k) (n-i) dc ⟨b,i*k,none⟩ (n+1-i) sc (cs.drop (i*k)) (n-i) h.u h.s (by simp only[Nat.min_def]; split<;>omega) hdl
     (fun j v hj=>by rw[Addr.add_lit]; exact hcs (i*k+j) v (by rwa[cH] at hj))
     (fun j hj=>hsp ((i+1)*k+j) (by omega)) (fun j hj=>hfz _) (fun v hv=>h1c v (dk hv))
   ·exact xk W _ _ ty E k b (i*k) (n+1-i) dc ⟨vb,voff,none⟩ 1 vc vs 1 h.u h.s hmin (by rw[hvl,fG])
     (fun j v hj=>by
      rw[Addr.add_lit,hWc,World.cell?_setCells_out b _ _ _ _ (fun h _=>absurd h hvb)]
      exact hvs j v hj)
     (fun j hj=>by rw[hWc]; exact py b _ _ w.drew (fun j hj=>hsp ((i+1)*k+j) (by omega)) _ (hsp (i*k+j) (by omega)))
     (fun j hj=>by rw[hWf,World.frozen?_setCells]; exact hfz _) h1v
   ·rintro e w' ⟨he,hw'⟩;exact MQ hin hroom hcl hvl hw hrow hat he hw'
  ·obtain rfl:i=n:=by omega
   refine(hE (some ⟨b,0,none⟩) i c vb voff vc (.slice (some ⟨b,0,none⟩) (i+1) c) w (w.setCells b (i*k) vs) (fun ty=>?_) hnc h63 (by simp)).mono ?_
   ·have hr:=run_append_room_cells (P:=P) w S ty E i0 h.u hi0 b 0 i c ⟨vb,voff,none⟩ 1 vc vs (by rw[hzs,hvl,fG]) (fun j u hj=>by rw[Addr.add_lit]; exact hvs j u hj) h1v hroom
     (fun j hj=>by rw[hzs,aK]; exact hsp _ (by omega)) (fun j hj=>hfz _)
    rw[hzs,aK] at hr;exact hr
   ·rintro e w' ⟨he,hw'⟩;exact Qc hroom hcl hvl hw hrow hat he hw'
 ·have hGc:=grownCap_ge w (n+1) c E
  by_cases hin:i<n
  ·have a5:(i+1)*k<=n*k:=bf _ hin;have hbw:b<w.heap.size:=lt_of_block hw;have hvw:vb<w.heap.size:=block_lt_of_cell hv0;have hik:i+(n+1-i)=n+1:=by omega
   have hold:(Builtin.firstCells i0.size i (.slice (some ⟨b,0,none⟩) i c)).run P w.drew = .ok (cs.take (i*k)).toArray w.drew:=by
    rw[hzs]
    exact run_firstCells_some w.drew k i ⟨b,0,none⟩ i c (cs.take (i*k)) (by rw[il]; omega) (fun j v hj=>by
     rw[Addr.add_lit,aK];rw[gD] at hj;split at hj
     ·exact hcs j v hj
     ·cases hj)
   obtain⟨ROW,hROW⟩:∃ROW:Array Value,ROW=(cs.take (i*k)).toArray++Builtin.zeroCells z.cells (n+1-i)++Builtin.zeroCells z.cells (grownCap w (n+1) c E-(n+1)):=⟨_,rfl⟩
   have hRl:(n+1)*k<=ROW.size:=by
    have e1:(n+1-i)*k=(n+1)*k-i*k:=lu ..;rw[hROW];simp only[Builtin.zeroCells,fP,Array.size_map,Array.size_range,h.c,cR,il,hcl];omega
   have hN:∀j,j<(n+1)*k->((w.drew.alloc (.cells ROW E)).cell? ⟨w.heap.size,j,none⟩).isSome=true:=fun j hj=>by
    rw[World.cell?_alloc_at (w:=w.drew) ROW _ w.heap.size j rfl,a8 (by omega)]; rfl
   have hNf:∀j,(w.drew.alloc (.cells ROW E)).frozen? ⟨w.heap.size,j,none⟩=false:=fun j=>World.frozen?_alloc_at (w:=w.drew) ROW _ w.heap.size j rfl
   have hG63:grownCap w (n+1) c E<=9223372036854775807:=by
    have:=grownCap_le_maxLen w (n+1) c E (by unfold maxLen; omega)
    unfold maxLen at this;omega
   refine(hG b n c i (grownCap w (n+1) c E) vb voff vc ROW vs (cs.drop (i*k)) w (fun ty=>?_) (fun W hWc hWf ty dc=>?_) (fun W hWc hWf ty dc sc=>?_) (fun _=>rfl) (fun _=>rfl) (fun _=>rfl) (fun _=>rfl)
    hin hnc (by omega) (by omega) (by omega) hGc hG63 (by omega) (by omega) (by omega) hw1 (by omega) (by omega) (by omega) (by omega) hle).mono ?_
   ·have hr:=Lib.run_append_grow_zeros w S 3 ty E i0 _ .i64 .i64 h.u h3 hi0 hz0 (some ⟨b,0,none⟩) i c (cs.take (i*k)) hold (n+1-i) (by omega) (by omega) (by omega) (by omega)
     (by rw[hzb]; exact aV (bf _ (by omega:n+1-i<=n+1)) (by omega)) (by rw[hzb,hik]; exact growslice_fits (by omega) hbig)
    rw[hik] at hr;rw[show(n:Int)+1-(i:Int)=((n+1-i:Nat):Int) by omega,hROW]
    exact hr
   ·exact xk W _ _ ty E k w.heap.size (i*k) (n+1-i) dc ⟨vb,voff,none⟩ 1 vc vs 1 h.u h.s hmin (by rw[hvl,fG])
     (fun j v hj=>by rw[Addr.add_lit,hWc,World.cell?_alloc_past (w:=w.drew) _ vb _ hvw]; exact hvs j v hj)
     (fun j hj=>by rw[hWc]; exact hN (i*k+j) (by omega)) (fun j hj=>by rw[hWf]; exact hNf _) h1v
   ·exact xk W _ _ ty E k w.heap.size ((i+1)*k) (n+1-(i+1)) dc ⟨b,i*k,none⟩ (n-i) sc (cs.drop (i*k)) (n-i) h.u h.s (by simp only[Nat.min_def]; split<;>omega) hdl
     (fun j v hj=>by
      rw[Addr.add_lit,hWc,World.cell?_setCells_out _ _ _ _ _ (fun h _=>absurd h (by show b≠w.heap.size; omega)),World.cell?_alloc_past (w:=w.drew) _ b _ hbw]
      exact hcs (i*k+j) v (by rwa[cH] at hj))
     (fun j hj=>by rw[hWc]; exact py _ _ _ _ (fun t ht=>hN (i*k+t) (by omega)) _ (hN ((i+1)*k+j) (by omega)))
     (fun j hj=>by rw[hWf,World.frozen?_setCells]; exact hNf _) (fun v hv=>h1c v (dk hv))
   ·rintro e w' ⟨he,hw'⟩;rw[hROW] at hw';exact Qb hk h.c hin hcl hvl hGc he hw'
  ·obtain rfl:i=n:=by omega
   refine(hE (some ⟨b,0,none⟩) i c vb voff vc _ w _ (fun ty=>run_append_grow_src w S S ty E i0 z h.u hi0 hz0 (some ⟨b,0,none⟩) i c cs ?_ _ 1 vs ?_ (by omega) (by omega) (by rw[hzb]; exact growslice_fits (by omega) hbig)) hnc h63 (by simp)).mono ?_
   ·rw[hzs];exact run_firstCells_some w.drew k i _ i c cs hcl (fun j v hj=>by rw[Addr.add_lit,aK]; exact hcs j v hj)
   ·rw[hzs];exact Src.ofSlice w h.u ⟨vb,voff,none⟩ 1 vc vs (by rw[hvl,fG]) (fun j u hj=>by rw[Addr.add_lit]; exact hvs j u hj) h1v
   ·rintro e w' ⟨he,hw'⟩;exact yW hk h.c hcl hvl hGc he hw'
def BB(h:El P S E k by' z)(hby:by'<=140737488355328)(hE:L4 P f S):Ov P f k:=by
 intro A vb voff vc vs w row hvl hvs h1v;obtain⟨i0,hi0,hzs,hz0,hzb⟩:=h.i;refine(hE A 0 0 vb voff vc _ w _ (fun ty=>run_append_grow_src w S S ty E i0 z h.u hi0 hz0 A 0 0 [] ?_ _ 1 vs ?_ (by omega) (by omega) (by rw[hzb]; exact growslice_fits (by omega) (by omega))) (aC _) (by omega) (fun _=>rfl)).mono ?_
 ·rw[hzs];cases A with
  |none=>exact run_firstCells_none w.drew k 0 0 0
  |some a=>exact run_firstCells_some w.drew k 0 a 0 0 [] (by simp) (fun j v hj=>by simp at hj)
 ·rw[hzs];exact Src.ofSlice w h.u ⟨vb,voff,none⟩ 1 vc vs (by rw[hvl,fG]) (fun j u hj=>by rw[Addr.add_lit]; exact hvs j u hj) h1v
 ·rintro e w' ⟨he,hw'⟩;exact yW h.p h.c (by simp) hvl (grownCap_ge w 1 0 E) he hw'
end
section
set_option maxHeartbeats 4000000
set_option maxRecDepth 1000000
def mix:Tryz.prog.follows .mixedOrders=true:=by kernel_rfl
def Jk:El Tryz.prog 52 95 3 32 (.agg #[.string ⟨#[]⟩,.int .i64 0,.int .i64 0]) := .of underlying52 (by kernel_rfl) ⟨rfl,rfl⟩ (by omega) (by omega)
def Jh:El Tryz.prog 29 54 6 80 (.agg #[.int .i64 0,.int .i64 0,.int .i64 0,.slice none 0 0,.slice none 0 0,.int .i64 0]) := .of underlying29 (by kernel_rfl) ⟨rfl,rfl⟩ (by omega) (by omega)
def Ji:El Tryz.prog 37 58 3 24 (.agg #[.int .i64 0,.int .i64 0,.int .i64 0]) := .of underlying37 (by kernel_rfl) ⟨rfl,rfl⟩ (by omega) (by omega)
def Jj:El Tryz.prog 38 67 3 24 (.agg #[.int .i64 0,.int .i64 0,.int .i64 0]) := .of underlying38 (by kernel_rfl) ⟨rfl,rfl⟩ (by omega) (by omega)
def V9:El Tryz.prog 33 97 8 96 (.agg #[.int .i64 0,.int .i64 0,.int .i64 0,.int .i64 0,.int .i64 0,.slice none 0 0,.slice none 0 0,.int .i64 0]) := .of underlying33 (by kernel_rfl) ⟨rfl,rfl⟩ (by omega) (by omega)
def Wa:El Tryz.prog 34 104 3 24 (.agg #[.int .i64 0,.int .i64 0,.int .i64 0]) := .of underlying34 (by kernel_rfl) ⟨rfl,rfl⟩ (by omega) (by omega)
def V8:El Tryz.prog 23 5 1 1 (.int .u8 0) := .of underlying23 (by kernel_rfl) ⟨rfl,rfl⟩ (by omega) (by omega)
def ajm:vS Tryz.prog 214 52 95:=by
 intro b off n c w K hap;have mixed:=mix;have t25:=underlying52;obtain⟨q22,u22⟩:=Jk.q
 go_enter func214,ntmps214
 go_wp2_with (at_builtin; refine hap rfl _ _ rfl rfl rfl ?_)
 intro v' w1 hK
 go_wp2
 go_ret
 exact⟨v',rfl,hK⟩
def aje:vQ Tryz.prog 214 52 95:=by
 intro A c w hrun;have mixed:=mix;have t25:=underlying52;obtain⟨q22,u22⟩:=Jk.q;cases A with
 |none =>
  go_enter func214,ntmps214
  go_wp2
  go_ret
  exact⟨⟨_,rfl⟩,.inl rfl⟩
 |some a =>
  go_enter func214,ntmps214
  go_wp2_with (at_builtin; refine Lib.wpList_append_run _ rfl _ _ _ _ rfl _ _ rfl rfl _ _ (hrun _ _) ?_)
  go_ret
  exact⟨⟨_,rfl⟩,.inr rfl⟩
def ajq:vS Tryz.prog 255 29 54:=by
 intro b off n c w K hap;have mixed:=mix;have t25:=underlying29;obtain⟨q22,u22⟩:=Jh.q
 go_enter func255,ntmps255
 go_wp2_with (at_builtin; refine hap rfl _ _ rfl rfl rfl ?_)
 intro v' w1 hK
 go_wp2
 go_ret
 exact⟨v',rfl,hK⟩
def aji:vQ Tryz.prog 255 29 54:=by
 intro A c w hrun;have mixed:=mix;have t25:=underlying29;obtain⟨q22,u22⟩:=Jh.q;cases A with
 |none =>
  go_enter func255,ntmps255
  go_wp2
  go_ret
  exact⟨⟨_,rfl⟩,.inl rfl⟩
 |some a =>
  go_enter func255,ntmps255
  go_wp2_with (at_builtin; refine Lib.wpList_append_run _ rfl _ _ _ _ rfl _ _ rfl rfl _ _ (hrun _ _) ?_)
  go_ret
  exact⟨⟨_,rfl⟩,.inr rfl⟩
def ajn:vS Tryz.prog 220 37 58:=by
 intro b off n c w K hap;have mixed:=mix;have t25:=underlying37;obtain⟨q22,u22⟩:=Ji.q
 go_enter func220,ntmps220
 go_wp2_with (at_builtin; refine hap rfl _ _ rfl rfl rfl ?_)
 intro v' w1 hK
 go_wp2
 go_ret
 exact⟨v',rfl,hK⟩
def ajf:vQ Tryz.prog 220 37 58:=by
 intro A c w hrun;have mixed:=mix;have t25:=underlying37;obtain⟨q22,u22⟩:=Ji.q;cases A with
 |none =>
  go_enter func220,ntmps220
  go_wp2
  go_ret
  exact⟨⟨_,rfl⟩,.inl rfl⟩
 |some a =>
  go_enter func220,ntmps220
  go_wp2_with (at_builtin; refine Lib.wpList_append_run _ rfl _ _ _ _ rfl _ _ rfl rfl _ _ (hrun _ _) ?_)
  go_ret
  exact⟨⟨_,rfl⟩,.inr rfl⟩
def ajl:vS Tryz.prog 202 38 67:=by
 intro b off n c w K hap;have mixed:=mix;have t25:=underlying38;obtain⟨q22,u22⟩:=Jj.q
 go_enter func202,ntmps202
 go_wp2_with (at_builtin; refine hap rfl _ _ rfl rfl rfl ?_)
 intro v' w1 hK
 go_wp2
 go_ret
 exact⟨v',rfl,hK⟩
def ajd:vQ Tryz.prog 202 38 67:=by
 intro A c w hrun;have mixed:=mix;have t25:=underlying38;obtain⟨q22,u22⟩:=Jj.q;cases A with
 |none =>
  go_enter func202,ntmps202
  go_wp2
  go_ret
  exact⟨⟨_,rfl⟩,.inl rfl⟩
 |some a =>
  go_enter func202,ntmps202
  go_wp2_with (at_builtin; refine Lib.wpList_append_run _ rfl _ _ _ _ rfl _ _ rfl rfl _ _ (hrun _ _) ?_)
  go_ret
  exact⟨⟨_,rfl⟩,.inr rfl⟩
def ajo:vS Tryz.prog 224 33 97:=by
 intro b off n c w K hap;have mixed:=mix;have t25:=underlying33;obtain⟨q22,u22⟩:=V9.q
 go_enter func224,ntmps224
 go_wp2_with (at_builtin; refine hap rfl _ _ rfl rfl rfl ?_)
 intro v' w1 hK
 go_wp2
 go_ret
 exact⟨v',rfl,hK⟩
def ajg:vQ Tryz.prog 224 33 97:=by
 intro A c w hrun;have mixed:=mix;have t25:=underlying33;obtain⟨q22,u22⟩:=V9.q;cases A with
 |none =>
  go_enter func224,ntmps224
  go_wp2
  go_ret
  exact⟨⟨_,rfl⟩,.inl rfl⟩
 |some a =>
  go_enter func224,ntmps224
  go_wp2_with (at_builtin; refine Lib.wpList_append_run _ rfl _ _ _ _ rfl _ _ rfl rfl _ _ (hrun _ _) ?_)
  go_ret
  exact⟨⟨_,rfl⟩,.inr rfl⟩
def ajp:vS Tryz.prog 230 34 104:=by
 intro b off n c w K hap;have mixed:=mix;have t25:=underlying34;obtain⟨q22,u22⟩:=Wa.q
 go_enter func230,ntmps230
 go_wp2_with (at_builtin; refine hap rfl _ _ rfl rfl rfl ?_)
 intro v' w1 hK
 go_wp2
 go_ret
 exact⟨v',rfl,hK⟩
def ajh:vQ Tryz.prog 230 34 104:=by
 intro A c w hrun;have mixed:=mix;have t25:=underlying34;obtain⟨q22,u22⟩:=Wa.q;cases A with
 |none =>
  go_enter func230,ntmps230
  go_wp2
  go_ret
  exact⟨⟨_,rfl⟩,.inl rfl⟩
 |some a =>
  go_enter func230,ntmps230
  go_wp2_with (at_builtin; refine Lib.wpList_append_run _ rfl _ _ _ _ rfl _ _ rfl rfl _ _ (hrun _ _) ?_)
  go_ret
  exact⟨⟨_,rfl⟩,.inr rfl⟩
def ajk:vS Tryz.prog 139 23 5:=by
 intro b off n c w K hap;have mixed:=mix;have t25:=underlying23;obtain⟨q22,u22⟩:=V8.q
 go_enter func139,ntmps139
 go_wp2_with (at_builtin; refine hap rfl _ _ rfl rfl rfl ?_)
 intro v' w1 hK
 go_wp2
 go_ret
 exact⟨v',rfl,hK⟩
def ajc:vQ Tryz.prog 139 23 5:=by
 intro A c w hrun;have mixed:=mix;have t25:=underlying23;obtain⟨q22,u22⟩:=V8.q;cases A with
 |none =>
  go_enter func139,ntmps139
  go_wp2
  go_ret
  exact⟨⟨_,rfl⟩,.inl rfl⟩
 |some a =>
  go_enter func139,ntmps139
  go_wp2_with (at_builtin; refine Lib.wpList_append_run _ rfl _ _ _ _ rfl _ _ rfl rfl _ _ (hrun _ _) ?_)
  go_ret
  exact⟨⟨_,rfl⟩,.inr rfl⟩
def aju:Oc Tryz.prog 294 29 6:=by
 intro blk cap i j n A w W1 W2 hA hap hcl hcap hm hi hic hij hjc hjn;have mixed:=mix;have t25:=underlying29
 go_enter func294,ntmps294
 go_wp2_with fail
 go_region_law_o (refine rr rfl _ _ 29 29 rfl _ _ (by simp[Act.eval,Act.put]) (by simp[Act.eval,Act.put]) (hap _) ?_)
 go_wp2
 go_ret
 exact⟨rfl,rfl⟩
def ajt:Oc Tryz.prog 260 52 3:=by
 intro blk cap i j n A w W1 W2 hA hap hcl hcap hm hi hic hij hjc hjn;have mixed:=mix;have t25:=underlying52
 go_enter func260,ntmps260
 go_wp2_with fail
 go_region_law_o (refine rr rfl _ _ 52 52 rfl _ _ (by simp[Act.eval,Act.put]) (by simp[Act.eval,Act.put]) (hap _) ?_)
 go_wp2
 go_ret
 exact⟨rfl,rfl⟩
def ajr:Oc Tryz.prog 223 37 3:=by
 intro blk cap i j n A w W1 W2 hA hap hcl hcap hm hi hic hij hjc hjn;have mixed:=mix;have t25:=underlying37
 go_enter func223,ntmps223
 go_wp2_with fail
 go_region_law_o (refine rr rfl _ _ 37 37 rfl _ _ (by simp[Act.eval,Act.put]) (by simp[Act.eval,Act.put]) (hap _) ?_)
 go_wp2
 go_ret
 exact⟨rfl,rfl⟩
def ajs:Oc Tryz.prog 228 38 3:=by
 intro blk cap i j n A w W1 W2 hA hap hcl hcap hm hi hic hij hjc hjn;have mixed:=mix;have t25:=underlying38
 go_enter func228,ntmps228
 go_wp2_with fail
 go_region_law_o (refine rr rfl _ _ 38 38 rfl _ _ (by simp[Act.eval,Act.put]) (by simp[Act.eval,Act.put]) (hap _) ?_)
 go_wp2
 go_ret
 exact⟨rfl,rfl⟩
def aml:BJ Tryz.prog 256 290 29 6:=by
 intro b n c i vb voff vc vs w W1 hov hcp1 hcp2 hi hroom hc63 hz2 hw1 hb1 hin htn hb2 hb3 hb4;have mixed:=mix;have t25:=underlying29
 go_enter func256,ntmps256
 go_wp2_with (simp only[hov])
 go_region_law_o (refine nn rfl _ _ 29 29 rfl _ _ (by simp[Act.eval,Act.put]) (by simp[Act.eval,Act.put]) (hcp1 _ _ _) ?_)
 go_wp2_with (at_builtin; refine iG _ rfl _ _ 29 29 rfl _ _ rfl rfl (hcp2 _ (fun _=>rfl) (fun _=>rfl) _ _) ?_)
 go_ret
 exact⟨rfl,rfl⟩
def ZI:L4 Tryz.prog 256 29:=by
 intro bQ n c vb voff vc V w W hrun hnc hroom hnil;have t25:=underlying29
 go_enter func256,ntmps256
 cases bQ with
 |none =>
  have h0:=hnil rfl;subst h0
  go_wp2_with (at_builtin; refine Lib.wpList_append_run _ rfl _ _ _ _ rfl _ _ rfl rfl _ _ (hrun _) ?_)
  go_ret
  exact⟨rfl,rfl⟩
 |some a =>
  obtain⟨ab,ao,asp⟩:=a
  go_wp2_with (at_builtin; refine Lib.wpList_append_run _ rfl _ _ _ _ rfl _ _ rfl rfl _ _ (hrun _) ?_)
  all_goals (go_ret; exact⟨rfl,rfl⟩)
def akw:F2 Tryz.prog 256 29 54 6:=by
 intro b n c i G vb voff vc ROW vs ds w hrz hcpA hcpB hE1 hE2 hF1 hF2 hi hnc hroom hz2 hz3 hGn hG63 hGi hGim hci hw1 hb1 hin htn hb3 hle;have mixed:=mix;have t25:=underlying29
 go_enter func256,ntmps256
 go_wp2_with (first
  |(at_builtin; refine Lib.wpList_append_run _ rfl _ _ _ _ rfl _ _ rfl rfl _ _ (hrz _) ?_)
  |(at_builtin; refine iG _ rfl _ _ 29 29 rfl _ _ rfl rfl (hcpA _ hE1 hE2 _ _) ?_)
  |(at_builtin; refine iG _ rfl _ _ 29 29 rfl _ _ rfl rfl (hcpB _ (fun _=>rfl) (fun _=>rfl) _ _ _) ?_))
 go_region_law_o (refine nn rfl _ _ 29 29 rfl (.slice (some ⟨w.heap.size,(i+1)*6,none⟩) (n+1-(i+1)) (G-(i+1))) (.slice (some ⟨b,i*6,none⟩) (n-i) (c-i)) (by simp[Act.eval,Act.put]) (by simp[Act.eval,Act.put]) (hcpB _ hF1 hF2 3 (G-(i+1)) (c-i)) ?_)
 go_wp2
 go_ret
 exact⟨rfl,rfl⟩
def amm:BJ Tryz.prog 257 292 52 3:=by
 intro b n c i vb voff vc vs w W1 hov hcp1 hcp2 hi hroom hc63 hz2 hw1 hb1 hin htn hb2 hb3 hb4;have mixed:=mix;have t25:=underlying52
 go_enter func257,ntmps257
 go_wp2_with (simp only[hov])
 go_region_law_o (refine nn rfl _ _ 52 52 rfl _ _ (by simp[Act.eval,Act.put]) (by simp[Act.eval,Act.put]) (hcp1 _ _ _) ?_)
 go_wp2_with (at_builtin; refine iG _ rfl _ _ 52 52 rfl _ _ rfl rfl (hcp2 _ (fun _=>rfl) (fun _=>rfl) _ _) ?_)
 go_ret
 exact⟨rfl,rfl⟩
def ZJ:L4 Tryz.prog 257 52:=by
 intro bQ n c vb voff vc V w W hrun hnc hroom hnil;have t25:=underlying52
 go_enter func257,ntmps257
 cases bQ with
 |none =>
  have h0:=hnil rfl;subst h0
  go_wp2_with (at_builtin; refine Lib.wpList_append_run _ rfl _ _ _ _ rfl _ _ rfl rfl _ _ (hrun _) ?_)
  go_ret
  exact⟨rfl,rfl⟩
 |some a =>
  obtain⟨ab,ao,asp⟩:=a
  go_wp2_with (at_builtin; refine Lib.wpList_append_run _ rfl _ _ _ _ rfl _ _ rfl rfl _ _ (hrun _) ?_)
  all_goals (go_ret; exact⟨rfl,rfl⟩)
def akx:F2 Tryz.prog 257 52 95 3:=by
 intro b n c i G vb voff vc ROW vs ds w hrz hcpA hcpB hE1 hE2 hF1 hF2 hi hnc hroom hz2 hz3 hGn hG63 hGi hGim hci hw1 hb1 hin htn hb3 hle;have mixed:=mix;have t25:=underlying52
 go_enter func257,ntmps257
 go_wp2_with (first
  |(at_builtin; refine Lib.wpList_append_run _ rfl _ _ _ _ rfl _ _ rfl rfl _ _ (hrz _) ?_)
  |(at_builtin; refine iG _ rfl _ _ 52 52 rfl _ _ rfl rfl (hcpA _ hE1 hE2 _ _) ?_)
  |(at_builtin; refine iG _ rfl _ _ 52 52 rfl _ _ rfl rfl (hcpB _ (fun _=>rfl) (fun _=>rfl) _ _ _) ?_))
 go_region_law_o (refine nn rfl _ _ 52 52 rfl (.slice (some ⟨w.heap.size,(i+1)*3,none⟩) (n+1-(i+1)) (G-(i+1))) (.slice (some ⟨b,i*3,none⟩) (n-i) (c-i)) (by simp[Act.eval,Act.put]) (by simp[Act.eval,Act.put]) (hcpB _ hF1 hF2 3 (G-(i+1)) (c-i)) ?_)
 go_wp2
 go_ret
 exact⟨rfl,rfl⟩
def amj:BJ Tryz.prog 219 268 37 3:=by
 intro b n c i vb voff vc vs w W1 hov hcp1 hcp2 hi hroom hc63 hz2 hw1 hb1 hin htn hb2 hb3 hb4;have mixed:=mix;have t25:=underlying37
 go_enter func219,ntmps219
 go_wp2_with (simp only[hov])
 go_region_law_o (refine nn rfl _ _ 37 37 rfl _ _ (by simp[Act.eval,Act.put]) (by simp[Act.eval,Act.put]) (hcp1 _ _ _) ?_)
 go_wp2_with (at_builtin; refine iG _ rfl _ _ 37 37 rfl _ _ rfl rfl (hcp2 _ (fun _=>rfl) (fun _=>rfl) _ _) ?_)
 go_ret
 exact⟨rfl,rfl⟩
def ZG:L4 Tryz.prog 219 37:=by
 intro bQ n c vb voff vc V w W hrun hnc hroom hnil;have t25:=underlying37
 go_enter func219,ntmps219
 cases bQ with
 |none =>
  have h0:=hnil rfl;subst h0
  go_wp2_with (at_builtin; refine Lib.wpList_append_run _ rfl _ _ _ _ rfl _ _ rfl rfl _ _ (hrun _) ?_)
  go_ret
  exact⟨rfl,rfl⟩
 |some a =>
  obtain⟨ab,ao,asp⟩:=a
  go_wp2_with (at_builtin; refine Lib.wpList_append_run _ rfl _ _ _ _ rfl _ _ rfl rfl _ _ (hrun _) ?_)
  all_goals (go_ret; exact⟨rfl,rfl⟩)
def aku:F2 Tryz.prog 219 37 58 3:=by
 intro b n c i G vb voff vc ROW vs ds w hrz hcpA hcpB hE1 hE2 hF1 hF2 hi hnc hroom hz2 hz3 hGn hG63 hGi hGim hci hw1 hb1 hin htn hb3 hle;have mixed:=mix;have t25:=underlying37
 go_enter func219,ntmps219
 go_wp2_with (first
  |(at_builtin; refine Lib.wpList_append_run _ rfl _ _ _ _ rfl _ _ rfl rfl _ _ (hrz _) ?_)
  |(at_builtin; refine iG _ rfl _ _ 37 37 rfl _ _ rfl rfl (hcpA _ hE1 hE2 _ _) ?_)
  |(at_builtin; refine iG _ rfl _ _ 37 37 rfl _ _ rfl rfl (hcpB _ (fun _=>rfl) (fun _=>rfl) _ _ _) ?_))
 go_region_law_o (refine nn rfl _ _ 37 37 rfl (.slice (some ⟨w.heap.size,(i+1)*3,none⟩) (n+1-(i+1)) (G-(i+1))) (.slice (some ⟨b,i*3,none⟩) (n-i) (c-i)) (by simp[Act.eval,Act.put]) (by simp[Act.eval,Act.put]) (hcpB _ hF1 hF2 3 (G-(i+1)) (c-i)) ?_)
 go_wp2
 go_ret
 exact⟨rfl,rfl⟩
def amk:BJ Tryz.prog 229 270 38 3:=by
 intro b n c i vb voff vc vs w W1 hov hcp1 hcp2 hi hroom hc63 hz2 hw1 hb1 hin htn hb2 hb3 hb4;have mixed:=mix;have t25:=underlying38
 go_enter func229,ntmps229
 go_wp2_with (simp only[hov])
 go_region_law_o (refine nn rfl _ _ 38 38 rfl _ _ (by simp[Act.eval,Act.put]) (by simp[Act.eval,Act.put]) (hcp1 _ _ _) ?_)
 go_wp2_with (at_builtin; refine iG _ rfl _ _ 38 38 rfl _ _ rfl rfl (hcp2 _ (fun _=>rfl) (fun _=>rfl) _ _) ?_)
 go_ret
 exact⟨rfl,rfl⟩
def ZH:L4 Tryz.prog 229 38:=by
 intro bQ n c vb voff vc V w W hrun hnc hroom hnil;have t25:=underlying38
 go_enter func229,ntmps229
 cases bQ with
 |none =>
  have h0:=hnil rfl;subst h0
  go_wp2_with (at_builtin; refine Lib.wpList_append_run _ rfl _ _ _ _ rfl _ _ rfl rfl _ _ (hrun _) ?_)
  go_ret
  exact⟨rfl,rfl⟩
 |some a =>
  obtain⟨ab,ao,asp⟩:=a
  go_wp2_with (at_builtin; refine Lib.wpList_append_run _ rfl _ _ _ _ rfl _ _ rfl rfl _ _ (hrun _) ?_)
  all_goals (go_ret; exact⟨rfl,rfl⟩)
def akv:F2 Tryz.prog 229 38 67 3:=by
 intro b n c i G vb voff vc ROW vs ds w hrz hcpA hcpB hE1 hE2 hF1 hF2 hi hnc hroom hz2 hz3 hGn hG63 hGi hGim hci hw1 hb1 hin htn hb3 hle;have mixed:=mix;have t25:=underlying38
 go_enter func229,ntmps229
 go_wp2_with (first
  |(at_builtin; refine Lib.wpList_append_run _ rfl _ _ _ _ rfl _ _ rfl rfl _ _ (hrz _) ?_)
  |(at_builtin; refine iG _ rfl _ _ 38 38 rfl _ _ rfl rfl (hcpA _ hE1 hE2 _ _) ?_)
  |(at_builtin; refine iG _ rfl _ _ 38 38 rfl _ _ rfl rfl (hcpB _ (fun _=>rfl) (fun _=>rfl) _ _ _) ?_))
 go_region_law_o (refine nn rfl _ _ 38 38 rfl (.slice (some ⟨w.heap.size,(i+1)*3,none⟩) (n+1-(i+1)) (G-(i+1))) (.slice (some ⟨b,i*3,none⟩) (n-i) (c-i)) (by simp[Act.eval,Act.put]) (by simp[Act.eval,Act.put]) (hcpB _ hF1 hF2 3 (G-(i+1)) (c-i)) ?_)
 go_wp2
 go_ret
 exact⟨rfl,rfl⟩
end
def Mo{args:List ag}{M:aH}{x:ag×aH}(h:lG 3 32 args M=some x):dC Tryz.prog 214 args M x:=rA (by omega) (by omega) (sY Jk ajm) (qX Jk aje) h
def Mq{args:List ag}{M:aH}{x:ag×aH}(h:lG 6 80 args M=some x):dC Tryz.prog 255 args M x:=rA (by omega) (by omega) (sY Jh ajq) (qX Jh aji) h
def Mp{args:List ag}{M:aH}{x:ag×aH}(h:lG 3 24 args M=some x):dC Tryz.prog 220 args M x:=rA (by omega) (by omega) (sY Ji ajn) (qX Ji ajf) h
def Mn{args:List ag}{M:aH}{x:ag×aH}(h:lG 3 24 args M=some x):dC Tryz.prog 202 args M x:=rA (by omega) (by omega) (sY Jj ajl) (qX Jj ajd) h
def IX{args:List ag}{M:aH}{x:ag×aH}(h:rn 8 96 args M=some x):dC Tryz.prog 224 args M x:=yJ (by omega) (by omega) (sY V9 ajo) (qX V9 ajg) h
def IY{args:List ag}{M:aH}{x:ag×aH}(h:rn 3 24 args M=some x):dC Tryz.prog 230 args M x:=yJ (by omega) (by omega) (sY Wa ajp) (qX Wa ajh) h
def acZ{args:List ag}{M:aH}{x:ag×aH}(h:pCC 1 1 args M=some x):dC Tryz.prog 139 args M x:=OW (by omega) (by omega) (sY V8 ajk) (qX V8 ajc) h
def Mx{args:List ag}{M:aH}{x:ag×aH}(h:kE 6 args M=some x):dC Tryz.prog 294 args M x:=sk (sz:=6) (z:=(Value.agg #[.int .i64 0,.int .i64 0,.int .i64 0,.slice none 0 0,.slice none 0 0,.int .i64 0]).cells.toList) (by omega) rfl (Fb Jh aju) h
def Mw{args:List ag}{M:aH}{x:ag×aH}(h:kE 3 args M=some x):dC Tryz.prog 260 args M x:=sk (sz:=3) (z:=(Value.agg #[.string ⟨#[]⟩,.int .i64 0,.int .i64 0]).cells.toList) (by omega) rfl (Fb Jk ajt) h
def Mu{args:List ag}{M:aH}{x:ag×aH}(h:kE 3 args M=some x):dC Tryz.prog 223 args M x:=sk (sz:=3) (z:=(Value.agg #[.int .i64 0,.int .i64 0,.int .i64 0]).cells.toList) (by omega) rfl (Fb Ji ajr) h
def Mv{args:List ag}{M:aH}{x:ag×aH}(h:kE 3 args M=some x):dC Tryz.prog 228 args M x:=sk (sz:=3) (z:=(Value.agg #[.int .i64 0,.int .i64 0,.int .i64 0]).cells.toList) (by omega) rfl (Fb Jj ajs) h
def MT{args:List ag}{M:aH}{x:ag×aH}(h:km 6 80 args M=some x):dC Tryz.prog 256 args M x:=sq (by omega) (by omega) (BA Jh underlying3 (fun args w=>run_callFunc_extern func290 (by kernel_rfl) (by kernel_rfl) (by kernel_rfl) (by kernel_rfl) args w) aml ZI akw) (BB Jh (by omega) ZI) h
def MU{args:List ag}{M:aH}{x:ag×aH}(h:km 3 32 args M=some x):dC Tryz.prog 257 args M x:=sq (by omega) (by omega) (BA Jk underlying3 (fun args w=>run_callFunc_extern func292 (by kernel_rfl) (by kernel_rfl) (by kernel_rfl) (by kernel_rfl) args w) amm ZJ akx) (BB Jk (by omega) ZJ) h
def MR{args:List ag}{M:aH}{x:ag×aH}(h:km 3 24 args M=some x):dC Tryz.prog 219 args M x:=sq (by omega) (by omega) (BA Ji underlying3 (fun args w=>run_callFunc_extern func268 (by kernel_rfl) (by kernel_rfl) (by kernel_rfl) (by kernel_rfl) args w) amj ZG aku) (BB Ji (by omega) ZG) h
def MS{args:List ag}{M:aH}{x:ag×aH}(h:km 3 24 args M=some x):dC Tryz.prog 229 args M x:=sq (by omega) (by omega) (BA Jj underlying3 (fun args w=>run_callFunc_extern func270 (by kernel_rfl) (by kernel_rfl) (by kernel_rfl) (by kernel_rfl) args w) amk ZH akv) (BB Jj (by omega) ZH) h
end Go.Proofs.YtahkjijkflobhaaGreatDoor
namespace Go.Proofs
open Go.Shelf
def Tryz.H6:Go.Shelf.Ren:=⟨fun|6=>216|15=>242|14=>267|28=>284|29=>285|20=>297|21=>298|22=>299|23=>300|24=>301|25=>302|26=>303|27=>304|46=>320|47=>310|48=>311|49=>321|50=>322|57=>332|n=>n,fun|22=>52|24=>95|25=>267|3=>3|39=>287|0=>0|53=>321|55=>323|4=>4|46=>315|45=>314|50=>141|5=>5|9=>9|66=>334|70=>338|76=>351|77=>64|n=>n,fun|n=>n⟩
def Tryz.LK:Go.Proofs.SlLaysF0.n6 Tryz.prog Tryz.H6:={
 mixed:=by kernel_rfl
 f6:=⟨Tryz.f216.name,by decide,Tryz.func216.trans (congrArg some (by kernel_rfl))⟩
 f14:=⟨Tryz.f267.name,by decide,Tryz.func267.trans (congrArg some (by kernel_rfl))⟩
 f15:=Tryz.func242.trans (congrArg some (by kernel_rfl))
 f20:=⟨Tryz.f297.name,by decide,Tryz.func297.trans (congrArg some (by kernel_rfl))⟩
 f21:=⟨Tryz.f298.name,by decide,Tryz.func298.trans (congrArg some (by kernel_rfl))⟩
 f22:=⟨Tryz.f299.name,by decide,Tryz.func299.trans (congrArg some (by kernel_rfl))⟩
 f23:=⟨Tryz.f300.name,by decide,Tryz.func300.trans (congrArg some (by kernel_rfl))⟩
 f24:=⟨Tryz.f301.name,by decide,Tryz.func301.trans (congrArg some (by kernel_rfl))⟩
 f25:=⟨Tryz.f302.name,by decide,Tryz.func302.trans (congrArg some (by kernel_rfl))⟩
 f26:=⟨Tryz.f303.name,by decide,Tryz.func303.trans (congrArg some (by kernel_rfl))⟩
 f27:=⟨Tryz.f304.name,by decide,Tryz.func304.trans (congrArg some (by kernel_rfl))⟩
 f28:=Tryz.func284.trans (congrArg some (by kernel_rfl))
 f29:=Tryz.func285.trans (congrArg some (by kernel_rfl))
 f46:=⟨Tryz.f320.name,by decide,Tryz.func320.trans (congrArg some (by kernel_rfl))⟩
 f47:=Tryz.func310.trans (congrArg some (by kernel_rfl))
 f48:=Tryz.func311.trans (congrArg some (by kernel_rfl))
 f49:=⟨Tryz.f321.name,by decide,Tryz.func321.trans (congrArg some (by kernel_rfl))⟩
 f50:=⟨Tryz.f322.name,by decide,Tryz.func322.trans (congrArg some (by kernel_rfl))⟩
 f57:=⟨Tryz.f332.name,by decide,Tryz.func332.trans (congrArg some (by kernel_rfl))⟩
 t0:=underlying0
 a0:=isAgg0
 z0:=sizeOf0
 v0:=zeroValue0
 t3:=underlying3
 a3:=isAgg3
 z3:=sizeOf3
 v3:=zeroValue3
 t4:=underlying4
 a4:=isAgg4
 z4:=sizeOf4
 v4:=zeroValue4
 t5:=underlying5
 a5:=isAgg5
 z5:=sizeOf5
 v5:=zeroValue5
 t9:=underlying9
 a9:=isAgg9
 z9:=sizeOf9
 v9:=zeroValue9
 t22:=underlying52
 a22:=isAgg52
 z22:=sizeOf52
 v22:=zeroValue52
 t25:=underlying267
 a25:=isAgg267
 z25:=sizeOf267
 v25:=zeroValue267
 t39:=underlying287
 a39:=isAgg287
 z39:=sizeOf287
 v39:=zeroValue287
 t45:=underlying314
 a45:=isAgg314
 z45:=sizeOf314
 v45:=zeroValue314
 t46:=underlying315
 a46:=isAgg315
 z46:=sizeOf315
 v46:=zeroValue315
 t50:=underlying141
 a50:=isAgg141
 z50:=sizeOf141
 v50:=zeroValue141
 t53:=underlying321
 a53:=isAgg321
 z53:=sizeOf321
 v53:=zeroValue321
 t55:=underlying323
 a55:=isAgg323
 z55:=sizeOf323
 v55:=zeroValue323
 t66:=underlying334
 a66:=isAgg334
 z66:=sizeOf334
 v66:=zeroValue334
 t70:=underlying338
 a70:=isAgg338
 z70:=sizeOf338
 v70:=zeroValue338
 t76:=underlying351
 a76:=isAgg351
 z76:=sizeOf351
 v76:=zeroValue351
 t77:=underlying64
 a77:=isAgg64
 z77:=sizeOf64
 v77:=zeroValue64 }
def Tryz.FJ:Go.Shelf.Ren:=⟨fun|6=>158|15=>242|14=>241|28=>284|29=>285|20=>276|21=>277|22=>278|23=>279|24=>280|25=>281|26=>282|27=>283|46=>309|47=>310|48=>311|49=>312|50=>313|57=>327|n=>n,fun|22=>29|24=>54|25=>216|3=>3|39=>287|0=>0|53=>321|55=>323|4=>4|46=>315|45=>314|50=>141|5=>5|9=>9|66=>334|70=>338|76=>351|77=>64|n=>n,fun|n=>n⟩
def Tryz.H8:Go.Proofs.SlLaysF0.n6 Tryz.prog Tryz.FJ:={
 mixed:=by kernel_rfl
 f6:=⟨Tryz.f158.name,by decide,Tryz.func158.trans (congrArg some (by kernel_rfl))⟩
 f14:=⟨Tryz.f241.name,by decide,Tryz.func241.trans (congrArg some (by kernel_rfl))⟩
 f15:=Tryz.func242.trans (congrArg some (by kernel_rfl))
 f20:=⟨Tryz.f276.name,by decide,Tryz.func276.trans (congrArg some (by kernel_rfl))⟩
 f21:=⟨Tryz.f277.name,by decide,Tryz.func277.trans (congrArg some (by kernel_rfl))⟩
 f22:=⟨Tryz.f278.name,by decide,Tryz.func278.trans (congrArg some (by kernel_rfl))⟩
 f23:=⟨Tryz.f279.name,by decide,Tryz.func279.trans (congrArg some (by kernel_rfl))⟩
 f24:=⟨Tryz.f280.name,by decide,Tryz.func280.trans (congrArg some (by kernel_rfl))⟩
 f25:=⟨Tryz.f281.name,by decide,Tryz.func281.trans (congrArg some (by kernel_rfl))⟩
 f26:=⟨Tryz.f282.name,by decide,Tryz.func282.trans (congrArg some (by kernel_rfl))⟩
 f27:=⟨Tryz.f283.name,by decide,Tryz.func283.trans (congrArg some (by kernel_rfl))⟩
 f28:=Tryz.func284.trans (congrArg some (by kernel_rfl))
 f29:=Tryz.func285.trans (congrArg some (by kernel_rfl))
 f46:=⟨Tryz.f309.name,by decide,Tryz.func309.trans (congrArg some (by kernel_rfl))⟩
 f47:=Tryz.func310.trans (congrArg some (by kernel_rfl))
 f48:=Tryz.func311.trans (congrArg some (by kernel_rfl))
 f49:=⟨Tryz.f312.name,by decide,Tryz.func312.trans (congrArg some (by kernel_rfl))⟩
 f50:=⟨Tryz.f313.name,by decide,Tryz.func313.trans (congrArg some (by kernel_rfl))⟩
 f57:=⟨Tryz.f327.name,by decide,Tryz.func327.trans (congrArg some (by kernel_rfl))⟩
 t0:=underlying0
 a0:=isAgg0
 z0:=sizeOf0
 v0:=zeroValue0
 t3:=underlying3
 a3:=isAgg3
 z3:=sizeOf3
 v3:=zeroValue3
 t4:=underlying4
 a4:=isAgg4
 z4:=sizeOf4
 v4:=zeroValue4
 t5:=underlying5
 a5:=isAgg5
 z5:=sizeOf5
 v5:=zeroValue5
 t9:=underlying9
 a9:=isAgg9
 z9:=sizeOf9
 v9:=zeroValue9
 t22:=underlying29
 a22:=isAgg29
 z22:=sizeOf29
 v22:=zeroValue29
 t25:=underlying216
 a25:=isAgg216
 z25:=sizeOf216
 v25:=zeroValue216
 t39:=underlying287
 a39:=isAgg287
 z39:=sizeOf287
 v39:=zeroValue287
 t45:=underlying314
 a45:=isAgg314
 z45:=sizeOf314
 v45:=zeroValue314
 t46:=underlying315
 a46:=isAgg315
 z46:=sizeOf315
 v46:=zeroValue315
 t50:=underlying141
 a50:=isAgg141
 z50:=sizeOf141
 v50:=zeroValue141
 t53:=underlying321
 a53:=isAgg321
 z53:=sizeOf321
 v53:=zeroValue321
 t55:=underlying323
 a55:=isAgg323
 z55:=sizeOf323
 v55:=zeroValue323
 t66:=underlying334
 a66:=isAgg334
 z66:=sizeOf334
 v66:=zeroValue334
 t70:=underlying338
 a70:=isAgg338
 z70:=sizeOf338
 v70:=zeroValue338
 t76:=underlying351
 a76:=isAgg351
 z76:=sizeOf351
 v76:=zeroValue351
 t77:=underlying64
 a77:=isAgg64
 z77:=sizeOf64
 v77:=zeroValue64 }
def Tryz.I1:Go.Shelf.Ren:=⟨fun|5=>154|7=>239|n=>n,fun|22=>3|3=>3|4=>4|n=>n,fun|n=>n⟩
def Tryz.OY:Go.Proofs.SlLaysC2.n5 Tryz.prog Tryz.I1:={
 mixed:=by kernel_rfl
 f5:=⟨Tryz.f154.name,by decide,Tryz.func154.trans (congrArg some (by kernel_rfl))⟩
 f7:=⟨Tryz.f239.name,by decide,Tryz.func239.trans (congrArg some (by kernel_rfl))⟩
 t3:=underlying3
 a3:=isAgg3
 z3:=sizeOf3
 v3:=zeroValue3
 t4:=underlying4
 a4:=isAgg4
 z4:=sizeOf4
 v4:=zeroValue4
 t22:=underlying3
 a22:=isAgg3
 z22:=sizeOf3
 v22:=zeroValue3 }
end Go.Proofs
namespace Go.Proofs.YtahkjijkflobhaaGreatDoor
open Go Go.Shelf Go.RowKit Go.Lib Go.Sort
set_option maxHeartbeats 1000000 in
def I0(v0 v1 u0 u1:Value)(x y:Int)(W:World):Calls Tryz.prog 217 #[.agg #[v0,v1,.int .i64 x],.agg #[u0,u1,.int .i64 y]] W fun e w'=>e = .returned (.int .i64 (Lib.compareInt x y))/\∃q os',w'=grow (W.drewN q) os':=by
 have hcon:=fun W'=>AnyG.cmp_Compare_int Tryz.OY x y W'
 change ∀W',Calls Tryz.prog 154 _ _ _ at hcon;generalize Lib.compareInt x y=r at hcon ⊢
 go_enter func217,ntmps217
 go_wp2_with (go_at_call 154; refine(hcon _).mono ?_; rintro e w' ⟨rfl,rfl⟩)
 go_ret
 exact⟨rfl,0,_,by rw[alloc_eq_grow,alloc_eq_grow,grow_grow]; rfl⟩
set_option maxHeartbeats 1000000 in
def IZ(v1 v2 v3 v4 v5 u1 u2 u3 u4 u5:Value)(x y:Int)(W:World):Calls Tryz.prog 159 #[.agg #[.int .i64 x,v1,v2,v3,v4,v5],.agg #[.int .i64 y,u1,u2,u3,u4,u5]] W fun e w'=>e = .returned (.int .i64 (Lib.compareInt x y))/\∃q os',w'=grow (W.drewN q) os':=by
 have hcon:=fun W'=>AnyG.cmp_Compare_int Tryz.OY x y W'
 change ∀W',Calls Tryz.prog 154 _ _ _ at hcon;generalize Lib.compareInt x y=r at hcon ⊢
 go_enter func159,ntmps159
 go_wp2_with (go_at_call 154; refine(hcon _).mono ?_; rintro e w' ⟨rfl,rfl⟩)
 go_ret
 exact⟨rfl,0,_,by rw[alloc_eq_grow,alloc_eq_grow,grow_grow]; rfl⟩
structure EL(sz p:Nat) where
 l:List Value
 hl:l.length=sz
 h1:∀v∈l,v.oneCell'=true
 n:Int
 hn:l[p]?=some (.int .i64 n)
def Zz{sz p:Nat}(a b:EL sz p):Int:=Lib.compareInt a.n b.n
def ltE{sz p:Nat}(x y:EL sz p):ltOf Zz x y=decide (x.n<y.n):=by
 unfold ltOf Zz Lib.compareInt
 by_cases h1:x.n<y.n
 ·simp[h1]
 ·by_cases h2:y.n<x.n<;>simp[h1,h2]
def amn{sz p:Nat}:SWO (ltOf (Zz (sz:=sz) (p:=p))) where
 irrefl x:=by rw[ltE]; simp
 trans x y z h1 h2:=by rw[ltE] at *; simp at *; omega
 ntrans x y z h1 h2:=by rw[ltE] at *; simp at *; omega
def I3[Inhabited (EL 3 2)](blk off size:Nat)(w:World):CmpLays Tryz.prog 217 #[] (EL.l (sz:=3) (p:=2)) 3 Zz blk off size w:=fun _ _ _ _ x y=>by
 obtain⟨l,hl,h1,n,hn⟩:=x;obtain⟨l',hl',h1',n',hn'⟩:=y
 match l,hl,hn,l',hl',hn' with
 | [a,b,c],_,hn,[a',b',c'],_,hn' =>
  cases hn;cases hn';exact I0 a b a' b' n n' _
def I2[Inhabited (EL 6 0)](blk off size:Nat)(w:World):CmpLays Tryz.prog 159 #[] (EL.l (sz:=6) (p:=0)) 6 Zz blk off size w:=fun _ _ _ _ x y=>by
 obtain⟨l,hl,h1,n,hn⟩:=x;obtain⟨l',hl',h1',n',hn'⟩:=y
 match l,hl,hn,l',hl',hn' with
 | [a,b,c,d,e,f],_,hn,[a',b',c',d',e',f'],_,hn' =>
  cases hn;cases hn';exact IZ b c d e f b' c' d' e' f' n n' _
end Go.Proofs.YtahkjijkflobhaaGreatDoor
namespace Go.Abs
open Go
def Qn(p:Nat)(x:ag):Option Int:=match x.cells[p]? with
 |some (.int .i64 n)=>some n
 |_=>none
def sr(p:Nat)(x:ag):Int:=(Qn p x).getD 0
def Cq(p:Nat)(x:ag):List ag->List ag
 | []=>[x]
 |y::r=>if sr p x<sr p y then x::y::r else y::Cq p x r
def pZ(p:Nat):List ag->List ag
 | []=>[]
 |x::r=>Cq p x (pZ p r)
def Ad(p:Nat)(x:ag):∀l,(Cq p x l).Perm (x::l)
 | [] => .refl _
 |y::r=>by
  rw[Cq];split
  ·exact .refl _
  ·exact((Ad p x r).cons y).trans (.swap x y r)
def tD(p:Nat):∀l,(pZ p l).Perm l
 | [] => .refl _
 |x::r=>(Ad p x _).trans ((tD p r).cons x)
def K2(p:Nat)(x:ag):∀l:List ag,l.Pairwise (fun a b=>sr p a<=sr p b)->(Cq p x l).Pairwise fun a b=>sr p a<=sr p b
 | [],_=>by simp[Cq]
 |y::r,h=>by
  obtain⟨h1,h2⟩:=cd.1 h;rw[Cq];split
  ·rename_i cn;refine cd.2 ⟨fun b hb=>?_,h⟩
   rcases bC.1 hb with rfl|hb
   ·omega
   ·have:=h1 b hb; omega
  ·rename_i hge;refine cd.2 ⟨fun b hb=>?_,K2 p x r h2⟩
   rcases bC.1 ((Ad p x r).mem_iff.1 hb) with rfl|hb
   ·omega
   ·exact h1 b hb
def H7(p:Nat):∀l,(pZ p l).Pairwise fun a b=>sr p a<=sr p b
 | [] => .nil
 |x::r=>K2 p x _ (H7 p r)
def Gf:∀ {a b:List Int},a.Pairwise (· < ·)->b.Pairwise (· < ·)->(∀m,m∈a↔m∈b)->a=b
 | [],[],_,_,_=>rfl
 | [],y::b,_,_,h=>by have:=(h y).2 bj; cases this
 |x::a,[],_,_,h=>by have:=(h x).1 bj; cases this
 |x::a,y::b,ha,hb,h=>by
  obtain⟨a1,a2⟩:=cd.1 ha;obtain⟨b1,b2⟩:=cd.1 hb
  have hxy:x=y:=by
   rcases bC.1 ((h x).1 bj) with h1|h1
   ·exact h1
   ·rcases bC.1 ((h y).2 bj) with h2|h2
    ·exact h2.symm
    ·have:=b1 x h1; have:=a1 y h2; omega
  subst hxy;rw[Gf a2 b2 (fun m=>?_)]
  constructor
  ·intro hm;rcases bC.1 ((h m).1 (aX _ hm)) with h1|h1
   ·subst h1; have:=a1 m hm; omega
   ·exact h1
  ·intro hm;rcases bC.1 ((h m).2 (aX _ hm)) with h1|h1
   ·subst h1; have:=b1 m hm; omega
   ·exact h1
def wx{l:List Int}(h:l.Pairwise (· <= ·))(hn:l.Nodup):l.Pairwise (· < ·):=by
 have:=List.Pairwise.and h hn;exact this.imp fun {a b} hab=>by have:=hab.1; have:=hab.2; omega
def TG{l:List Int}(h:l.Nodup){i j:Nat}{a:Int}(hi:l[i]?=some a)(hj:l[j]?=some a):i=j:=by
 have hp:=bV.1 h;obtain⟨h1,e1⟩:=ak.1 hi;obtain⟨h2,e2⟩:=ak.1 hj;rcases gW i j with hh|hh|hh
 ·exact absurd (e1.trans e2.symm) (hp i j h1 h2 hh)
 ·exact hh
 ·exact absurd (e2.trans e1.symm) (hp j i h2 h1 hh)
def J9{α:Type}{p:Nat}{d d':List α}{xs:List ag}(key:α->Int)(dR:d.length=xs.length)(hkey:∀(i:Nat)(a:α)(x:ag),d[i]?=some a->xs[i]?=some x->key a=sr p x)(hnd:(xs.map (sr p)).Nodup)
  (hperm:d'.Perm d) (hs:d'.Pairwise fun a b=>key a<=key b) {q:Nat} {y:ag} (hy:(pZ p xs)[q]?=some y):∃(i:Nat) (a:α),d'[q]?=some a/\d[i]?=some a/\xs[i]?=some y:=by
 have hmap:d.map key=xs.map (sr p):=by
  apply dL;intro i;rw[bd,bd];rcases bF i d.length with h|h
  ·have h':i<xs.length:=by omega
   rw[ai h,ai h'];simp only[eM];rw[hkey i _ _ (ai h) (ai h')]
  ·rw[ec h,ec (by omega)]; rfl
 have p1:((pZ p xs).map (sr p)).Perm (xs.map (sr p)):=(tD p xs).map _;have p2:(d'.map key).Perm (xs.map (sr p)):=by rw[<-hmap]; exact hperm.map _
 have k1:((pZ p xs).map (sr p)).Pairwise (· < ·):=wx (iy.2 (H7 p xs)) (p1.nodup_iff.2 hnd)
 have k2:(d'.map key).Pairwise (· < ·):=wx (iy.2 hs) (p2.nodup_iff.2 hnd)
 have heq:=Gf k1 k2 (fun m=>by rw[p1.mem_iff,p2.mem_iff])
 have h1:(d'.map key)[q]?=some (sr p y):=by rw[<-heq,bd,hy]; rfl
 rw[bd,aR] at h1;obtain⟨a,ha,hak⟩:=h1;obtain⟨i,hi⟩:=bJ (hperm.mem_iff.1 (aO ha));have hil:=aJ hi;obtain⟨j,hj⟩:=bJ ((tD p xs).mem_iff.1 (aO hy));have hx:=ai (show i<xs.length by omega)
 have hk:=hkey i a _ hi hx;have:i=j:=TG hnd (i:=i) (j:=j) (a:=sr p y) (by rw[bd,hx]; simp only[eM]; rw[<-hk,hak]) (by rw[bd,hj]; rfl)
 subst this;exact⟨i,a,ha,hi,hj⟩
noncomputable def tU(sz p g:Nat):List ag->aH->Option (ag×aH)
 | [.slice _ xs,.func g' cs],M=>match xs,cs with
  | [],[]=>if g'=g then some (.tuple [],M) else none
  |_,_=>none
 | [.cN id ver sz' lo hi,.func g' cs],M=>match nth M id,cs with
  |some (.arr sz0 v xs),[]=>cq (v=ver/\sz'=sz/\lo=0/\hi<=xs.length/\g'=g/\hi<=1099511627776/\(∀x,x∈xs.take hi->(Qn p x).isSome=true)/\((xs.take hi).map (sr p)).Nodup)
    (some (.tuple [],jk M id (.arr sz0 v (pZ p (xs.take hi)++xs.drop hi))))
  |_,_=>none
 |_,_=>none
end Go.Abs
namespace Go.Proofs.YtahkjijkflobhaaGreatDoor
open Go Go.Abs Go.Shelf Go.RowKit Go.Sort
def C6{sz p g f:Nat}(hp:p<sz)
  (h0:∀(A:Option Addr)(cap:Nat)(fv:Value)(w:World),Calls Tryz.prog f #[.slice A 0 cap,fv] w fun e w'=>e = .returned (.tuple #[])/\w'=w)
  (hS:∀ [Inhabited (EL sz p)] (blk cap:Nat) (d:Array (EL sz p)) (w:World),HoldsK EL.l sz w blk 0 d->blk<w.heap.size->d.size<4611686018427387904 ->
   Calls Tryz.prog f #[.slice (some ⟨blk,0,none⟩) d.size cap,.func (.func g) #[] #[]] w fun e w'=>e = .returned (.tuple #[])/\∃d' n os,PermIn 0 d.size d d'/\SortedIn (ltOf Zz) 0 d.size d'/\w'=sortWorldK EL.l sz w blk 0 n d' os)
  {args:List ag} {M:aH} {x:ag×aH} (h:tU sz p g args M=some x):dC Tryz.prog f args M x:=by
 unfold tU at h;split at h
 ·rename_i tk xs g' cs;split at h
  ·split at h
   ·rename_i hg;subst hg;cases h;refine mD.call ?_;intro j w vs hr hG hl hv;obtain⟨l⟩:=vs
    match l,hl with
    | [u1,u2],_ =>
     obtain⟨A,cap,b,off,sz0,vs,e1,_⟩:=(hv 0 _ u1 rfl rfl).dN.dN;subst e1;refine(h0 A cap u2 w).mono ?_;rintro e w' ⟨rfl,rfl⟩;exact⟨_,j,rfl,hr,Ext.refl _ _ _,.tuple rfl fun i c v hi=>by cases hi⟩
   ·cases h
  ·cases h
 ·rename_i ix ver sz' lo hi g' cs;rw[fE] at h;split at h
  ·rename_i sz0 v0 xs hM;obtain⟨⟨rfl,rfl,rfl,hhi,rfl,hbig,hk,hnd⟩,h1⟩:=da h;cases h1;refine mD.call ?_;intro j w vs hr hG hl hv;obtain⟨l⟩:=vs
   match l,hl with
   | [u1,u2],_ =>
    have ha:=hv 0 _ u1 rfl rfl;obtain⟨us,hu2,hul,_⟩:=(hv 1 _ u2 rfl rfl).rF;have hu0:us = #[]:=Array.eq_empty_of_size_eq_zero (by simpa using hul.symm)
    subst hu0;rw[hu2];rcases fA hi with h00|hpos
    ·subst h00;obtain⟨A,cap,e1⟩:=ha.yD;rw[e1];refine(h0 A cap _ w).mono ?_;rintro e w' ⟨rfl,rfl⟩
     have he:jk M ix (.arr sz0 v0 (pZ p (xs.take 0)++xs.drop 0))=M:=by
      rw[gq];apply dL;intro q
      by_cases e:ix=q
      ·subst e; rw[dJ (aJ hM),hM]; rfl
      ·rw[cI e]
     rw[he];exact⟨_,j,rfl,hr,Ext.refl _ _ _,.tuple rfl fun i c v hi=>by cases hi⟩
    ·obtain⟨_,hid,_,gg⟩:=ha.nJ;obtain⟨e1,_,_,⟨hx,_⟩|⟨b,cap,row,t0,l3,l4,l5,l6,l7⟩⟩:=(gg sz0 v0 xs hM).2 rfl
     ·subst hx; simp at hhi; omega
     subst e1;obtain⟨b',row0,t',k1,k2,k3,k4,k5⟩:=hr.yE hM l3;rw[l3] at k1; cases k1;rw[l6] at k2; injection k2 with k2; injection k2 with k2 k2'
     subst k2; subst k2';have hrow:hi*sz0<=row.size:=aV (bf _ hhi) k3
     -- the elements
     have hidx:∀q k,q<hi->k<sz0->q*sz0+k<hi*sz0:=fun q k hq hk'=>by
      have:(q+1)*sz0<=hi*sz0:=bf _ hq;rw[lN] at this; omega
     have hel:∀q,q<hi->∃a:EL sz0 p,(∀k,k<sz0->a.l[k]?=row[q*sz0+k]?)/\∀x,xs[q]?=some x->a.n=sr p x:=by
      intro q hq;have hxq:xs[q]?=some (xs[q]'(by omega)):=ai (by omega)
      have hwq:=k4 _ (aO hxq)
      have hcell:∀k,k<sz0->∃u,row[q*sz0+k]?=some u/\∃c,(xs[q]'(by omega)).cells[k]?=some c/\fF w (ng j M w) c u:=fun k hk'=>by
       have hc:=ai (l:=(xs[q]'(by omega)).cells) (i:=k) (by omega)
       obtain⟨u,h1,h2⟩:=k5 q _ k _ hxq hc;exact⟨u,h1,_,hc,h2⟩
      have hkx:=hk _ (aO (show(xs.take hi)[q]?=_ by rw[bE hq]; exact hxq))
      have dR:((row.toList.drop (q*sz0)).take sz0).length=sz0:=by
       have:=hidx q (sz0-1) hq (by omega)
       simp; omega
      have hget:∀k,k<sz0->((row.toList.drop (q*sz0)).take sz0)[k]?=row[q*sz0+k]?:=fun k hk'=>by
       rw[bE hk',cH]; simp
      obtain⟨u,hu1,c,hc1,hc2⟩:=hcell p hp
      obtain⟨n,hn⟩:∃n,c = .int .i64 n:=by
       unfold Qn at hkx;rw[hc1] at hkx;split at hkx
       ·rename_i hh; injection hh with hh; exact⟨_,hh⟩
       ·cases hkx
      subst hn;have hu:=(fY.plain (j:=j) (M:=M) hc2).fN;subst hu;refine⟨⟨(row.toList.drop (q*sz0)).take sz0,dR,fun v hv=>?_,n,by rw[hget p hp]; exact hu1⟩,hget,fun x hx=>?_⟩
      ·obtain⟨k,hk'⟩:=bJ hv;have hkl:k<sz0:=by rw[<-dR]; exact aJ hk'
       obtain⟨u,h1,c,_,h3⟩:=hcell k hkl;rw[hget k hkl,h1] at hk'; cases hk';exact h3.one
      ·rw[hxq] at hx; cases hx;simp[sr,Qn,hc1]
     obtain⟨d,hdl,hd⟩:∃d:List (EL sz0 p),d.length=hi/\∀q a,d[q]?=some a->(∀k,k<sz0->a.l[k]?=row[q*sz0+k]?)/\∀x,xs[q]?=some x->a.n=sr p x:=by
      refine⟨(List.finRange hi).map fun q=>(hel q.1 q.2).choose,by simp,fun q a ha=>?_⟩
      rw[bd,aR] at ha;obtain⟨i,hi',rfl⟩:=ha;have hq:q<hi:=by have:=aJ hi'; simpa using this
      have:i=⟨q,hq⟩:=by
       have h1:=(ak.1 hi').2;rw[<-h1]; simp
      subst this;exact(hel q hq).choose_spec
     haveI:Inhabited (EL sz0 p):=⟨(hel 0 hpos).choose⟩
     have hget! : ∀q,q<hi->d[q]?=some d.toArray[q]! := fun q hq=>by
      rw[ai (by omega),lO d.toArray q (by simpa[hdl] using hq)]
      simp
     have hfl:∀t,t<hi*sz0->row[t]?=some (d.toArray[t / sz0]!.l[t % sz0]!):=fun t ht=>by
      have hq:t / sz0<hi:=(ki (by omega)).2 ht
      have hm:t % sz0<sz0:=Nat.mod_lt _ (by omega)
      have h1:=(hd _ _ (hget! _ hq)).1 _ hm;rw[Nat.div_add_mod'] at h1;rw[<-h1];have h2:t % sz0<d.toArray[t / sz0]!.l.length:=by rw[(d.toArray[t / sz0]!).hl]; exact hm
      rw[ai h2,lO (d.toArray[t / sz0]!.l) (t % sz0) h2]
     have hH:HoldsK EL.l sz0 w b 0 d.toArray:=fun t ht=>by
      simp only[size_flatK,cR,hdl] at ht;rw[get_flatK _ _ _ _ (by simpa[hdl] using ht)]
      refine⟨?_,?_⟩
      ·simp only[aK,World.cell?,l6,id];exact hfl t ht
      ·simp[World.frozen?,l6]
     rw[l4,bN,jS];have hcall:=hS b cap d.toArray w hH (lt_of_block l6) (by simp[hdl]; omega)
     simp only[cR,hdl] at hcall;refine hcall.mono ?_;rintro e1 w' ⟨rfl,d',n,os,hperm,hsort,rfl⟩;obtain⟨hs1,_,hs3⟩:=hperm;simp only[cR,hdl] at hs1
     have hperm':d'.toList.Perm d:=by
      have e1:(d'.extract 0 hi).toList=d'.toList:=by rw[<-hs1]; simp
      have e2:(d.toArray.extract 0 hi).toList=d:=by rw[<-hdl]; simp
      rw[e1,e2] at hs3; exact hs3
     have hpw:d'.toList.Pairwise fun a b=>a.n<=b.n:=by
      rw[bV];intro i k hi1 hk1 hik;have hk2:k<d'.size:=by simpa using hk1
      have:=hsort i k (cS _) hik (by omega)
      rw[ltE,lO d' k hk2,lO d' i (by omega)] at this
      simp at this ⊢;omega
     have hmatch:∀(q:Nat)(y:ag),(pZ p (xs.take hi))[q]?=some y->∃(i:Nat) (a:EL sz0 p),d'.toList[q]?=some a/\d[i]?=some a/\(xs.take hi)[i]?=some y:=fun q y hy =>
      J9 (fun a:EL sz0 p=>a.n) (by simp[hdl]; omega) (fun i a x h1 h2=>(hd i a h1).2 x (by
       have cn:i<hi:=by have:=aJ h2; simp at this; omega
       rwa[bE cn] at h2)) hnd hperm' hpw hy
     -- the world behind
     have hbk:(sortWorldK EL.l sz0 w b 0 n d' os).heap[b]?=some (.cells (Go.Sort.putCells id 0 (flatK EL.l sz0 d') row) t0 (0,0)):=by
      have cn:=lt_of_block l6
      show((w.heap.modify b (onCells (Go.Sort.putCells id 0 (flatK EL.l sz0 d'))))++os)[b]?=_
      rw[cj (by simpa using cn),gr,bh rfl,l6]
      rfl
     have hq:Quiet w (sortWorldK EL.l sz0 w b 0 n d' os):=⟨by show w.heap.size<=((w.heap.modify b _)++os).size; simp,rfl,rfl,rfl⟩
     have hoth:∀b',b'≠b->b'<w.heap.size->(sortWorldK EL.l sz0 w b 0 n d' os).heap[b']?=w.heap[b']?:=fun b' hne cn=>by
      show((w.heap.modify b _)++os)[b']?=_
      rw[cj (by simpa using cn),gr,aQ (eY hne)]
     have hsl:(pZ p (xs.take hi)).length=hi:=by rw[(tD p _).length_eq]; simp; omega
     have hwd:wid (pZ p (xs.take hi)++xs.drop hi) sz0:=mr (fun x hx=>k4 x (dI ((tD p _).mem_iff.1 hx))) (uY k4)
     have hcells:∀t,t<hi*sz0->(Go.Sort.putCells id 0 (flatK EL.l sz0 d') row)[t]?=some (d'[t / sz0]!.l[t % sz0]!):=fun t ht=>by
      unfold Go.Sort.putCells;rw[Array.getElem?_mapIdx,a8 (show t<row.size by omega)]
      simp only[eM,size_flatK,hs1,aK,bN,cS,true_and,ht,aG,id];rw[get_flatK _ _ _ _ (by rw[hs1]; exact ht)]
     have hrl:RL w (ng j M w) (jB (pZ p (xs.take hi)++xs.drop hi)) ((Go.Sort.putCells id 0 (flatK EL.l sz0 d') row).toList.take (xs.length*sz0)):=by
      have hpsz:(Go.Sort.putCells id 0 (flatK EL.l sz0 d') row).size=row.size:=by simp[Go.Sort.putCells]
      refine wW (b:=b) (by rw[hpsz]; simpa[hsl,db hhi] using k3) hwd (fun q x k c hx hkc=>?_) |> fun h=>by
       have e:(pZ p (xs.take hi)++xs.drop hi).length=xs.length:=by simp[hsl]; omega
       rwa[e] at h
      have hkl:k<sz0:=by rw[<-hwd x (aO hx)]; exact aJ hkc
      rcases bF q hi with hq'|hq'
      ·rw[bA (by rw[hsl]; exact hq')] at hx
       obtain⟨i,a,h1,h2,h3⟩:=hmatch q x hx;have hi':i<hi:=by have:=aJ h3; simp at this; omega
       rw[bE hi'] at h3;obtain⟨u,g1,g2⟩:=k5 i x k c h3 hkc;refine⟨u,?_,g2⟩;rw[hcells _ (hidx q k hq' hkl)];have hdv:(q*sz0+k) / sz0=q:=by rw[Nat.mul_comm,Nat.mul_add_div (by omega),Nat.div_eq_of_lt hkl]; rfl
       have hmd:(q*sz0+k) % sz0=k:=by rw[Nat.mul_comm,Nat.mul_add_mod,Nat.mod_eq_of_lt hkl]
       rw[hdv,hmd]
       have ha':d'[q]! = a:=by
        have hq2:q<d'.size:=by omega
        rw[lO d' q hq2];simpa[a8 hq2] using h1
       rw[ha',<-g1,<-(hd i a h2).1 k hkl];have:k<a.l.length:=by rw[a.hl]; exact hkl
       rw[ai this,lO a.l k this]
      ·rw[bz (by rw[hsl]; exact hq'),hsl,cH,db hq'] at hx
       obtain⟨u,g1,g2⟩:=k5 q x k c hx hkc;refine⟨u,?_,g2⟩;unfold Go.Sort.putCells;have hge:hi*sz0<=q*sz0+k:=aV (bf _ hq') (Nat.le_add_right _ _);rw[Array.getElem?_mapIdx,g1];simp only[eM,size_flatK,hs1,aK];rw[aQ (by omega)]
     rw[gq]
     have hput:=wV (ver':=v0) (xs':=pZ p (xs.take hi)++xs.drop hi) hr hM l3 hq hoth l6 hbk (by simp[Go.Sort.putCells]) (aC _) (fun _=>by simp[hsl]; omega) hwd hrl (fun t ht=>by
      rw[bE (by simp at ht; omega)]; simp)
     exact⟨_,j,rfl,hput.1,hput.2,.tuple rfl fun i c v hi=>by cases hi⟩
  ·cases h
 ·cases h
def UZ{args:List ag}{M:aH}{x:ag×aH}(h:tU 3 2 217 args M=some x):dC Tryz.prog 216 args M x :=
 C6 (by omega) (fun A cap fv w=>AnyF.slices_SortFunc_none Tryz.LK A cap fv w)
  (fun blk cap d w hH hb hs=>(AnyQ.slices_SortFunc Tryz.LK 3 isAgg95 sizeOf95 EL.l (fun x=>x.hl) (fun x=>x.h1) Zz amn 217 #[] blk 0 cap d w (enters_of func217 (by kernel_rfl) rfl) (I3 blk 0 d.size w) hH hb hs)) h
def UY{args:List ag}{M:aH}{x:ag×aH}(h:tU 6 0 159 args M=some x):dC Tryz.prog 158 args M x :=
 C6 (by omega) (fun A cap fv w=>AnyF.slices_SortFunc_none Tryz.H8 A cap fv w)
  (fun blk cap d w hH hb hs=>(AnyQ.slices_SortFunc Tryz.H8 6 isAgg54 sizeOf54 EL.l (fun x=>x.hl) (fun x=>x.h1) Zz amn 159 #[] blk 0 cap d w (enters_of func159 (by kernel_rfl) rfl) (I2 blk 0 d.size w) hH hb hs)) h
end Go.Proofs.YtahkjijkflobhaaGreatDoor
namespace Go.Proofs.YtahkjijkflobhaaGreatDoor
open Go Go.Abs
noncomputable def rM(sz:Nat)(args:List ag)(M:aH):Option (ag×aH):=bI (kE sz args M) fun x=>some (x.1.vI x.2,sm x.2 x.1.ids)
def DS{P:Program}{f:Nat}{args:List ag}{M:aH}{x:ag×aH}(h:dC P f args M x)(hx:x.1.jx=false):dC P f args M (x.1.vI x.2,sm x.2 x.1.ids):=by
 intro j w vs h1 h2 h3 h4;refine(h j w vs h1 h2 h3 h4).mono ?_;intro e w' hc;obtain⟨v,rfl,j',g1,g2,g3⟩:=hc.ret hx;obtain⟨f1,f2,f3,f4⟩:=Bv x.1.ids g1;exact .inl ⟨v,rfl,j',f2,g2.trans f1,g3.vI g1 f1 f2 f3 f4⟩
def HG{sz:Nat}{args:List ag}{M:aH}{x:ag×aH}(h:kE sz args M=some x):x.1.jx=false:=by
 unfold kE at h;split at h
 ·split at h
  ·obtain⟨_,h⟩:=da h;cases h; rfl
  ·cases h
 ·cases h
def B6{P:Program}{f sz:Nat}(hd:∀ {args:List ag} {M:aH} {x:ag×aH},kE sz args M=some x->dC P f args M x)
  {args:List ag} {M:aH} {x:ag×aH} (h:rM sz args M=some x):dC P f args M x:=by
 obtain⟨y,h1,h2⟩:=bg h;cases h2;exact DS (hd h1) (HG h1)
def Ja{args:List ag}{M:aH}{x:ag×aH}(h:rM 3 args M=some x):dC Tryz.prog 223 args M x:=B6 Mu h
def Jb{args:List ag}{M:aH}{x:ag×aH}(h:rM 3 args M=some x):dC Tryz.prog 228 args M x:=B6 Mv h
section
open Go.RowKit
set_option maxHeartbeats 1000000 in
set_option maxRecDepth 100000 in
def I6(a b:ByteArray)(w:World) :
  Calls Tryz.prog 295 #[.string a,.string b] w fun e w'=>e = .returned (.int .i64 (Lib.compareBytes a.data.toList b.data.toList))/\w'=w:=by
 go_enter func295,ntmps295
 go_wp2
 rw[run_callFunc_extern func319 (by kernel_rfl) (by kernel_rfl) (by kernel_rfl) (e:=Extern.BytealgCompare.compare) (by kernel_rfl),Lib.run_compareString]
 simp only[Result.andThen];rw[Oper.upon_value]
 go_wp2
 go_ret
 exact⟨rfl,rfl⟩
noncomputable def zg:List ag->aH->Option (ag×aH)
 | [.str a,.str b],M=>some (.int .i64 (Lib.compareBytes a b),M)
 |_,_=>none
def Gv{args:List ag}{M:aH}{x:ag×aH}(h:zg args M=some x):dC Tryz.prog 295 args M x:=by
 unfold zg at h;split at h
 ·rename_i a b;cases h;refine mD.call ?_;intro j w vs hr hG hl hv;obtain⟨l⟩:=vs
  match l,hl with
  | [u1,u2],_ =>
   have h1:=(hv 0 _ u1 rfl rfl).jX;have h2:=(hv 1 _ u2 rfl rfl).jX;subst h1; subst h2;refine(I6 (bs a) (bs b) w).mono ?_;rintro e w' ⟨rfl,rfl⟩;exact⟨_,j,rfl,hr,.refl _ _ _,.plain (.int _ _)⟩
 ·cases h
end
end Go.Proofs.YtahkjijkflobhaaGreatDoor
namespace Go.Proofs
open Go.Shelf
def Tryz.AY:Go.Shelf.Ren:=⟨fun|156=>289|165=>314|166=>315|169=>316|240=>328|241=>329|276=>333|277=>334|n=>n,fun|31=>43|9=>9|3=>3|4=>4|0=>0|20=>20|72=>342|76=>343|70=>340|37=>23|75=>70|127=>353|164=>114|5=>5|80=>345|n=>n,fun|n=>n⟩
def Tryz.Lb:Go.Proofs.Lays.n156 Tryz.prog Tryz.AY:={
 mixed:=by kernel_rfl
 f156:=Tryz.func289.trans (congrArg some (by kernel_rfl))
 f165:=Tryz.func314.trans (congrArg some (by kernel_rfl))
 f166:=Tryz.func315.trans (congrArg some (by kernel_rfl))
 f169:=Tryz.func316.trans (congrArg some (by kernel_rfl))
 f240:=Tryz.func328.trans (congrArg some (by kernel_rfl))
 f241:=Tryz.func329.trans (congrArg some (by kernel_rfl))
 f276:=Tryz.func333.trans (congrArg some (by kernel_rfl))
 f277:=Tryz.func334.trans (congrArg some (by kernel_rfl))
 t0:=underlying0
 a0:=isAgg0
 z0:=sizeOf0
 v0:=zeroValue0
 t3:=underlying3
 a3:=isAgg3
 z3:=sizeOf3
 v3:=zeroValue3
 t4:=underlying4
 a4:=isAgg4
 z4:=sizeOf4
 v4:=zeroValue4
 t9:=underlying9
 a9:=isAgg9
 z9:=sizeOf9
 v9:=zeroValue9
 t20:=underlying20
 a20:=isAgg20
 z20:=sizeOf20
 v20:=zeroValue20
 t31:=underlying43
 a31:=isAgg43
 z31:=sizeOf43
 v31:=zeroValue43
 t37:=underlying23
 a37:=isAgg23
 z37:=sizeOf23
 v37:=zeroValue23
 t70:=underlying340
 a70:=isAgg340
 z70:=sizeOf340
 v70:=zeroValue340
 t72:=underlying342
 a72:=isAgg342
 z72:=sizeOf342
 v72:=zeroValue342
 t75:=underlying70
 a75:=isAgg70
 z75:=sizeOf70
 v75:=zeroValue70
 t76:=underlying343
 a76:=isAgg343
 z76:=sizeOf343
 v76:=zeroValue343
 t127:=underlying353
 a127:=isAgg353
 z127:=sizeOf353
 v127:=zeroValue353
 t164:=underlying114
 a164:=isAgg114
 z164:=sizeOf114
 v164:=zeroValue114 }
def Tryz.tL:Builder.Extra Tryz.prog Tryz.AY:={
 sizeBuilder:=by kernel_rfl
 liesBuilder:=by kernel_rfl
 t5:=underlying5
 a5:=isAgg5
 z5:=sizeOf5
 v5:=zeroValue5
 infoByte:=by kernel_rfl
 cellsByte:=by kernel_rfl
 sizeByte:=by kernel_rfl
 neB5:=by decide }
open Go.RowKit in
def Tryz.strings_Join_none(a:Option Addr)(c:Nat)(sep:ByteArray)(w:World) :
  Calls Tryz.prog 289 #[.slice a 0 c,.string sep] w fun e w'=>e = .returned (.string ⟨#[]⟩)/\w'=w:=Any.strings_Join_none Tryz.Lb Tryz.tL a c sep w
open Go.RowKit in
def Tryz.strings_Join(bk o c:Nat)(xs:List ByteArray)(sep:ByteArray)(w:World)(hcells:∀(j:Nat) x,xs[j]?=some x->w.cell? ⟨bk,o+j,none⟩=some (.string x))(hbk:bk<w.heap.size)(hN:xs.length<=140737488355328)(hcap:xs.length<=c)(dR:(Lib.join (xs.map (·.data.toList)) sep.data.toList).length<=140737488355328) :
  Calls Tryz.prog 289 #[.slice (some ⟨bk,o,none⟩) xs.length c,.string sep] w fun e w'=>e = .returned (.string ⟨(Lib.join (xs.map (·.data.toList)) sep.data.toList).toArray⟩)/\Below w.heap.size w w':=Any.strings_Join Tryz.Lb Tryz.tL bk o c xs sep w hcells hbk hN hcap dR
def Tryz.Hn:Go.Shelf.Ren:=⟨fun|137=>274|217=>308|266=>326|n=>n,fun|9=>9|5=>5|3=>3|n=>n,fun|n=>n⟩
def Tryz.WS:Go.Proofs.Lays.n137 Tryz.prog Tryz.Hn:={
 mixed:=by kernel_rfl
 f137:=Tryz.func274.trans (congrArg some (by kernel_rfl))
 f217:=Tryz.func308.trans (congrArg some (by kernel_rfl))
 f266:=Tryz.func326.trans (congrArg some (by kernel_rfl))
 t3:=underlying3
 a3:=isAgg3
 z3:=sizeOf3
 v3:=zeroValue3
 t5:=underlying5
 a5:=isAgg5
 z5:=sizeOf5
 v5:=zeroValue5
 t9:=underlying9
 a9:=isAgg9
 z9:=sizeOf9
 v9:=zeroValue9 }
open Go.RowKit in
def Tryz.strings_IndexByte(s:ByteArray)(c:Int)(w:World) :
  Calls Tryz.prog 274 #[.string s,.int .u8 c] w fun e w'=>e = .returned (.int .i64 (Lib.indexByte s.data.toList c.toNat.toUInt8))/\w'=w:=Any.strings_IndexByte Tryz.WS s c w
end Go.Proofs
namespace Go.Proofs.YtahkjijkflobhaaGreatDoor
open Go Go.Abs
open Go.RowKit
def Bc{P:Program}{f:Nat}{args:List ag}{M:aH}{r:ag}
  (h:∀(j:J)(w:World)(vs:Array Value),Rel j M w->rT j M w->args.length=vs.size->(∀(i:Nat)(c:ag)(v:Value),args[i]?=some c->vs[i]?=some v->fY j M w c v) ->
   Calls P f vs w fun e w'=>∃v,e = .returned v/\Below w.heap.size w w'/\fY j M w' r v):dC P f args M (r,M):=by
 refine mD.call ?_;intro j w vs hr hG hl hv;refine(h j w vs hr hG hl hv).mono ?_;rintro e w' ⟨v,rfl,hb,hrep⟩;exact⟨v,j,rfl,hr.grow hb.size hb.os hb.tape hb.output hb.block,Ext.grow hb.size hb.os hb.tape hb.output hb.block,hrep⟩
def ym:List ag->aH->Option (ag×aH)
 | [.str s,.int k c],M=>if k = .u8 then some (.int .i64 (Lib.indexByte s c.toNat.toUInt8),M) else none
 |_,_=>none
def JA{args:List ag}{M:aH}{x:ag×aH}(h:ym args M=some x):dC Tryz.prog 274 args M x:=by
 unfold ym at h;split at h
 ·rename_i s k c;split at h
  ·rename_i hk;subst hk;cases h;refine Bc fun j w vs hr hG hl hv=>?_
   obtain⟨l⟩:=vs
   match l,hl with
   | [u1,u2],_ =>
    obtain rfl:=(hv 0 _ u1 rfl rfl).jX;obtain rfl:=(hv 1 _ u2 rfl rfl).fN;refine(Tryz.strings_IndexByte (bs s) c w).mono ?_;rintro e w' ⟨rfl,rfl⟩;exact⟨_,rfl,Below.refl _ _,by simp[bs]; exact .plain (.int _ _)⟩
  ·cases h
 ·cases h
def Aw:List ag->Option (List (List UInt8))
 | []=>some []
 | .str s::r=>bI (Aw r) fun l=>some (s::l)
 |_=>none
def EA:∀ {xs:List ag} {l:List (List UInt8)},Aw xs=some l->xs=l.map .str
 | [],l,h=>by cases h; rfl
 |x::r,l,h=>by
  unfold Aw at h;split at h
  ·rename_i e; cases e
  ·rename_i s r' e;injection e with e1 e2; subst e1; subst e2
   obtain⟨l',h1,h2⟩:=bg h;cases h2;rw[EA h1]; rfl
  ·cases h
def HH:List ag->aH->Option (ag×aH)
 | [.slice _ xs,.str sep],M=>bI (Aw xs) fun l=>if l.length<=140737488355328/\(Lib.join l sep).length<=140737488355328 then some (.str (Lib.join l sep),M) else none
 |_,_=>none
def akC{args:List ag}{M:aH}{x:ag×aH}(h:HH args M=some x):dC Tryz.prog 289 args M x:=by
 unfold HH at h;split at h
 ·rename_i tk xs sep;obtain⟨l,hl0,h⟩:=bg h;have hxs:=EA hl0;split at h
  ·rename_i hs;cases h;refine Bc fun j w vs hr hG hl hv=>?_
   obtain⟨us⟩:=vs
   match us,hl with
   | [u1,u2],_ =>
    obtain⟨A,cap,b,off,sz,vs,e1,e2,e3,e4,e5,e6⟩:=(hv 0 _ u1 rfl rfl).dN.dN;obtain rfl:=(hv 1 _ u2 rfl rfl).jX;subst e1;subst hxs;cases l with
    |nil =>
     refine(Tryz.strings_Join_none A cap (bs sep) w).mono ?_;rintro e w' ⟨rfl,rfl⟩;exact⟨_,rfl,Below.refl _ _,.plain (.str _)⟩
    |cons s0 l =>
     obtain rfl:=e3 (by simp)
     have hsz:sz=1:=(e4 (.str s0) (by simp)).symm
     subst hsz
     have cell:∀(q:Nat)(s:List UInt8),(s0::l)[q]?=some s->w.cell? ⟨b,off+q,none⟩=some (.string (bs s)):=fun q s hq=>by
      have hq':((s0::l).map ag.str)[q]?=some (.str s):=by rw[bd,hq]; rfl
      have k1:=e5 q _ 0 (.str s) hq' rfl;have k2:=(fY.plain (j:=j) (M:=M) (e6 q _ 0 (.str s) hq' rfl)).jX;simp only[Nat.mul_one,dg] at k1 k2;rw[k1.1,k2]
     have hmap:((s0::l).map bs).map (·.data.toList)=s0::l:=by
      rw[jj]; conv=>rhs; rw[<-List.map_id (s0::l)]
      exact dx fun s _=>by simp[bs]
     have hd:(bs sep).data.toList=sep:=by simp[bs]
     have hb:b<w.heap.size:=by
      have:=cell 0 s0 rfl;rcases bF b w.heap.size with h|h
      ·exact h
      ·simp[World.cell?,gX h] at this
     have hJ:=Tryz.strings_Join b off cap ((s0::l).map bs) (bs sep) w (fun q x hq=>by
      rw[bd,aR] at hq;obtain⟨s,hs,rfl⟩:=hq;exact cell q s hs) hb (by simpa using hs.1) (by simpa using e2) (by rw[hmap,hd]; exact hs.2)
     rw[hmap,hd] at hJ;have:((s0::l).map bs).length=((s0::l).map ag.str).length:=by simp
     rw[this] at hJ;refine hJ.mono ?_;rintro e w' ⟨rfl,hb⟩;exact⟨_,rfl,hb,.plain (.str _)⟩
  ·cases h
 ·cases h
end Go.Proofs.YtahkjijkflobhaaGreatDoor
