import Derived.Laws.StructEq
import Derived.MapKept
import Derived.Laws.IdiomStrings
import Derived.Laws.MakeOwn
import Derived.ChangeKeysEq
import Derived.Lib.AppendZerosOnto
import Derived.RangeFuncCalls
import Derived.OrdersIn
import Derived.LoopNIn
import Derived.Orders
import Derived.Test.YtahkjijkflobhaaGreatDoorFseA
set_option linter.unusedSimpArgs false
set_option linter.unusedVariables false
set_option linter.unusedSectionVars false
set_option linter.defProp false
namespace Go.Abs
section
open Go Go.RowKit
variable [ew]
def cC.vS{j:J}{M:aj}{w:World}{xs:List ae}{v:Value}(h:cC j M w (.slice .c0 xs) v):∃A,v = .slice A 0 0:=by
 cases h with
 |plain h=>cases h
 |c0 A=>simp
theorem cC.TL{j:J}{M:aj}{w:World}{k:Nat}{xs:List ae}{v:Value}(h:cC j M w (.slice (.own k) xs) v) :
  ∃sz n,M[k]?=some (.tick sz n)/\xs.length<=n/\cg w (fY j M w) (.slice .sh xs) v/\(xs.length=n->Ar j w k sz n v):=by
 cases h with
 |plain h=>cases h
 |own hk hn h ht=>grind
theorem yd(n:Nat):∀(r c:Nat),c<=2*n+1000->Builtin.growBy n r c<=2*n+1000
 |0,c,h=>h
 |r+1,c,h=>by
  unfold Builtin.growBy;split
  ·omega
  ·exact yd n r _ (by omega)
theorem wS{n c:Nat}(h:c<n):Builtin.nextslicecap n c<=2*n+1000:=by
 grind [Builtin.nextslicecap,yd]
def cg.one{w:World}{cV:Nat->Nat->Prop}{c:ae}{v:Value}(h:cg w cV c v):v.oneCell'=true:=by
 cases h<;>first|rfl|omega
section
variable {P:Program} {C:bL} {o:Oper} {env:Env} {M:aj} {j:J} {w:World} {a:Act} {x:ae×aj}
theorem x4{cV:Nat->Nat->Prop}{xs:List ae}{v:Value}{size:Nat}(hx:cg w cV (.slice .sh xs) v)(hw:wid xs size)(hpos:0<size) :
  ∃u:Nat->Value,(∀w':World,w'.heap=w.heap->(Builtin.firstCells size xs.length v).run P w' = .ok (((List.range (xs.length*size)).map u).toArray) w') /\
   (∀(i:Nat)(y:ae)(k:Nat)(c:ae),xs[i]?=some y->y.cells[k]?=some c->cg w cV c (u (i*size+k))) /\
   ∀b,(∃n cap,v = .slice (some ⟨b,0,none⟩) n cap)->∀p,p<xs.length*size->w.cell? ⟨b,p,none⟩=some (u p):=by
 obtain⟨A,cap,b,off,sz,vs,hv,hc,ha,hz,hs,hr⟩:=hx.bw
 by_cases hne:xs=[]
 ·subst hne;rw[hv];cases A<;>simp_all [Builtin.firstCells,loadCells,loadCellsFrom]
 ·have hsz:sz=size:=by
   obtain⟨y,r,rfl⟩:=List.exists_cons_of_ne_nil hne;rw[<-hz y (by simp),hw y (by simp)]
  subst hsz;have hA:=ha hne;subst hA
  have hcell:∀p,p<xs.length*sz->w.cell? ⟨b,off+p,none⟩=some (vs p):=by
   intro p hp;have hd:p / sz<xs.length:=(Nat.div_lt_iff_lt_mul hpos).2 hp;have hm:p % sz<sz:=Nat.mod_lt _ hpos;have hy:=List.getElem?_eq_getElem hd;have hcl:=hw _ (List.getElem_mem hd);have:=(hs (p / sz) _ (p % sz) _ hy (List.getElem?_eq_getElem (by omega))).1
   rw[Nat.div_add_mod'] at this;omega
  refine⟨vs,fun w' hw'=>?_,hr,fun b' hb' p hp=>?_⟩
  ·rw[hv]
   have hc':∀p,p<xs.length*sz->w'.cell? ⟨b,off+p,none⟩=some (vs p):=fun p hp=>by
    grind [World.cell?]
   exact gW (P:=P) b off (xs.length*sz) vs hc'
  grind
theorem cg.join{w':World}{saf':Nat->Nat->Prop}{xs ys:List ae}{size:Nat}(hwx:wid xs size)(hwy:wid ys size)(hpos:0<size){ux uy:Nat->Value}
  (hx:∀(i:Nat)(y:ae)(k:Nat)(c:ae),xs[i]?=some y->y.cells[k]?=some c->cg w' saf' c (ux (i*size+k)))
  (hy:∀(i:Nat)(y:ae)(k:Nat)(c:ae),ys[i]?=some y->y.cells[k]?=some c->cg w' saf' c (uy (i*size+k)))
  {b:Nat} {arr:Array Value} {t:TypeId} (harr:w'.heap[b]?=some (.cells arr t (0,0))) (h1:∀p,p<xs.length*size->arr[p]?=some (ux p)) (h2:∀p,p<ys.length*size->arr[xs.length*size+p]?=some (uy p))
  (hs:∀p,p<(xs.length+ys.length)*size->saf' b p) {cap:Nat} (hc:xs.length+ys.length<=cap):cg w' saf' (.slice .sh (xs++ys)) (.slice (some ⟨b,0,none⟩) (xs.length+ys.length) cap):=by
 have hlt:∀(i k n:Nat),i<n->k<size->i*size+k<n*size:=by
  intro i k n hi hk;have:(i+1)*size<=n*size:=Nat.mul_le_mul_right _ hi;rw[Nat.succ_mul] at this;omega
 have cas:∀(i:Nat)(y:ae),(xs++ys)[i]?=some y->(i<xs.length/\xs[i]?=some y)\/(∃i',i=xs.length+i'/\ys[i']?=some y):=by
  grind
 refine .slice _ _ _ _ b 0 size (fun p=>if p<xs.length*size then ux p else uy (p-xs.length*size)) (by simp) hc (fun _=>rfl) (fun y hy'=>?_) (fun i y k c hi hk=>?_) (fun i y k c hi hk=>?_)
 ·rcases List.mem_append.1 hy' with h|h
  ·exact hwx y h
  ·exact hwy y h
 ·have hkl:=aq hk;rw[Nat.zero_add];rcases cas i y hi with ⟨hil,hxi⟩|⟨i',rfl,hyi⟩
  ·have hk':k<size:=by rw[<-hwx y (List.mem_of_getElem? hxi)]; omega
   have hp:=hlt i k _ hil hk';refine⟨?_,hs _ (hlt i k _ (by omega) hk')⟩
   rw[if_pos hp,<-h1 _ hp];simp[World.cell?,harr]
  ·have hk':k<size:=by rw[<-hwy y (List.mem_of_getElem? hyi)]; exact hkl
   have hil:=aq hyi;have hp:=hlt i' k _ hil hk';refine⟨?_,hs _ (hlt _ k _ (by omega) hk')⟩
   have he:(xs.length+i')*size+k=xs.length*size+(i'*size+k):=by rw[Nat.add_mul]; omega
   rw[he,if_neg (by simp),Nat.add_sub_cancel_left,<-h2 _ hp]
   simp[World.cell?,harr]
 ·have hkl:=aq hk;rcases cas i y hi with ⟨hil,hxi⟩|⟨i',rfl,hyi⟩
  ·have hk':k<size:=by rw[<-hwx y (List.mem_of_getElem? hxi)]; exact hkl
   rw[if_pos (hlt i k _ hil hk')];exact hx i y k c hxi hk
  ·have he:(xs.length+i')*size+k=xs.length*size+(i'*size+k):=by rw[Nat.add_mul]; omega
   rw[he,if_neg (by simp),Nat.add_sub_cancel_left]
   grind
theorem kZ{t t' e:TypeId}{d':TypeDesc}{v':Value}{i:TypeInfo}{zv:Value}(hs:P.underlying t=some (.slice e))(hs':P.underlying t'=some d')(hd':∀k,d' ≠ .int k)(hi:P.info? e=some i)(hz:i.zero=some zv)(hb0:0<i.bytes)(hb1:i.bytes<=2 ^ 20)
  (ty:TypeId) {base:Option Addr} {n cap m:Nat} {nA new:Array Value} (hlen:∀w':World,(Builtin.lenOf v').run P w' = .ok m w')
  (hold:∀w':World,w'.heap=w.heap->(Builtin.firstCells i.size n (.slice base n cap)).run P w' = .ok nA w') (dw:∀w':World,w'.heap=w.heap->(Builtin.firstCells i.size m v').run P w' = .ok new w')
  (hroom:(n+m)*i.bytes<=2 ^ 44) :
  (n+m<=cap->∀w',(match base with|some ad=>(storeCells (ad.add (n*i.size)) new.toList).run P w = .ok () w'|none=>w'=w)->(Builtin.append_ #[t,t'] ty #[.slice base n cap,v']).run P w = .ok (.slice base (n+m) cap) w') /\
  (cap<n+m->∃newCap rest,n+m<=newCap/\rest.size=(newCap-(n+m))*zv.cells.size /\
   (Builtin.append_ #[t,t'] ty #[.slice base n cap,v']).run P w = .ok (.slice (some ⟨w.heap.size,0,none⟩) (n+m) newCap) { w with heap:=w.heap.push (.cells (nA++new++rest) e (0,0)),drawn:=w.drawn+1 }):=by
 have hsz:(sizeOf e).run P w = .ok i.size w:=dz (by grind [iQ])
 refine⟨fun hle w' hst=>?_,fun hlt=>?_⟩
 ·have h1:=dw w rfl;unfold Builtin.append_;simp only[List.getElem?_toArray,List.getElem?_cons_zero,List.getElem?_cons_succ,Sem.run_bind,bu hs,bu hs',Result.andThen_ok,hsz,Sem.run_pure];simp only[Bool.false_eq_true,if_false,hlen,Result.andThen_ok,Bool.not_false,if_true,if_pos hle,h1,Sem.run_bind];cases base with
  |none=>simp_all
  |some ad=>simp_all
 ·have hcapb:¬Builtin.nextslicecap (n+m) cap*i.bytes>2 ^ 48:=by
   have h1:=wS hlt;have h2:Builtin.nextslicecap (n+m) cap*i.bytes<=(2*(n+m)+1000)*i.bytes:=Nat.mul_le_mul_right _ h1
   grind
  let q:Question := .appendCap (n+m) cap e
  refine⟨q.cut (w.tape w.drawn q),Builtin.zeroCells zv.cells (q.cut (w.tape w.drawn q)-(n+m)),by grind [Question.cut],by simp[Builtin.zeroCells],?_⟩
  have h1:=hold w.drew rfl;have h2:=dw w.drew rfl;have hne:i.bytes≠0:=by omega
  have hqf:q.forced=false:=rfl;unfold Builtin.append_;simp only[List.getElem?_toArray,List.getElem?_cons_zero,List.getElem?_cons_succ,Sem.run_bind,bu hs,bu hs',Result.andThen_ok,hsz,Sem.run_pure];simp only[Bool.false_eq_true,if_false,hlen,Result.andThen_ok,Bool.not_false,if_true,if_neg (Nat.not_le.2 hlt),Sem.run_bind];simp[gZ hi,hne,hcapb,h1,h2,zeroValue,hz,newRow,q,Question.forced];rfl
theorem AA(hr:Rel j M w){c:Call}{y y':Operand}{t t' e:TypeId}{d':TypeDesc}{i:TypeInfo}{zv:Value}(hop:o.op = .call c)(hb:c.callee = .builtin .append)(ha:c.args.toList=[y,y'])
  (hat:c.argTypes = #[t,t']) (hs:P.underlying t=some (.slice e)) (hs':P.underlying t'=some d') (hd':∀k,d' ≠ .int k) (hi:P.info? e=some i) (hz:i.zero=some zv) (hzs:zv.cells.size=i.size) (hpos:0<i.size) (hb0:0<i.bytes) (hb1:i.bytes<=2 ^ 20)
  {tk:Tk} {xs ys:List ae} (r1:cC j M w (.slice tk xs) (a.eval y)) (hlen:∀w':World,(Builtin.lenOf (a.eval y')).run P w' = .ok ys.length w') {uy:Nat->Value}
  (fy1:∀w':World,w'.heap=w.heap->(Builtin.firstCells i.size ys.length (a.eval y')).run P w' = .ok (((List.range (ys.length*i.size)).map uy).toArray) w')
  (fy2:∀(q:Nat)(y:ae)(k:Nat)(c:ae),ys[q]?=some y->y.cells[k]?=some c->cg w (fY j M w) c (uy (q*i.size+k)))
  (h:aQ (aP (xs.length+ys.length) i.bytes/\wid xs i.size/\wid ys i.size) (
    match tk with
    | .c0=>match xs with|[]=>some (.slice (.own M.length) ys,M++[.tick i.size ys.length])|_=>none
    | .own k=>match nth M k with
     |some (.tick sz' n)=>aQ (sz'=i.size/\n=xs.length) (some (.slice (.own k) (xs++ys),dA M k (.tick i.size (xs.length+ys.length))))
     |_=>none
    | .sh=>none)=some x):∃v w' j',ju P o a w v w'/\Rel j' x.2 w'/\Ext j M w j' x.2 w'/\cC j' x.2 w' x.1 v/\(ys=[]->v=a.eval y/\∀k,tk = .own k->j'=j)/\∀k b',tk = .own k->j' k=some b'->j k=some b'\/∃vs,w'.heap[b']?=some (.cells vs e (0,0)):=by
 obtain⟨⟨hroom,hwx,hwy⟩,h9⟩:=bd h;clear h;have h:=h9;clear h9;have p1:=r1.bw;obtain⟨ux,fx1,fx2,fx3⟩:=x4 (P:=P) p1 hwx hpos;obtain⟨base,cap,_,_,_,_,hv,hcap,_⟩:=p1.bw;have ha':c.args = #[y,y']:=by rw[<-ha]
 have hexec:∀r,(Builtin.append_ #[t,t'] o.type #[a.eval y,a.eval y']).run P w=r->(execOp a.eval o).run P w=r.andThen fun v w' => .ok (.value v) w':=by
  intro r hr';simp[execOp,hop,resolve,hb,invoke,builtin,ha',hat,hr']
 rw[hv] at fx1;obtain⟨A1,A2⟩:=kZ (P:=P) (w:=w) hs hs' hd' hi hz hb0 hb1 o.type (base:=base) (n:=xs.length) (cap:=cap) (m:=ys.length) hlen fx1 fy1 hroom;rw[<-hv] at A1 A2
 -- nothing is appended
 have nil:ys=[]->∃v,(execOp a.eval o).run P w = .ok (.value v) w/\v=a.eval y:=by
  intro hy;subst hy;refine⟨_,?_,rfl⟩
  have:=A1 (by simp; exact hcap) w (by
   cases base with
   |none=>rfl
   |some ad=>simp[storeCells])
  rw[hexec _ this];simp[hv]
 -- a new block
 have fresh:cap<xs.length+ys.length->∃newCap arr w',xs.length+ys.length<=newCap/\(execOp a.eval o).run P w = .ok (.value (.slice (some ⟨w.heap.size,0,none⟩) (xs.length+ys.length) newCap)) w' /\
   Quiet w w'/\(∀b,b<w.heap.size->w'.heap[b]?=w.heap[b]?)/\w'.heap[w.heap.size]?=some (.cells arr e (0,0))/\newCap*i.size<=arr.size /\
   (∀p,p<xs.length*i.size->arr[p]?=some (ux p))/\∀p,p<ys.length*i.size->arr[xs.length*i.size+p]?=some (uy p):=by
  intro hlt;obtain⟨newCap,rest,h1,h2,h3⟩:=A2 hlt;obtain⟨q,hbk,dw⟩:=ig (w:=w) (.cells (((List.range (xs.length*i.size)).map ux).toArray++((List.range (ys.length*i.size)).map uy).toArray++rest) e (0,0));refine⟨newCap,_,{ w with heap:=w.heap.push (.cells (((List.range (xs.length*i.size)).map ux).toArray++((List.range (ys.length*i.size)).map uy).toArray++rest) e (0,0)),drawn:=w.drawn+1 },h1,(hexec _ h3).trans rfl,⟨q.size,rfl,rfl,rfl⟩,hbk,dw,?_,fun p hp=>?_,fun p hp=>?_⟩
  ·simp only[Array.size_append,List.size_toArray,List.length_map,List.length_range,h2,hzs];rw[<-Nat.add_mul,<-Nat.add_mul];exact Nat.mul_le_mul_right _ (by omega)
  ·rw[Array.append_assoc,Array.getElem?_append_left (by simpa using hp)]
   simp[hp]
  ·rw[Array.append_assoc,Array.getElem?_append_right (by simp),Array.getElem?_append_left (by simp; omega)]
   simp[hp]
 split at h
 ·-- c0
  split at h
  ·cases h;simp only[List.length_nil,Nat.zero_add] at *
   have hc0:cap=0:=by
    obtain⟨A',hA'⟩:=r1.vS;rw[hv] at hA';injection hA'
   by_cases hy:ys=[]
   ·subst hy;obtain⟨v,h1,h2⟩:=nil rfl;have q:Quiet w w:=⟨Nat.le_refl _,rfl,rfl,rfl⟩;refine⟨v,w,cH j M.length none,.inl h1,hr.push (ob:=none) (fun b h=>by cases h) q (fun _ _=>rfl) (fun h=>by cases h) (fun sz n b h h'=>by cases h'),Ext.push (fun b h=>by cases h) q (fun _ _=>rfl),?_,fun _=>⟨h2,fun _ h=>by cases h⟩,fun _ _ h=>by cases h⟩
    rw[h2,hv,hc0];exact .own (sz:=i.size) (n:=0) (by simp) (by simp) (cg.nil _ _ _) fun _ => .inl ⟨by simp[cH],rfl,base,rfl⟩
   ·have hyl:0<ys.length:=List.length_pos_iff.2 hy;obtain⟨newCap,arr,w',g1,g2,g3,g4,g5,g6,g7,g8⟩:=fresh (by omega)
    have hob:∀b,some w.heap.size=some b->w.heap.size<=b/\b<w'.heap.size:=fun b hb=>by
     cases hb; exact⟨Nat.le_refl _,lt_of_block g5⟩
    have ext:Ext j M w (cH j M.length (some w.heap.size)) (M++[.tick i.size ys.length]) w':=Ext.push (fun b hb=>(hob b hb).1) g3 g4
    refine⟨_,w',cH j M.length (some w.heap.size),.inl g2,hr.push hob g3 g4 (fun h=>by cases h) (fun sz n b _ hb=>by grind),ext,?_,fun h=>absurd h hy,fun _ _ h=>by cases h⟩
    have hsaf:∀p,p<(0+ys.length)*i.size->fY (cH j M.length (some w.heap.size)) (M++[.tick i.size ys.length]) w' w.heap.size p:=by
     intro p hp;refine⟨lt_of_block g5,fun id hid hj=>?_,fun hx=>absurd (hr.tb _ _ hx) (Nat.lt_irrefl _)⟩
     by_cases hid':id=M.length
     ·subst hid'; exact⟨i.size,ys.length,by simp,by simpa using hp⟩
     ·have:=hr.lt id w.heap.size (by simp at hid; omega) (by simpa[cH,hid'] using hj)
      omega
    have hj:=cg.join (xs:=[]) (ys:=ys) (w':=w') hwx hwy hpos (ux:=ux) (uy:=uy) (fun i y k c h=>by simp at h) (fun i y k c h1 h2=>(fy2 i y k c h1 h2).mono ext.cV) g5 (fun p hp=>by simp at hp) (fun p hp=>by simpa using g8 p hp) hsaf (cap:=newCap) (by simpa using g1)
    simp only[List.nil_append,List.length_nil,Nat.zero_add] at hj;exact .own (sz:=i.size) (n:=ys.length) (by simp) (Nat.le_refl _) hj fun _ => .inr ⟨w.heap.size,newCap,arr,e,by simp[cH],rfl,g5,g6,g1⟩
  ·cases h
 ·-- own
  rename_i k;rw[cf] at h;split at h
  ·rename_i sz' n' hMk;obtain⟨⟨e1,e2⟩,hx⟩:=bd h;subst e1;subst e2;injection hx with hx
   subst hx;rw[cG];obtain⟨sz0,n0,hk,hn,hrp,ht⟩:=r1.TL
   ·rw[hMk] at hk;injection hk with hk; injection hk with e1 e2
    subst e1; subst e2
    by_cases hy:ys=[]
    ·subst hy;obtain⟨v,h1,h2⟩:=nil rfl
     have hset:M.set k (.tick i.size (xs.length+([]:List ae).length))=M:=by
      apply List.ext_getElem?
      grind
     rw[h2] at h1;rw[hset,List.append_nil];exact⟨a.eval y,w,j,.inl h1,hr,Ext.refl j M w,r1,fun _=>⟨rfl,fun _ _=>rfl⟩,fun _ _ _ h => .inl h⟩
    ·have hyl:0<ys.length:=List.length_pos_iff.2 hy
     have moved:cap<xs.length+ys.length->∃v w' j',ju P o a w v w'/\Rel j' (M.set k (.tick i.size (xs.length+ys.length))) w'/\Ext j M w j' (M.set k (.tick i.size (xs.length+ys.length))) w'/\cC j' (M.set k (.tick i.size (xs.length+ys.length))) w' (.slice (.own k) (xs++ys)) v/\(ys=[]->v=a.eval y/\∀k',Tk.own k = .own k'->j'=j)/\∀k' b',Tk.own k = .own k'->j' k'=some b'->j k'=some b'\/∃vs,w'.heap[b']?=some (.cells vs e (0,0)):=by
      intro hlt;obtain⟨newCap,arr,w',g1,g2,g3,g4,g5,g6,g7,g8⟩:=fresh hlt;have ext:Ext j M w (cH j k (some w.heap.size)) (M.set k (.tick i.size (xs.length+ys.length))) w':=Ext.vA hMk g3 g4 (Nat.le_refl _) (by omega)
      refine⟨_,w',cH j k (some w.heap.size),.inl g2,Rel.vA hMk hr g3 g4 (Nat.le_refl _) g5 (by omega),ext,?_,fun h=>absurd h hy,fun k' b' hk' hb' => .inr ⟨arr,(by grind [cH])⟩⟩
      have hsaf:∀p,p<(xs.length+ys.length)*i.size->fY (cH j k (some w.heap.size)) (M.set k (.tick i.size (xs.length+ys.length))) w' w.heap.size p:=by
       intro p hp;refine⟨lt_of_block g5,fun id hid hj=>?_,fun hx=>absurd (hr.tb _ _ hx) (Nat.lt_irrefl _)⟩
       by_cases hid':id=k
       ·subst hid'; exact⟨i.size,_,br (aq hMk),hp⟩
       ·have:=hr.lt id w.heap.size (by simpa using hid) (by simpa[cH,hid'] using hj)
        omega
      have hj:=cg.join (w':=w') hwx hwy hpos (ux:=ux) (uy:=uy) (fun i y k c h1 h2=>(fx2 i y k c h1 h2).mono ext.cV) (fun i y k c h1 h2=>(fy2 i y k c h1 h2).mono ext.cV) g5 g7 g8 hsaf (cap:=newCap) g1
      exact .own (sz:=i.size) (n:=xs.length+ys.length) (br (aq hMk)) (by simp) hj fun _ => .inr ⟨w.heap.size,newCap,arr,e,by simp[cH],rfl,g5,g6,g1⟩
     rcases ht rfl with ⟨_,hn0,A',hA'⟩|⟨b,cap0,vs,t0,hj,hv0,hw0,hsz0,hcap0⟩
     ·rw[hv] at hA';injection hA' with _ _ e3
      exact moved (by omega)
     ·have hvv:=hv.symm.trans hv0;injection hvv with e1 e2 e3
      subst e1; subst e3
      by_cases hfit:xs.length+ys.length<=cap
      ·have dw:(((List.range (ys.length*i.size)).map uy).toArray).toList.length=ys.length*i.size:=by simp
       have hle:xs.length*i.size+ys.length*i.size<=vs.size:=by
        rw[<-Nat.add_mul];exact Nat.le_trans (Nat.mul_le_mul_right _ hfit) hsz0
       have hone:∀v,v∈(((List.range (ys.length*i.size)).map uy).toArray).toList->v.oneCell'=true:=by
        intro v hv;simp only[List.mem_map,List.mem_range] at hv;obtain⟨p,hp,rfl⟩:=hv;have hd:p / i.size<ys.length:=(Nat.div_lt_iff_lt_mul hpos).2 hp;have hm:p % i.size<i.size:=Nat.mod_lt _ hpos;have hcl:=hwy _ (List.getElem_mem hd);have:=fy2 (p / i.size) _ (p % i.size) _ (List.getElem?_eq_getElem hd) (List.getElem?_eq_getElem (by omega))
        rw[Nat.div_add_mod'] at this;exact this.one
       have hst:=fL (P:=P) (((List.range (ys.length*i.size)).map uy).toArray).toList w (xs.length*i.size) 0 vs hw0 (by rw[dw]; omega) hone
       rw[Nat.add_zero] at hst;obtain⟨s1,s2,s3,s4,s5,vs',s6,s7,s8,s9⟩:=fc (((List.range (ys.length*i.size)).map uy).toArray).toList w (xs.length*i.size) vs hw0 (by rw[dw]; omega)
       have hrun:=A1 hfit _ (by
        show(storeCells ((⟨b,0,none⟩:Addr).add (xs.length*i.size)) _).run P w=_
        rw[fe,Nat.zero_add];exact hst)
       have q:Quiet w (gR w b (xs.length*i.size) (((List.range (ys.length*i.size)).map uy).toArray).toList):=⟨by omega,s2,s3,s4⟩
       have hkeep:∀p,p<xs.length*i.size->vs'[p]?=vs[p]?:=fun p hp=>s8 p (.inl hp)
       have ext:Ext j M w j (M.set k (.tick i.size (xs.length+ys.length))) (gR w b (xs.length*i.size) (((List.range (ys.length*i.size)).map uy).toArray).toList) :=
        Ext.Ad hMk hj hr q (fun b' hb' _=>s5 b' hb') hw0 s6 s7 hkeep (by omega)
       refine⟨_,_,j,.inl ((hexec _ hrun).trans rfl),Rel.Ad hMk hj hr q (fun b' hb' _=>s5 b' hb') hw0 s6 s7 hkeep (by omega),ext,?_,fun h=>absurd h hy,fun _ _ _ h => .inl h⟩
       have hsaf:∀p,p<(xs.length+ys.length)*i.size->fY j (M.set k (.tick i.size (xs.length+ys.length))) (gR w b (xs.length*i.size) (((List.range (ys.length*i.size)).map uy).toArray).toList) b p:=by
        intro p hp;refine⟨lt_of_block s6,fun id hid hj'=>?_,hr.mN k b (aq hMk) hj p⟩
        have:id=k:=hr.inj id k b (by simpa using hid) (aq hMk) hj' hj
        subst this;exact⟨i.size,_,br (aq hMk),hp⟩
       have hjn:=cg.join hwx hwy hpos (ux:=ux) (uy:=uy) (fun i y k c h1 h2=>(fx2 i y k c h1 h2).mono ext.cV) (fun i y k c h1 h2=>(fy2 i y k c h1 h2).mono ext.cV) s6 (fun p hp=>by
        rw[hkeep p hp];have:=fx3 b ⟨_,_,hv⟩ p hp;simpa[World.cell?,hw0] using this) (fun p hp=>by
        rw[s9 p (by rw[dw]; exact hp)]
        simp[hp]) hsaf (cap:=cap) hfit
       exact .own (sz:=i.size) (n:=xs.length+ys.length) (br (aq hMk)) (by simp) hjn fun _ => .inr ⟨b,cap,vs',t0,hj,rfl,s6,by omega,hfit⟩
      ·exact moved (by omega)
  ·cases h
 ·cases h
theorem Ee(hr:Rel j M w)(he:aN j M w env a){c:Call}{y y':Operand}{z z':cR}{t t' e e':TypeId}{i:TypeInfo}{zv:Value}(hop:o.op = .call c)(hb:c.callee = .builtin .append)(ha:c.args.toList=[y,y'])
  (hat:c.argTypes = #[t,t']) (hs:P.underlying t=some (.slice e)) (hs':P.underlying t'=some (.slice e')) (hi:P.info? e=some i) (hz:i.zero=some zv) (hzs:zv.cells.size=i.size) (hpos:0<i.size) (hb0:0<i.bytes) (hb1:i.bytes<=2 ^ 20)
  (hzy:bH y=some z) (hzy':bH y'=some z') (h:bC C env M (.append i.size i.bytes z z')=some x) (hna:∀id ver sz lo hi,z.ev env ≠ .aW id ver sz lo hi):∃v w',ju P o a w v w'/\dn j M w x v w':=by
 simp[bC] at h;have r1:=aZ he hzy;have r2:=aZ he hzy';split at h
 ·rename_i tk xs tk' ys ez ez';obtain⟨⟨_,hwx,hwy⟩,_⟩:=bd h;rw[ez] at r1;rw[ez'] at r2;have p2:=r2.bw;obtain⟨uy,fy1,fy2,_⟩:=x4 p2 hwy hpos;obtain⟨A,cap',_,_,_,_,hv',_⟩:=p2.bw;obtain⟨v,w',j',q1,q2,q3,q4,_⟩:=AA hr hop hb ha hat hs hs' (fun k h=>by cases h) hi hz hzs hpos hb0 hb1 r1 (fun w'=>by rw[hv']; rfl) fy1 fy2 h
  exact⟨v,w',q1,j',q2,q3,q4⟩
 ·grind
 grind
end
section
variable {P:Program} {C:bL} {o:Oper} {env:Env} {M:aj} {j:J} {w:World} {a:Act} {x:ae×aj}
def DM {f:Field} {k:FK} (h:Jr P f=some k):f.name ≠ "_" /\ vg P f.type=some false/\(match k with | .b=>P.underlying f.type=some .bool | .i=>∃q,P.underlying f.type=some (.int q) | .s=>P.underlying f.type=some .string):=by
 unfold Jr at h;split at h
 ·cases h
 ·rename_i hn;refine⟨hn,?_⟩
  split at h<;>first
   |(cases h; rename_i hu; exact⟨by simp[vg,hu],by first|exact hu|exact⟨_,hu⟩⟩)
   |cases h
def DI{d:Nat}{f:Field}{k:FK}(hf:Jr P f=some k){y z:ae}{u v:Value}(hu:cC j M w y u)(hv:cC j M w z v){e:Bool}(h:fx k y z=some e) :
  (Op.equalIn (d+1) f.type u v).run P w = .ok e w:=by
 have hk:=(DM hf).2.2;unfold fx at h;split at h
 ·rename_i k1 a k2 b;obtain⟨q,hq⟩:=hk;split at h
  ·rename_i he;subst he;cases h;rw[hu.cq,hv.cq];exact run_equalIn_int w d f.type _ _ a b hq
  ·cases h
 ·rename_i a b;cases h;rw[hu.eb,hv.eb,run_equalIn_string w d f.type _ _ hk,mP,mP]
 ·rename_i a b;cases h;rw[hu.dy,hv.dy];exact run_equalIn_bool' w d f.type a b hk
 ·cases h
def rT{d:Nat}{cs ds:List ae}{us vs:Array Value}(hc:RC j M w cs us)(hd:RC j M w ds vs):∀ {l:List Field} {k:Nat} {ks:List FK} {e:Bool},uJ P k l=some ks->eB ks (cs.drop k) (ds.drop k)=some e ->
  (Op.eqFields (d+1) us vs l).run P w = .ok e w
 | [],k,ks,e,h1,h2=>by
  simp[uJ] at h1; subst h1;unfold eB at h2;split at h2<;>simp_all [Op.eqFields]
 |f::r,k,ks,e,h1,h2=>by
  simp only[uJ] at h1;split at h1
  ·rename_i hoff;obtain⟨q,hq,h1⟩:=aw h1;obtain⟨qs,hqs,h1⟩:=aw h1;cases h1
   have hk1:k<cs.length:=by
    rcases Nat.lt_or_ge k cs.length with h|h
    ·exact h
    ·rw[List.drop_eq_nil_of_le h] at h2; simp[eB] at h2
   have hk2:k<ds.length:=by
    rcases Nat.lt_or_ge k ds.length with h|h
    ·exact h
    ·rw[List.drop_eq_nil_of_le h] at h2;rw[List.drop_eq_getElem_cons hk1] at h2;simp[eB] at h2
   rw[List.drop_eq_getElem_cons hk1,List.drop_eq_getElem_cons hk2] at h2;simp only[eB] at h2;obtain⟨e1,he1,h2⟩:=az h2;obtain⟨e2,he2,h2⟩:=az h2;cases h2;have hlu:k<us.size:=by have:=hc.1; omega
   have hlv:k<vs.size:=by have:=hd.1; omega
   have hu:=Array.getElem?_eq_getElem hlu;have hv:=Array.getElem?_eq_getElem hlv;have ih:=rT (d:=d) hc hd hqs he2;obtain⟨hn,hag,_⟩:=DM hq;have p1:(part f.type us f.offset).run P w = .ok us[k] w:=by simp[part,eM hag,hoff,hu]
   have p2:(part f.type vs f.offset).run P w = .ok vs[k] w:=by simp[part,eM hag,hoff,hv]
   have p3:=DI (d:=d) hq (hc.2 k _ _ (List.getElem?_eq_getElem hk1) hu) (hd.2 k _ _ (List.getElem?_eq_getElem hk2) hv) he1;simp only[Op.eqFields,if_pos hn,Sem.run_bind,p1,p2,p3,Result.andThen_ok];cases e1
   ·simp
   ·simpa using ih
  ·cases h1
def E3:∀ {l:List Field} {k:Nat} {ks:List FK},uJ P k l=some ks->∀f,f∈l->∃q,Jr P f=some q
 | [],_,_,_,f,hf=>by simp at hf
 |g::r,k,ks,h,f,hf=>by
  simp only[uJ] at h;split at h
  ·obtain⟨q,hq,h⟩:=aw h;obtain⟨qs,hqs,h⟩:=aw h;rcases List.mem_cons.1 hf with rfl|hf
   ·exact⟨q,hq⟩
   ·exact E3 hqs f hf
  ·cases h
def O5(hr:Rel j M w)(he:aN j M w env a){neg:Bool}{y y':Operand}{z z':cR}{t t':TypeId}{fs:Array Field}{ks:List FK}(hop:o.op = .binOp (if neg then .neq else .eql) t y y' t')(ht:P.underlying t=some (.struct fs))
  (hst:P.stoodInHeld t=false) (hks:uJ P 0 fs.toList=some ks) (hz:bH y=some z) (hz':bH y'=some z') (h:bC C env M (.Rk ks neg z z')=some x):∃v w',ju P o a w v w'/\dn j M w x v w':=by
 simp only[bC] at h;have h1:=aZ he hz;have h2:=aZ he hz';split at h
 ·rename_i cs ds ez ez';obtain⟨e,hee,h⟩:=az h;cases h;rw[ez] at h1;rw[ez'] at h2;obtain⟨us,hus,hul,huc⟩:=h1.fB;obtain⟨vs,hvs,hvl,hvc⟩:=h2.fB;have hfs:P.fieldsOf t=fs:=by simp[Program.fieldsOf,ht]
  have heq:(Op.equal t (.agg us) (.agg vs)).run P w = .ok e w:=by
   unfold Op.equal;rw[show Op.maxDepth=9999+1 from rfl,run_equalIn_struct w 9999 t us vs (by rw[hfs]; exact ht) hst,hfs]
   exact rT (d:=9998) ⟨hul,huc⟩ ⟨hvl,hvc⟩ hks (by simpa using hee)
  have hgt:P.eqGuardType P.depth t=false:=by
   unfold Program.depth;rw[show 2*(P.types.size+Made.depth)+2=(2*(P.types.size+Made.depth)+1)+1 from rfl,Program.eqGuardType,ht]
   simp only;rw[Array.any_eq_false];intro i hi;obtain⟨q,hq⟩:=E3 hks fs[i] (by simp)
   have:=(DM hq).2.2;simp only[Program.eqGuardType];cases q<;>simp only at this
   ·obtain⟨_,hu⟩:=this; simp[hu]
   ·simp[this]
   ·simp[this]
  have hguard:∀op,(eqGuard op t y y' (.agg us) (.agg vs)).run P w = .ok () w:=by
   intro op;unfold eqGuard;cases op<;>simp[hgt]
  cases neg
  ·exact⟨.bool e,w,.inl (by simp[execOp,hop,hus,hvs,hguard,binOp,heq]),.still hr (.plain (.bool _))⟩
  ·exact⟨.bool (!e),w,.inl (by simp[execOp,hop,hus,hvs,hguard,binOp,heq]),.still hr (.plain (.bool _))⟩
 ·cases h
end
end
section
open Go Go.RowKit
variable [ew]
section
variable {j:J} {M:aj} {w w':World}
def ue(hr:Rel j M w):∀n,∃j',Rel j' (M++List.replicate n aM.nz) w/\Ext j M w j' (M++List.replicate n aM.nz) w
 |0=>⟨j,by simpa using hr,by simpa using Ext.refl j M w⟩
 |n+1=>by
  obtain⟨j',h1,h2⟩:=ue hr n;have q:Quiet w w:=⟨Nat.le_refl _,rfl,rfl,rfl⟩;refine⟨cH j' (M++List.replicate n aM.nz).length none,?_⟩;rw[List.replicate_succ',<-List.append_assoc];exact⟨h1.push (ob:=none) (bx := .nz) (fun b h=>by cases h) q (fun _ _=>rfl) (fun h=>by cases h) (fun sz n b h h'=>by cases h'),h2.trans (Ext.push (fun b h=>by cases h) q (fun _ _=>rfl))⟩
def Ext.fill{p b:Nat}{cs:List ae}(hM:M[p]?=some .nz)(hob:w.heap.size<=b)(q:Quiet w w')(hb:∀b,b<w.heap.size->w'.heap[b]?=w.heap[b]?) :
  Ext j M w (cH j p (some b)) (M.set p (.cells cs)) w' where
 len:=by simp
 size:=q.size
 os:=q.os
 tape:=q.tape
 output:=q.output
 X:=rfl
 fix:=fun i bx h hf=>by
  have e:p≠i:=by rintro rfl; rw[hM] at h; cases h; cases hf
  exact⟨by simp[cH,Ne.symm e],bx,by rw[aU e]; exact h,rfl⟩
 tick:=fun i sz n h=>by
  have e:p≠i:=by rintro rfl; rw[hM] at h; cases h
  exact⟨n,Nat.le_refl _,by rw[aU e]; exact h,fun _=>⟨by simp[cH,Ne.symm e],fun b vs t _ hv=>⟨vs,(hb b (lt_of_block hv)).trans hv,rfl⟩⟩⟩
 arr:=fun i sz v xs h=>by
  have e:p≠i:=by rintro rfl; rw[hM] at h; cases h
  exact .inr ⟨v,xs,by rw[aU e]; exact h,Nat.le_refl _,fun _=>⟨by simp[cH,Ne.symm e],rfl,fun b vs t _ hv=>⟨vs,(hb b (lt_of_block hv)).trans hv,rfl⟩⟩⟩
 tags:=fun b0 vs0 t0 fr0 h=>⟨vs0,fr0,(hb b0 (lt_of_block h)).trans h,rfl⟩
 cV:=fun b0 off h=>by
  refine⟨⟨Nat.lt_of_lt_of_le h.1 q.size,fun id hid hj=>?_,h.3⟩,World.cell?_of_block (w:=w) (hb b0 h.1)⟩
  by_cases he:id=p
  ·have:b=b0:=by simpa[cH,he] using hj
   have:=h.1;omega
  ·rw[aU (Ne.symm he)];exact h.2 id (by simpa using hid) (by simpa[cH,he] using hj)
 nA:=fun b0 hlt h=>by
  refine⟨hb b0 hlt,fun i hi hj=>?_⟩
  by_cases he:i=p
  ·have:b=b0:=by simpa[cH,he] using hj
   omega
  ·exact h i (by simpa using hi) (by simpa[cH,he] using hj)
def Rel.fill(hr:Rel j M w){p b:Nat}{cs:List ae}(hM:M[p]?=some .nz)(hob:w.heap.size<=b)(hbl:b<w'.heap.size)(q:Quiet w w')(hb:∀b,b<w.heap.size->w'.heap[b]?=w.heap[b]?)
  (hbox:∀j' M',Ext j M w j' M' w'->Holds j' M' w' b (.cells cs)):Rel (cH j p (some b)) (M.set p (.cells cs)) w':=by
 have ext:Ext j M w (cH j p (some b)) (M.set p (.cells cs)) w':=Ext.fill hM hob q hb;have up:∀i,i≠p->cH j p (some b) i=j i:=fun i hi=>by simp[cH,hi]
 have hp:=aq hM;refine⟨fun i i' b0 hi hi' h h'=>?_,fun i b0 hi h=>?_,fun i bx' h hf=>?_,fun i sz n b0 h hj=>?_,fun i sz ver xs h=>?_,fun i b0 hi h off hx=>?_,fun b off h=>Nat.lt_of_lt_of_le (hr.tb b off h) q.size⟩
 ·simp only[List.length_set] at hi hi'
  by_cases e:i=p<;>by_cases e':i'=p
  ·omega
  ·have h1:b=b0:=by simpa[cH,e] using h
   rw[up i' e'] at h';have:=hr.lt i' b0 hi' h';omega
  ·have h1:b=b0:=by simpa[cH,e'] using h'
   rw[up i e] at h;have:=hr.lt i b0 hi h;omega
  ·rw[up i e] at h;rw[up i' e'] at h';exact hr.inj i i' b0 hi hi' h h'
 ·simp only[List.length_set] at hi
  by_cases e:i=p
  ·have h1:b=b0:=by simpa[cH,e] using h
   omega
  ·rw[up i e] at h;exact Nat.lt_of_lt_of_le (hr.lt i b0 hi h) q.size
 ·by_cases e:i=p
  ·subst e;rw[br hp] at h;cases h;exact⟨b,by simp[cH],hbox _ _ ext⟩
  ·rw[aU (Ne.symm e)] at h;obtain⟨b0,h1,h2⟩:=hr.fix i bx' h hf;exact⟨b0,by rw[up i e]; exact h1,h2.mono ext (hb b0 (hr.lt i b0 (aq h) h1))⟩
 ·by_cases e:i=p
  ·subst e; rw[br hp] at h; cases h
  ·rw[aU (Ne.symm e)] at h;rw[up i e] at hj;obtain⟨vs,t,h1⟩:=hr.tick i sz n b0 h hj;exact⟨vs,t,(hb b0 (lt_of_block h1)).trans h1⟩
 ·by_cases e:i=p
  ·subst e; rw[br hp] at h; cases h
  ·rw[aU (Ne.symm e)] at h;exact iA hr ext h (up i e) fun b0 h1=>hb b0 (hr.lt i b0 (aq h) h1)
 ·simp only[List.length_set] at hi
  by_cases e:i=p
  ·have h1:b=b0:=by simpa[cH,e] using h
   have h2:=hr.tb b0 off hx;omega
  ·rw[up i e] at h;exact hr.mN i b0 hi h off hx
def Jo(hr:Rel j M w){p:Nat}(hM:M[p]?=some .nz){cs:List ae}{vs:Array Value}(hc:RC j M w cs vs)(t:TypeId) :
  dn j M w (.ptr p 0,M.set p (.cells cs)) (.pointer (some ⟨w.heap.size,0,none⟩)) { w with heap:=w.heap.push (.cells vs t (0,0)) }:=by
 have q:Quiet w { w with heap:=w.heap.push (.cells vs t (0,0)) }:=⟨by simp,rfl,rfl,rfl⟩
 have hb:∀b,b<w.heap.size->({ w with heap:=w.heap.push (.cells vs t (0,0)) }:World).heap[b]?=w.heap[b]?:=fun b hb=>by
  show(w.heap.push _)[b]?=_
  rw[Array.getElem?_push,if_neg (by omega)]
 have hn:({ w with heap:=w.heap.push (.cells vs t (0,0)) }:World).heap[w.heap.size]?=some (.cells vs t (0,0)):=by simp
 have hp:=aq hM;exact⟨cH j p (some w.heap.size),hr.fill hM (Nat.le_refl _) (by simp) q hb (fun j' M' hx=>⟨vs,t,hn,hc.1,fun i c v h1 h2=>(hc.2 i c v h1 h2).mono hx⟩),Ext.fill hM (Nat.le_refl _) q hb,.ptr (by simpa using hp) ⟨cs,br hp⟩ (by simp[cH])⟩
end
variable {P:Program} {own:List Nat} {o:Oper}
def Gn{l:List ae}{t:TypeId}(hop:o.op = .alloc t)(h:Ie P own o=some (.iB l)):∃i zv,P.info? t=some i/\i.zero=some zv/\kv zv.cells.toList=some l:=by
 simp only[Ie,hop] at h;obtain⟨i,hi,h⟩:=aw h;obtain⟨z,hz,h⟩:=aw h;obtain⟨l',hl,h⟩:=aw h;split at h
 ·split at h
  ·split at h
   ·obtain⟨n,hn,h⟩:=aw h;cases h
   ·cases h
  ·injection h with h; cases h; exact⟨i,z,hi,hz,hl⟩
 ·injection h with h; cases h; exact⟨i,z,hi,hz,hl⟩
def Gp{l:List ae}{t0:TypeId}(hop:o.op = .alloc t0)(h:Ie P own o=some (.iB l))(a:Act)(w:World):∃vs t,(∀j M w',RC j M w' l vs)/\ju P o a w (.pointer (some ⟨w.heap.size,0,none⟩)) { w with heap:=w.heap.push (.cells vs t (0,0)) }:=by
 obtain⟨i,zv,hi,hz,hl⟩:=Gn hop h;refine⟨zv.cells,t0,fun j M w'=>?_,.inl (by simp[execOp,hop,Instr.alloc,zeroValue,gZ hi,hz,newVar,newRow])⟩
 obtain⟨h1,h2⟩:=iz (j:=j) (M:=M) (w:=w') hl;exact⟨by simpa using h1,fun i c v hc hv=>h2 i c v hc (by simpa using hv)⟩
end
section
open Go Go.RowKit
variable [ew]
theorem rj{x:Nat}:∀(l a:List Nat),x∈ef a l↔x∈a\/x∈l
 | [],a=>by simp[ef]
 |y::r,a=>by
  rw[ef,rj r]
  grind
theorem jl:∀(l a:List Nat),a.Nodup->(ef a l).Nodup
 | [],a,h=>h
 |y::r,a,h=>by
  refine jl r _ ?_
  grind
def Ca(M:aj)(l:List Nat):(reach M l).Nodup:=jl _ _ (jl _ _ (jl _ _ (jl _ _ List.nodup_nil)))
def Hv{M:aj}{l:List Nat}{x:Nat}(h:x∈l):x∈reach M l:=by
 simp_all [reach,eG,rj]
theorem yz{M:aj}{x i:Nat}{b:aM}:∀ {l:List Nat},i∈l->M[i]?=some b->x∈b.ids->x∈iU M l
 | [],h,_,_=>by grind
 |k::r,h,hb,hx=>by
  rw[iU,List.mem_append];rcases List.mem_cons.1 h with rfl|h
  ·grind [cf]
  ·exact .inr (yz h hb hx)
theorem GI{M:aj}{ids:List Nat}(h:eG M ids=ids){i x:Nat}{b:aM}(hi:i∈ids)(hb:M[i]?=some b)(hx:x∈b.ids):x∈ids:=by
 rw[<-h,eG,rj]
 grind [yz]
theorem lx:∀ {ids:List Nat} {x:Nat},x∈ids->ids[da ids x]?=some x
 | [],_,h=>by grind
 |a::l,x,h=>by
  rw[da];split
  ·grind
  ·rcases List.mem_cons.1 h with rfl|h
   ·omega
   ·simpa using lx h
def mf{ids:List Nat}{x:Nat}(h:x∈ids):da ids x<ids.length:=aq (lx h)
theorem vt:∀ {ids:List Nat} {i x:Nat},ids.Nodup->ids[i]?=some x->da ids x=i
 | [],i,x,_,h=>by grind
 |a::l,i,x,hn,h=>by
  rw[da];have hn':=List.nodup_cons.1 hn;cases i with
  |zero=>grind
  |succ i =>
   have h':l[i]?=some x:=by grind
   rw[if_neg (by grind),vt hn'.2 h']
def EI{ids:List Nat}{x:Nat}(h:x∈ids):px ids (da ids x)=x:=by rw[px,cf,lx h]; rfl
def VL{ids:List Nat}{i x:Nat}(h:ids[i]?=some x):px ids i=x:=by rw[px,cf,h]; rfl
theorem wZ{M:aj}{ρ:Nat->Nat}:∀ {l:List Nat} {B:aj},dK M ρ l=some B->B.length=l.length/\∀(i id:Nat),l[i]?=some id->∃b,M[id]?=some b/\b.flat=true/\B[i]?=some (b.iE ρ)
 | [],B,h=>by grind [dK]
 |k::r,B,h=>by
  simp[dK,cf] at h;split at h
  ·split at h
   ·obtain⟨l,hl,h⟩:=az h;injection h with h; obtain⟨h1,h2⟩:=wZ hl
    grind
   grind
  grind
theorem nT{ids:List Nat}:∀ {l:List Nat} {B M:aj},l.Nodup->l.length=B.length->(eW ids M l B).length=M.length/\(∀i,i∉l->(eW ids M l B)[i]?=M[i]?) /\
  ∀(i id:Nat)(b:aM),l[i]?=some id->id<M.length->B[i]?=some b->(eW ids M l B)[id]?=some (b.iE (px ids))
 | [],B,M,_,_=>by simp[eW]
 |k::r,[],M,_,hl=>by simp at hl
 |k::r,b::B,M,hn,hl=>by
  rw[eW,cG];have hn':=List.nodup_cons.1 hn;obtain⟨h1,h2,h3⟩:=nT (ids:=ids) (B:=B) (M:=M.set k (b.iE (px ids))) hn'.2 (by grind)
  grind
def FX(ρ:Nat->Nat)(b:aM):(b.iE ρ).tag=b.tag:=by cases b<;>rfl
def pL{ρ:Nat->Nat}{b:aM}(h:b.loose=true):b.iE ρ=b:=by cases b<;>first|rfl|cases h
structure Sub(j:J)(M:aj)(w:World)(ids:List Nat)(B:aj):Prop where
 nodup:ids.Nodup
 len:B.length=ids.length
 box:∀(i id:Nat),ids[i]?=some id->∃b,M[id]?=some b/\b.flat=true/\B[i]?=some (b.iE (da ids))
 closed:∀(i:Nat)(b:aM),i∈ids->M[i]?=some b->∀x,x∈b.ids->x∈ids
def down(j:J)(M:aj)(ids:List Nat):J:=⟨fun i=>match ids[i]? with|some id=>j id|none=>none,fun b off=>j.X b off\/∃id,id<M.length/\id∉ids/\j id=some b/\¬ ∃sz n,M[id]?=some (.tick sz n)/\off<n*sz⟩
section
variable {j:J} {M B:aj} {w:World} {ids:List Nat}
theorem Sub.at_(s:Sub j M w ids B){id:Nat}(h:id∈ids){b:aM}(hb:M[id]?=some b):B[da ids id]?=some (b.iE (da ids)):=by
 obtain⟨b',h1,_,h2⟩:=s.box _ _ (lx h)
 grind
theorem Sub.inv(s:Sub j M w ids B){i:Nat}{c:aM}(h:B[i]?=some c):∃id b,ids[i]?=some id/\M[id]?=some b/\b.flat=true/\c=b.iE (da ids):=by
 have hi:i<ids.length:=by rw[<-s.len]; grind
 obtain⟨b,h1,h2,h3⟩:=s.box i _ (List.getElem?_eq_getElem hi)
 grind
theorem fE{id:Nat}(h:id∈ids):(down j M ids) (da ids id)=j id:=by grind [down,lx]
theorem jh{i b:Nat}(h:(down j M ids) i=some b):∃id,ids[i]?=some id/\j id=some b:=by
 grind [down]
def Sub.cV(s:Sub j M w ids B){b off:Nat}(h:fY j M w b off):fY (down j M ids) B w b off:=by
 refine⟨h.lt,fun i hi hj=>?_,fun hx=>?_⟩
 ·obtain⟨id,h1,h2⟩:=jh hj;obtain⟨bx,h3,_,h4⟩:=s.box i _ h1;obtain⟨sz,n,h5,h6⟩:=h.ids _ (aq h3) h2;rw[h3] at h5; cases h5;exact⟨sz,n,h4,h6⟩
 ·rcases hx with hx|⟨id,h1,_,h2,h3⟩
  ·exact h.nx hx
  ·exact h3 (h.ids _ h1 h2)
theorem Sub.PR(s:Sub j M w ids B){x:ae}{v:Value}(h:cC j M w x v)(hf:x.x5=true)(hi:∀i,i∈x.cX->i∈ids):cC (down j M ids) B w (x.kJ (da ids)) v:=by
 cases h with
 |plain h =>
  have:x.kJ (da ids)=x:=by cases h<;>rfl
  rw[this];exact .plain (h.mono fun b off hs=>⟨s.cV hs,rfl⟩)
 |c0 A=>exact .c0 A
 | @own k xs v sz n hk hn hp ht =>
  have hki:k∈ids:=hi k (by simp[ae.cX])
  refine .own (sz:=sz) (n:=n) (s.at_ hki hk) hn (hp.mono fun b off hs=>⟨s.cV hs,rfl⟩) fun he=>?_
  rcases ht he with ⟨g1,g2,g3⟩|⟨b,cap,vs,t,g1,g2,g3,g4,g5⟩
  ·exact .inl ⟨by rw[fE hki]; omega,g2,g3⟩
  ·exact .inr ⟨b,cap,vs,t,by rw[fE hki]; exact g1,g2,g3,g4,g5⟩
 |agg=>cases hf
 |tuple=>cases hf
 | @ptr id off b hid hc hj =>
  have hki:id∈ids:=hi id (by simp[ae.cX])
  obtain⟨cs,hc⟩:=hc;exact .ptr (by rw[s.len]; exact mf hki) ⟨_,s.at_ hki hc⟩ (by rw[fE hki]; omega)
 |dq h=>exact .dq fun k c hk=>⟨(h k c hk).1,s.cV (h k c hk).2.1,(h k c hk).2.2.mono fun b off hs=>⟨s.cV hs,rfl⟩⟩
 |func=>cases hf
 | @cU id b hc hj =>
  have hki:id∈ids:=hi id (by simp[ae.cX])
  obtain⟨ks,vs,hc⟩:=hc;exact .cU ⟨_,_,s.at_ hki hc⟩ (by rw[fE hki]; exact hj)
 | @dD id b hc hj =>
  have hki:id∈ids:=hi id (by simp[ae.cX])
  obtain⟨ks,vs,hc⟩:=hc;exact .dD ⟨_,_,s.at_ hki hc⟩ (by rw[fE hki]; omega)
 | @dU t id off b hc hj =>
  have hki:id∈ids:=hi id (by simp[ae.cX])
  obtain⟨cs,hc⟩:=hc;exact .dU ⟨_,s.at_ hki hc⟩ (by rw[fE hki]; exact hj)
 |iM hl hd=>exact .iM hl fun i c v h1 h2=>(hd i c v h1 h2).mono fun b off hs=>⟨s.cV hs,rfl⟩
 | @dI ks vs b es cl hb hfr hx hw hk hv hks hvs =>
  refine .dI hb (fun i _ he=>?_) (fun off hx'=>?_) hw hk hv (fun i k e h1 h2=>(hks i k e h1 h2).mono fun b off hs=>⟨s.cV hs,rfl⟩) (fun i k e h1 h2=>(hvs i k e h1 h2).mono fun b off hs=>⟨s.cV hs,rfl⟩)
  ·obtain⟨id,h1,h2⟩:=jh he;obtain⟨bx,h3,_⟩:=s.box _ _ h1
   grind
  ·rcases hx' with hx'|⟨id,h1,_,h2,_⟩
   ·exact hx off hx'
   grind
 | @aW id ver sz0 lo hi v h0 hid hM hv =>
  have hki:id∈ids:=hi id (by simp[ae.cX])
  have hb:=List.getElem?_eq_getElem hid;have hat:=s.at_ hki hb;rw[pL (hM _ hb)] at hat;refine .aW h0 (by rw[s.len]; exact mf hki) (fun bx hbx=>?_) fun sz v' xs h=>?_
  ·rw[hat] at hbx; exact hM bx (hb.trans hbx)
  ·rw[hat] at h;obtain⟨k1,k2⟩:=hv sz v' xs (hb.trans h)
   exact⟨k1,fun he=>by
    obtain⟨l0,l1,l2,⟨l3,l4,l5⟩|⟨b,cap,vs,t,l3,r⟩⟩:=k2 he
    ·exact⟨l0,l1,l2,.inl ⟨l3,by rw[fE hki]; omega,l5⟩⟩
    exact⟨l0,l1,l2,.inr ⟨b,cap,vs,t,by rw[fE hki]; omega,r⟩⟩⟩
 | @dk id ver i off v h0 hid hM hv =>
  have hki:id∈ids:=hi id (by simp[ae.cX])
  have hb:=List.getElem?_eq_getElem hid;have hat:=s.at_ hki hb;rw[pL (hM _ hb)] at hat;refine .dk h0 (by rw[s.len]; exact mf hki) (fun bx hbx=>?_) fun sz v' xs h=>?_
  ·rw[hat] at hbx; exact hM bx (hb.trans hbx)
  grind [fE]
 |any v=>exact .any v
theorem Sub.En(s:Sub j M w ids B){x:ae}{v:Value}(h:cC j M w x v)(hf:x.n9=true)(hi:∀i,i∈x.fP->i∈ids):cC (down j M ids) B w (x.kK (da ids)) v:=by
 by_cases hfn:∃f caps,x = .func f caps
 ·obtain⟨f,caps,rfl⟩:=hfn;obtain⟨vs,rfl,hl,hc⟩:=h.jY;refine .func (by grind) fun i c u hci hu=>?_
  rw[List.getElem?_map,Option.map_eq_some_iff] at hci;obtain⟨c0,hc0,rfl⟩:=hci;have hm:=List.mem_of_getElem? hc0;exact s.PR (hc i _ u hc0 hu) (List.all_eq_true.1 hf _ hm) fun q hq=>hi q (List.mem_flatMap.2 ⟨c0,hm,hq⟩)
 ·have e1:x.kK (da ids)=x.kJ (da ids):=by cases x<;>first|rfl|grind
  have e2:x.fP=x.cX:=by cases x<;>first|rfl|grind
  have e3:x.x5=true:=by cases x<;>first|rfl|exact absurd ⟨_,_,rfl⟩ hfn|cases hf
  rw[e1];exact s.PR h e3 (by rw[<-e2]; omega)
theorem Sub.rep(s:Sub j M w ids B){x:ae}{v:Value}(h:cC j M w x v)(hf:x.flat=true)(hi:∀i,i∈x.ids->i∈ids):cC (down j M ids) B w (x.iE (da ids)) v:=by
 by_cases hag:∃cs,x = .agg cs
 ·obtain⟨cs,rfl⟩:=hag;obtain⟨vs,rfl,hl,hc⟩:=h.fB;refine .agg (by grind) fun i c u hci hu=>?_
  rw[List.getElem?_map,Option.map_eq_some_iff] at hci;obtain⟨c0,hc0,rfl⟩:=hci;have hm:=List.mem_of_getElem? hc0;exact s.En (hc i _ u hc0 hu) (List.all_eq_true.1 hf _ hm) fun q hq=>hi q (List.mem_flatMap.2 ⟨c0,hm,hq⟩)
 ·have e1:x.iE (da ids)=x.kK (da ids):=by cases x<;>first|rfl|grind
  have e2:x.ids=x.fP:=by cases x<;>first|rfl|grind
  have e3:x.n9=true:=by cases x<;>first|exact hf|grind
  rw[e1];exact s.En h e3 (by rw[<-e2]; omega)
theorem Sub.rel(s:Sub j M w ids B)(hr:Rel j M w):Rel (down j M ids) B w:=by
 have Ij:∀ {i id:Nat},ids[i]?=some id->id<M.length:=fun h=>by
  obtain⟨b,h1,_⟩:=s.box _ _ h
  grind
 refine⟨fun i i' b hi hi' h h'=>?_,fun i b hi h=>?_,fun i cb h hf=>?_,fun i sz n b h hj=>?_,fun i sz ver xs h=>?_,fun i b hi h off hx=>?_,fun b off h=>?_⟩
 ·obtain⟨id,h1,h2⟩:=jh h;obtain⟨id',h1',h2'⟩:=jh h';have:=hr.inj id id' b (Ij h1) (Ij h1') h2 h2';subst this;rw[<-vt s.nodup h1,vt s.nodup h1']
 ·obtain⟨id,h1,h2⟩:=jh h;exact hr.lt id b (Ij h1) h2
 ·obtain⟨id,bx,h1,h2,h3,h4⟩:=s.inv h;subst h4;have hfx:bx.fixed=true:=by cases bx<;>first|rfl|cases hf
  obtain⟨b,g1,g2⟩:=hr.fix id bx h2 hfx;refine⟨b,by grind [down],?_⟩
  have hcl:∀p,p∈bx.ids->p∈ids:=s.closed id _ (List.mem_of_getElem? h1) h2;cases bx with
  |tick sz n=>cases hf
  |cells cs0 =>
   obtain⟨vs,t,k1,k2,k3⟩:=g2;refine⟨vs,t,k1,by simpa using k2,fun q c v hc hv=>?_⟩
   rw[List.getElem?_map,Option.map_eq_some_iff] at hc;obtain⟨c0,hc0,rfl⟩:=hc;have hm:=List.mem_of_getElem? hc0;exact s.En (k3 q c0 v hc0 hv) (List.all_eq_true.1 h3 c0 hm) fun p hp=>hcl p (List.mem_flatMap.2 ⟨c0,hm,hp⟩)
  |map ks vs =>
   obtain⟨es,cl,k1,k2,k3,k4,k5⟩:=g2;refine⟨es,cl,k1,k2,by simpa using k3,fun q c e hc he=>(k4 q c e hc he).mono fun b off hs=>⟨s.cV hs,rfl⟩,fun q c e hc he=>?_⟩
   rw[List.getElem?_map,Option.map_eq_some_iff] at hc;obtain⟨c0,hc0,rfl⟩:=hc;have hm:=List.mem_of_getElem? hc0;exact s.rep (k5 q c0 e hc0 he) (List.all_eq_true.1 h3 c0 hm) fun p hp=>hcl p (List.mem_flatMap.2 ⟨c0,hm,hp⟩)
  |fI st pos=>exact g2
  |nz=>cases hf
  |arr=>cases hf
 ·obtain⟨id,bx,h1,h2,h3,h4⟩:=s.inv h;obtain⟨id',h1',h2'⟩:=jh hj;rw[h1] at h1'; cases h1';cases bx<;>first|cases h4|skip
  exact hr.tick id _ _ b h2 h2'
 ·obtain⟨id,bx,h1,h2,h3,h4⟩:=s.inv h;cases bx<;>first|cases h4|skip
  obtain⟨g0,g1⟩|⟨b,vs,t,g1,g2,g3,g4,g5⟩:=hr.arr id _ _ _ h2
  ·grind [down]
  exact .inr ⟨b,vs,t,by grind [down],g2,g3,g4,fun q x k c hx hk=>(g5 q x k c hx hk).imp fun u hu=>⟨hu.1,hu.2.mono fun b off hs=>⟨s.cV hs,rfl⟩⟩⟩
 ·obtain⟨id,h1,h2⟩:=jh h;rcases hx with hx|⟨id',g1,g2,g3,_⟩
  ·exact hr.mN id b (Ij h1) h2 off hx
  ·have:=hr.inj id id' b (Ij h1) g1 h2 g3
   grind
 ·rcases h with h|⟨id,g1,_,g3,_⟩
  ·exact hr.tb b off h
  ·exact hr.lt id b g1 g3
variable {j2:J} {B':aj} {w':World}
open Classical in
noncomputable def H0(j j2:J)(ids:List Nat):J:=⟨fun id=>if id∈ids then j2 (da ids id) else j id,j.X⟩
theorem eP{id:Nat}(h:id∈ids):(H0 j j2 ids) id=j2 (da ids id):=by grind [H0]
theorem gq{id:Nat}(h:id∉ids):(H0 j j2 ids) id=j id:=by grind [H0]
structure oy(j:J)(M B:aj)(w:World)(ids:List Nat)(j2:J)(B':aj)(w':World):Prop where
 sub:Sub j M w ids B
 hr:Rel j M w
 ext:Ext (down j M ids) B w j2 B' w'
 rel:Rel j2 B' w'
 len:B'.length=B.length
 flat:∀b,b∈B'->b.flat=true
variable (bk:oy j M B w ids j2 B' w')
include bk
theorem oy.Ij{i id:Nat}(h:ids[i]?=some id):id<M.length:=by
 obtain⟨b,h1,_⟩:=bk.sub.box _ _ h
 grind
def oy.DU{id:Nat}(h:id∈ids){b:aM}(hb:B'[da ids id]?=some b):(eW ids M ids B')[id]?=some (b.iE (px ids)) :=
 (nT bk.sub.nodup (by rw[bk.len,bk.sub.len])).2.2 _ _ b (lx h) (bk.Ij (lx h)) hb
def oy.Eh{id:Nat}(h:id∉ids):(eW ids M ids B')[id]?=M[id]?:=(nT bk.sub.nodup (by rw[bk.len,bk.sub.len])).2.1 _ h
def oy.jP:(eW ids M ids B').length=M.length:=(nT bk.sub.nodup (by rw[bk.len,bk.sub.len])).1
def oy.some_{id:Nat}(h:id∈ids):∃b,B'[da ids id]?=some b/\b.flat=true:=by
 have hi:da ids id<B'.length:=by rw[bk.len,bk.sub.len]; exact mf h
 exact⟨_,List.getElem?_eq_getElem hi,bk.flat _ (List.getElem_mem _)⟩
theorem oy.nA{id b:Nat}(hid:id<M.length)(h:id∉ids)(hj:j id=some b):w'.heap[b]?=w.heap[b]?/\∀i,i<B'.length->j2 i≠some b:=by
 refine bk.ext.nA b (bk.hr.lt _ b hid hj) fun i hi he=>?_
 obtain⟨id',h1,h2⟩:=jh he;have:=bk.hr.inj _ _ b hid (bk.Ij h1) hj h2
 grind
def oy.cV{b off:Nat}(h:fY j2 B' w' b off):fY (H0 j j2 ids) (eW ids M ids B') w' b off:=by
 have hX:=bk.ext.X;have hnx:=h.nx;rw[hX] at hnx;refine⟨h.lt,fun id hid hj=>?_,fun hx=>hnx (.inl hx)⟩
 rw[bk.jP] at hid
 by_cases hi:id∈ids
 ·rw[eP hi] at hj;obtain⟨sz,n,h1,h2⟩:=h.ids _ (by rw[bk.len,bk.sub.len]; exact mf hi) hj
  exact⟨sz,n,bk.DU hi h1,h2⟩
 ·rw[gq hi] at hj;rw[bk.Eh hi];exact Classical.byContradiction fun hc=>hnx (.inr ⟨id,hid,hi,hj,hc⟩)
def oy.Rv:Ext j M w (H0 j j2 ids) (eW ids M ids B') w' where
 len:=by rw[bk.jP]; exact Nat.le_refl _
 size:=bk.ext.size
 os:=bk.ext.os
 tape:=bk.ext.tape
 output:=bk.ext.output
 X:=rfl
 fix:=fun id bx h hf=>by
  by_cases hi:id∈ids
  ·obtain⟨g1,bx',g2,g3⟩:=bk.ext.fix _ _ (bk.sub.at_ hi h) (by cases bx<;>first|rfl|cases hf)
   rw[eP hi,g1,fE hi];refine⟨rfl,_,bk.DU hi g2,?_⟩;rw[FX,g3,FX]
  ·rw[gq hi,bk.Eh hi]; exact⟨rfl,bx,h,rfl⟩
 tick:=fun id sz n h=>by
  by_cases hi:id∈ids
  ·obtain⟨n',g1,g2,g3⟩:=bk.ext.tick _ _ _ (bk.sub.at_ hi h);refine⟨n',g1,bk.DU hi g2,fun he=>?_⟩
   obtain⟨k1,k2⟩:=g3 he;rw[eP hi,k1,fE hi];exact⟨rfl,fun b vs t hb hv=>k2 b vs t (by rw[fE hi]; exact hb) hv⟩
  ·rw[gq hi,bk.Eh hi];exact⟨n,Nat.le_refl _,h,fun _=>⟨rfl,fun b vs t hb hv=>⟨vs,(bk.nA (aq h) hi hb).1.trans hv,rfl⟩⟩⟩
 arr:=fun id sz v xs h=>by
  by_cases hi:id∈ids
  ·rcases bk.ext.arr _ _ _ _ (bk.sub.at_ hi h) with ⟨n',g⟩|⟨v',xs',g2,g3,g4⟩
   ·exact .inl ⟨n',bk.DU hi g⟩
   ·refine .inr ⟨v',xs',bk.DU hi g2,g3,fun he=>?_⟩
    obtain⟨k1,k2,k3⟩:=g4 he;rw[eP hi,k1,fE hi];exact⟨rfl,k2,fun b vs t hb hv=>k3 b _ t (by rw[fE hi]; exact hb) hv⟩
  ·rw[gq hi,bk.Eh hi];exact .inr ⟨v,xs,h,Nat.le_refl _,fun _=>⟨rfl,rfl,fun b vs t hb hv=>⟨vs,(bk.nA (aq h) hi hb).1.trans hv,rfl⟩⟩⟩
 tags:=bk.ext.tags
 cV:=fun b off h=>by
  obtain⟨h1,h2⟩:=bk.ext.cV b _ (bk.sub.cV h);exact⟨bk.cV h1,h2⟩
 nA:=fun b hb h=>by
  have h1:∀i,i<B.length->(down j M _) i≠some b:=fun i _ he=>by
   obtain⟨id,g1,g2⟩:=jh he;exact h id (bk.Ij g1) g2
  obtain⟨h2,h3⟩:=bk.ext.nA b hb h1;refine⟨h2,fun id hid he=>?_⟩
  rw[bk.jP] at hid
  by_cases hi:id∈ids
  ·rw[eP hi] at he;exact h3 _ (by rw[bk.len,bk.sub.len]; exact mf hi) he
  ·rw[gq hi] at he;exact h id hid he
def oy.vK{i:Nat}(h:i<B'.length):∃id,ids[i]?=some id/\id∈ids/\px ids i=id/\da ids id=i:=by
 have hi:i<ids.length:=by rw[<-bk.sub.len,<-bk.len]; omega
 have hg:=List.getElem?_eq_getElem hi;exact⟨_,hg,List.mem_of_getElem? hg,VL hg,vt bk.sub.nodup hg⟩
theorem oy.PR{x:ae}{v:Value}(h:cC j2 B' w' x v)(hf:x.x5=true):cC (H0 j j2 ids) (eW ids M ids B') w' (x.kJ (px ids)) v:=by
 cases h with
 |plain h =>
  have:x.kJ (px ids)=x:=by cases h<;>rfl
  rw[this];exact .plain (h.mono fun b off hs=>⟨bk.cV hs,rfl⟩)
 |c0 A=>exact .c0 A
 | @own k xs v sz n hk hn hp ht =>
  obtain⟨id,g1,g2,g3,g4⟩:=bk.vK (aq hk);simp only[ae.kJ,g3];refine .own (sz:=sz) (n:=n) (bk.DU g2 (b := .tick sz n) (by rw[g4]; exact hk)) hn (hp.mono fun b off hs=>⟨bk.cV hs,rfl⟩) fun he=>?_
  rcases ht he with ⟨e1,e2,e3⟩|⟨b,cap,vs,t,e1,e2,e3,e4,e5⟩
  ·exact .inl ⟨by rw[eP g2,g4]; omega,e2,e3⟩
  ·exact .inr ⟨b,cap,vs,t,by rw[eP g2,g4]; grind,e2,e3,e4,e5⟩
 | @dU t k off b hc hj =>
  obtain⟨cs,hc⟩:=hc;obtain⟨id,g1,g2,g3,g4⟩:=bk.vK (aq hc);simp only[ae.kJ,g3];exact .dU ⟨_,bk.DU g2 (b := .cells cs) (by rw[g4]; omega)⟩ (by rw[eP g2,g4]; omega)
 |agg=>cases hf
 |tuple=>cases hf
 | @ptr k off b hid hc hj =>
  obtain⟨id,g1,g2,g3,g4⟩:=bk.vK hid;obtain⟨cs,hc⟩:=hc;simp only[ae.kJ,g3];exact .ptr (by rw[bk.jP]; exact bk.Ij g1) ⟨_,bk.DU g2 (b := .cells cs) (by rw[g4]; exact hc)⟩ (by rw[eP g2,g4]; omega)
 |dq h=>exact .dq fun k c hk=>⟨(h k c hk).1,bk.cV (h k c hk).2.1,(h k c hk).2.2.mono fun b off hs=>⟨bk.cV hs,rfl⟩⟩
 |func=>cases hf
 | @cU k b hc hj =>
  obtain⟨ks,vs,hc⟩:=hc;obtain⟨id,g1,g2,g3,g4⟩:=bk.vK (aq hc);simp only[ae.kJ,g3];exact .cU ⟨_,_,bk.DU g2 (b := .map ks vs) (by rw[g4]; omega)⟩ (by rw[eP g2,g4]; omega)
 | @dD k b hc hj =>
  obtain⟨st,p,hc⟩:=hc;obtain⟨id,g1,g2,g3,g4⟩:=bk.vK (aq hc);simp only[ae.kJ,g3];exact .dD ⟨_,_,bk.DU g2 (b := .fI st p) (by rw[g4]; exact hc)⟩ (by rw[eP g2,g4]; exact hj)
 |iM hl hd=>exact .iM hl fun i c v h1 h2=>(hd i c v h1 h2).mono fun b off hs=>⟨bk.cV hs,rfl⟩
 | @dI ks vs b es cl hb hfr hx hw hk hv hks hvs =>
  rw[bk.ext.X] at hx;refine .dI hb (fun id hid he=>?_) (fun off hx'=>hx off (.inl hx')) hw hk hv (fun i k e h1 h2=>(hks i k e h1 h2).mono fun b off hs=>⟨bk.cV hs,rfl⟩) (fun i k e h1 h2=>(hvs i k e h1 h2).mono fun b off hs=>⟨bk.cV hs,rfl⟩)
  rw[bk.jP] at hid
  by_cases m:id∈ids
  ·rw[eP m] at he;exact hfr _ (by rw[bk.len,bk.sub.len]; exact mf m) he
  ·rw[gq m] at he
   by_cases ht:∃sz n,M[id]?=some (.tick sz n)
   ·obtain⟨sz,n,ht⟩:=ht;refine hx (n*sz) (.inr ⟨id,hid,m,he,?_⟩)
    grind
   ·exact hx 0 (.inr ⟨id,hid,m,he,fun⟨sz,n,h1,_⟩=>ht ⟨sz,n,h1⟩⟩)
 | @aW k ver sz0 lo hi v h0 hid hM hv =>
  obtain⟨id,g1,g2,g3,g4⟩:=bk.vK hid;have hb:=List.getElem?_eq_getElem hid;have hin:=bk.DU g2 (b:=B'[k]) (by rw[g4]; exact hb)
  rw[pL (hM _ hb)] at hin;simp only[ae.kJ,g3];refine .aW h0 (by rw[bk.jP]; exact bk.Ij g1) (fun bx hbx=>?_) fun sz v' xs h=>?_
  ·rw[hin] at hbx; exact hM bx (hb.trans hbx)
  ·rw[hin] at h;obtain⟨k1,k2⟩:=hv sz v' xs (hb.trans h)
   exact⟨k1,fun he=>by
    obtain⟨l0,l1,l2,⟨l3,l4,l5⟩|⟨b,cap,vs,t,l3,r⟩⟩:=k2 he
    ·exact⟨l0,l1,l2,.inl ⟨l3,by rw[eP g2,g4]; exact l4,l5⟩⟩
    exact⟨l0,l1,l2,.inr ⟨b,cap,vs,t,by rw[eP g2,g4]; exact l3,r⟩⟩⟩
 | @dk k ver i off v h0 hid hM hv =>
  obtain⟨id,g1,g2,g3,g4⟩:=bk.vK hid;have hb:=List.getElem?_eq_getElem hid;have hin:=bk.DU g2 (b:=B'[k]) (by rw[g4]; exact hb)
  rw[pL (hM _ hb)] at hin;simp only[ae.kJ,g3];refine .dk h0 (by rw[bk.jP]; exact bk.Ij g1) (fun bx hbx=>?_) fun sz v' xs h=>?_
  ·rw[hin] at hbx; exact hM bx (hb.trans hbx)
  grind [eP]
 |any v=>exact .any v
theorem oy.En{x:ae}{v:Value}(h:cC j2 B' w' x v)(hf:x.n9=true):cC (H0 j j2 ids) (eW ids M ids B') w' (x.kK (px ids)) v:=by
 by_cases hfn:∃f caps,x = .func f caps
 ·obtain⟨f,caps,rfl⟩:=hfn;obtain⟨vs,rfl,hl,hc⟩:=h.jY;refine .func (by grind) fun i c u hci hu=>?_
  rw[List.getElem?_map,Option.map_eq_some_iff] at hci;obtain⟨c0,hc0,rfl⟩:=hci;exact bk.PR (hc i _ u hc0 hu) (List.all_eq_true.1 hf _ (List.mem_of_getElem? hc0))
 ·have e1:x.kK (px ids)=x.kJ (px ids):=by cases x<;>first|rfl|grind
  have e3:x.x5=true:=by cases x<;>first|rfl|exact absurd ⟨_,_,rfl⟩ hfn|cases hf
  rw[e1];exact bk.PR h e3
theorem oy.rep{x:ae}{v:Value}(h:cC j2 B' w' x v)(hf:x.flat=true):cC (H0 j j2 ids) (eW ids M ids B') w' (x.iE (px ids)) v:=by
 by_cases hag:∃cs,x = .agg cs
 ·obtain⟨cs,rfl⟩:=hag;obtain⟨vs,rfl,hl,hc⟩:=h.fB;refine .agg (by grind) fun i c u hci hu=>?_
  rw[List.getElem?_map,Option.map_eq_some_iff] at hci;obtain⟨c0,hc0,rfl⟩:=hci;exact bk.En (hc i _ u hc0 hu) (List.all_eq_true.1 hf _ (List.mem_of_getElem? hc0))
 ·have e1:x.iE (px ids)=x.kK (px ids):=by cases x<;>first|rfl|grind
  have e3:x.n9=true:=by cases x<;>first|exact hf|grind
  rw[e1];exact bk.En h e3
theorem oy.anX{x:ae}{v:Value}(h:cC j2 B' w' x v)(hf:x.oN=true):cC (H0 j j2 ids) (eW ids M ids B') w' (x.vm (px ids)) v:=by
 by_cases ht:∃vs,x = .tuple vs
 ·obtain⟨cs,rfl⟩:=ht;obtain⟨vs,rfl,hl,hc⟩:=h.kW;refine .tuple (by grind) fun i c u hci hu=>?_
  rw[List.getElem?_map,Option.map_eq_some_iff] at hci;obtain⟨c0,hc0,rfl⟩:=hci;exact bk.rep (hc i _ u hc0 hu) (List.all_eq_true.1 hf _ (List.mem_of_getElem? hc0))
 ·have e1:x.vm (px ids)=x.iE (px ids):=by cases x<;>first|rfl|grind
  have e3:x.flat=true:=by cases x<;>first|exact hf|grind
  rw[e1];exact bk.rep h e3
theorem oy.aht:Rel (H0 j j2 ids) (eW ids M ids B') w':=by
 have ltin:∀ {id:Nat},id∈ids->da ids id<B'.length:=fun h=>by rw[bk.len,bk.sub.len]; exact mf h
 refine⟨fun id id' b hi hi' h h'=>?_,fun id b hi h=>?_,fun id cb h hf=>?_,fun id sz n b h hj=>?_,fun id sz ver xs h=>?_,fun id b hi h off hx=>?_,fun b off h=>Nat.lt_of_lt_of_le (bk.hr.tb b off h) bk.ext.size⟩
 ·rw[bk.jP] at hi hi'
  by_cases m:id∈ids<;>by_cases m':id'∈ids
  ·rw[eP m] at h;rw[eP m'] at h';have:=bk.rel.inj _ _ b (ltin m) (ltin m') h h';rw[<-EI m,this,EI m']
  ·rw[eP m] at h;rw[gq m'] at h';exact absurd h ((bk.nA hi' m' h').2 _ (ltin m))
  ·rw[gq m] at h;rw[eP m'] at h';exact absurd h' ((bk.nA hi m h).2 _ (ltin m'))
  ·rw[gq m] at h;rw[gq m'] at h';exact bk.hr.inj id id' b hi hi' h h'
 ·rw[bk.jP] at hi
  by_cases m:id∈ids
  ·rw[eP m] at h; exact bk.rel.lt _ b (ltin m) h
  ·rw[gq m] at h; exact Nat.lt_of_lt_of_le (bk.hr.lt id b hi h) bk.ext.size
 ·by_cases m:id∈ids
  ·obtain⟨bx,h1,h2⟩:=bk.some_ m;rw[bk.DU m h1] at h;injection h with h
   subst h;have hfx:bx.fixed=true:=by cases bx<;>first|rfl|cases hf
   obtain⟨b,g1,g2⟩:=bk.rel.fix _ bx h1 hfx;refine⟨b,by rw[eP m]; omega,?_⟩
   cases bx with
   |tick sz n=>cases hf
   |cells cs0 =>
    obtain⟨vs,t,k1,k2,k3⟩:=g2;refine⟨vs,t,k1,by grind,fun q c v hc hv=>?_⟩
    rw[List.getElem?_map,Option.map_eq_some_iff] at hc;obtain⟨c0,hc0,rfl⟩:=hc;exact bk.En (k3 q c0 v hc0 hv) (List.all_eq_true.1 h2 c0 (List.mem_of_getElem? hc0))
   |map ks vs =>
    obtain⟨es,cl,k1,k2,k3,k4,k5⟩:=g2;refine⟨es,cl,k1,k2,by grind,fun q c e hc he=>(k4 q c e hc he).mono fun b off hs=>⟨bk.cV hs,rfl⟩,fun q c e hc he=>?_⟩
    rw[List.getElem?_map,Option.map_eq_some_iff] at hc;obtain⟨c0,hc0,rfl⟩:=hc;exact bk.rep (k5 q c0 e hc0 he) (List.all_eq_true.1 h2 c0 (List.mem_of_getElem? hc0))
   |fI st pos=>exact g2
   |nz=>cases hf
   |arr=>cases hf
  ·rw[bk.Eh m] at h;obtain⟨b,g1,g2⟩:=bk.hr.fix id cb h hf;exact⟨b,by rw[gq m]; omega,g2.mono bk.Rv (bk.nA (aq h) m g1).1⟩
 ·by_cases m:id∈ids
  ·obtain⟨bx,h1,h2⟩:=bk.some_ m;rw[bk.DU m h1] at h;injection h with h
   rw[eP m] at hj;cases bx<;>first|cases h|skip
   exact bk.rel.tick _ _ _ b h1 hj
  ·rw[bk.Eh m] at h;rw[gq m] at hj;obtain⟨vs,t,g⟩:=bk.hr.tick id sz n b h hj;exact⟨vs,t,(bk.nA (aq h) m hj).1.trans g⟩
 ·by_cases m:id∈ids
  ·obtain⟨bx,h1,h2⟩:=bk.some_ m;rw[bk.DU m h1] at h;injection h with h
   cases bx<;>first|cases h|skip
   obtain⟨g0,g1⟩|⟨b,vs,t,g1,g2,g3,g4,g5⟩:=bk.rel.arr _ _ _ _ h1
   ·grind [eP]
   exact .inr ⟨b,vs,t,by rw[eP m]; omega,g2,g3,g4,fun q x k c hx hk=>(g5 q x k c hx hk).imp fun u hu=>⟨hu.1,hu.2.mono fun b off hs=>⟨bk.cV hs,rfl⟩⟩⟩
  ·rw[bk.Eh m] at h;exact iA bk.hr bk.Rv h (gq m) fun b hb=>(bk.nA (aq h) m hb).1
 ·rw[bk.jP] at hi
  by_cases m:id∈ids
  ·rw[eP m] at h;have:=bk.rel.mN _ b (ltin m) h off;rw[bk.ext.X] at this;exact this (.inl hx)
  ·rw[gq m] at h;exact bk.hr.mN id b hi h off hx
end
theorem yM{ρ:Nat->Nat}{x:ae}(h:x.cX=[]):x.kJ ρ=x:=by
 cases x with
 |slice tk xs=>cases tk<;>first|rfl|grind [ae.cX]
 |ptr=>grind [ae.cX]
 |cU=>grind [ae.cX]
 |dD=>grind [ae.cX]
 |aW=>grind [ae.cX]
 |dk=>grind [ae.cX]
 |dU=>grind [ae.cX]
 |_=>rfl
def B5{ρ:Nat->Nat}:∀ {l:List ae},l.flatMap ae.cX=[]->l.map (ae.kJ ρ)=l
 | [],_=>rfl
 |c::r,h=>by
  rw[List.flatMap_cons,List.append_eq_nil_iff] at h;rw[List.map_cons,yM h.1,B5 h.2]
theorem yN{ρ:Nat->Nat}{x:ae}(h:x.fP=[]):x.kK ρ=x:=by
 by_cases hf:∃f caps,x = .func f caps
 ·obtain⟨f,caps,rfl⟩:=hf;exact congrArg _ (B5 h)
 ·have e1:x.kK ρ=x.kJ ρ:=by cases x<;>first|rfl|grind
  have e2:x.fP=x.cX:=by cases x<;>first|rfl|grind
  grind [yM]
def B6{ρ:Nat->Nat}:∀ {l:List ae},l.flatMap ae.fP=[]->l.map (ae.kK ρ)=l
 | [],_=>rfl
 |c::r,h=>by
  rw[List.flatMap_cons,List.append_eq_nil_iff] at h;rw[List.map_cons,yN h.1,B6 h.2]
theorem PQ{ρ:Nat->Nat}{x:ae}(_:x.flat=true)(h:x.ids=[]):x.iE ρ=x:=by
 by_cases hf:∃cs,x = .agg cs
 ·obtain⟨cs,rfl⟩:=hf;exact congrArg _ (B6 h)
 ·have e1:x.iE ρ=x.kK ρ:=by cases x<;>first|rfl|grind
  have e2:x.ids=x.fP:=by cases x<;>first|rfl|grind
  grind [yN]
theorem je{P:Program}{C:bL}(hC:im P C){j:J}{M:aj}{w:World}{f:Nat}{vs:List ae}{us:Array Value}{x:ae×aj}(hr:Rel j M w)(hG:ke j M w)(h:ar C f vs M=some x)
  (hl:vs.length=us.size) (hv:∀(i:Nat)(c:ae)(u:Value),vs[i]?=some c->us[i]?=some u->cC j M w c u) :
  fz P f=true/\Calls P f us w fun e w'=>nB j M w x e w':=by
 unfold ar at h;generalize hids:reach M (vs.flatMap ae.ids)=ids at h;split at h
 ·rename_i hf;obtain⟨B,hB,h⟩:=az h;split at h
  ·rename_i hcl;obtain⟨y,hy,h⟩:=az h;split at h
   ·rename_i hcond;obtain⟨c1,c2,c3⟩:=hcond;cases h;obtain⟨h1,h2⟩:=hC _ _ _ _ hy;obtain⟨p1,p2⟩:=wZ hB;have s:Sub j M w ids B:=⟨by rw[<-hids]; simp[Ca],p1,p2,fun i b hi hb x hx=>GI hcl hi hb hx⟩
    refine⟨h1,(h2 (down j M ids) w us (s.rel hr) (hG.cV fun b off h=>s.cV h) (by grind) fun i c u hc hu=>?_).mono ?_⟩
    ·rw[List.getElem?_map,Option.map_eq_some_iff] at hc;obtain⟨c0,hc0,rfl⟩:=hc;have hm:=List.mem_of_getElem? hc0;exact s.rep (hv i c0 u hc0 hu) (List.all_eq_true.1 hf c0 hm) fun q hq=>by rw[<-hids]; exact Hv (List.mem_flatMap.2 ⟨c0,hm,hq⟩)
    ·rintro e w' (⟨v,rfl,j2,g1,g2,g3⟩|⟨u,rfl,hu,j2,g1,g2⟩)
     ·have bk:oy j M B w ids j2 y.2 w':=⟨s,hr,g2,g1,c1,fun b hb=>List.all_eq_true.1 c3 b hb⟩
      exact .inl ⟨v,rfl,H0 j j2 ids,bk.aht,bk.Rv,bk.anX g3 c2⟩
     ·have bk:oy j M B w ids j2 y.2 w':=⟨s,hr,g2,g1,c1,fun b hb=>List.all_eq_true.1 c3 b hb⟩
      exact .inr ⟨u,rfl,by rw[hu]; rfl,H0 j j2 ids,bk.aht,bk.Rv⟩
   grind
  grind
 grind
theorem PZ{j j2:J}{G:aj}{w w':World}{p sz n:Nat}{xs:List ae}{v:Value}(hr:Rel j G w)(hp:G[p]?=some .nz)(h2:Rel j2 [.tick sz n] w')(hx:Ext (down j G []) [] w j2 [.tick sz n] w')
  (hv:cC j2 [.tick sz n] w' (.slice (.own 0) xs) v):dn j G w (.slice (.own p) xs,G.set p (.tick sz n)) v w':=by
 have hpl:=aq hp
 have hold:∀b,b<w.heap.size->w'.heap[b]?=w.heap[b]?/\j2 0≠some b:=fun b hb=>by
  obtain⟨h1,h3⟩:=hx.nA b hb (fun i hi=>by simp at hi)
  exact⟨h1,h3 0 (by simp)⟩
 have up:∀i,i≠p->cH j p (j2 0) i=j i:=fun i hi=>by simp[cH,hi]
 have atp:cH j p (j2 0) p=j2 0:=by simp[cH]
 have nX:∀ {b off},fY j2 [.tick sz n] w' b off->¬j.X b off/\∀id,id<G.length->j id=some b->∃sz n,G[id]?=some (.tick sz n)/\off<n*sz:=fun {b off} hs=>by
  have:=hs.nx;rw[hx.X] at this;refine⟨fun h=>this (.inl h),fun id hid hj=>?_⟩
  by_cases hc:∃sz n,G[id]?=some (.tick sz n)/\off<n*sz
  ·exact hc
  ·exact absurd (Or.inr ⟨id,hid,by simp,hj,hc⟩) this
 have cV:∀b off,fY j2 [.tick sz n] w' b off->fY (cH j p (j2 0)) (G.set p (.tick sz n)) w' b off:=fun b off hs=>by
  obtain⟨n1,n2⟩:=nX hs;refine⟨hs.lt,fun id hid hj=>?_,n1⟩
  by_cases e:id=p
  ·subst e;rw[atp] at hj;obtain⟨s1,m1,h3,h4⟩:=hs.ids 0 (by simp) hj
   grind
  grind
 have q:Quiet w w':=⟨hx.size,hx.os,hx.tape,hx.output⟩
 have ext:Ext j G w (cH j p (j2 0)) (G.set p (.tick sz n)) w':={
  len:=by simp
  size:=q.size
  os:=q.os
  tape:=q.tape
  output:=q.output
  X:=rfl
  fix:=fun i bx h hf=>by
   have e:i≠p:=by rintro rfl; rw[hp] at h; cases h; cases hf
   grind
  tick:=fun i sz n h=>by
   grind
  arr:=fun i sz v xs h=>by
   grind
  tags:=fun b0 vs0 t0 fr0 h=>⟨vs0,fr0,(hold b0 (lt_of_block h)).1.trans h,rfl⟩
  cV:=fun b0 off h=>by
   refine⟨⟨Nat.lt_of_lt_of_le h.1 q.size,fun id hid hj=>?_,h.3⟩,World.cell?_of_block (w:=w) (hold b0 h.1).1⟩
   by_cases e:id=p
   ·subst e; rw[atp] at hj; exact absurd hj (hold b0 h.1).2
   ·rw[aU (Ne.symm e)];rw[up id e] at hj;exact h.2 id (by simpa using hid) hj
  nA:=fun b0 hlt h=>by
   grind }
 refine⟨cH j p (j2 0),⟨fun i i' b0 hi hi' h h'=>?_,fun i b0 hi h=>?_,fun i bx' h hf=>?_,fun i sz0 n0 b0 h hj=>?_,fun i sz0 ver ys h=>?_,fun i b0 hi h off hxx=>?_,fun b off h=>Nat.lt_of_lt_of_le (hr.tb b off h) q.size⟩,ext,?_⟩
 ·simp only[List.length_set] at hi hi'
  by_cases e:i=p<;>by_cases e':i'=p
  ·omega
  ·subst e;rw[atp] at h; rw[up i' e'] at h';exact absurd h (hold b0 (hr.lt i' b0 hi' h')).2
  ·subst e';rw[atp] at h'; rw[up i e] at h;exact absurd h' (hold b0 (hr.lt i b0 hi h)).2
  ·rw[up i e] at h; rw[up i' e'] at h';exact hr.inj i i' b0 hi hi' h h'
 ·simp only[List.length_set] at hi
  by_cases e:i=p
  ·subst e; rw[atp] at h; exact h2.lt 0 b0 (by simp) h
  ·rw[up i e] at h;exact Nat.lt_of_lt_of_le (hr.lt i b0 hi h) q.size
 ·by_cases e:i=p
  ·subst e;rw[br hpl] at h;cases h; cases hf
  ·rw[aU (Ne.symm e)] at h;obtain⟨b0,h1,h3⟩:=hr.fix i bx' h hf;exact⟨b0,by rw[up i e]; exact h1,h3.mono ext (hold b0 (hr.lt i b0 (aq h) h1)).1⟩
 ·by_cases e:i=p
  ·subst e; rw[atp] at hj;exact h2.tick 0 sz n b0 rfl hj
  ·rw[aU (Ne.symm e)] at h;rw[up i e] at hj;obtain⟨vs,t,h1⟩:=hr.tick i sz0 n0 b0 h hj;exact⟨vs,t,(hold b0 (lt_of_block h1)).1.trans h1⟩
 ·by_cases e:i=p
  ·subst e; rw[br hpl] at h; cases h
  ·rw[aU (Ne.symm e)] at h;exact iA hr ext h (up i e) fun b0 h1=>(hold b0 (hr.lt i b0 (aq h) h1)).1
 ·simp only[List.length_set] at hi
  by_cases e:i=p
  ·subst e; rw[atp] at h;exact absurd h (hold b0 (hr.tb b0 off hxx)).2
  ·rw[up i e] at h;exact hr.mN i b0 hi h off hxx
 ·cases hv with
  |plain h=>cases h
  |own hk hn h ht =>
   simp at hk;obtain⟨rfl,rfl⟩:=hk;refine .own (br hpl) hn (h.mono fun b off hs=>⟨cV b off hs,rfl⟩) fun he=>?_
   rcases ht he with ⟨h1,h3,h4⟩|⟨b,cap,vs,t,h1,h3,h4,h5,h6⟩
   ·exact .inl ⟨by rw[atp]; exact h1,h3,h4⟩
   ·exact .inr ⟨b,cap,vs,t,by rw[atp]; exact h1,h3,h4,h5,h6⟩
theorem HR{P:Program}{C:bL}(hC:im P C){j:J}{G:aj}{w:World}{f p:Nat}{vs:List ae}{us:Array Value}{xs:List ae}{sz n:Nat}(hr:Rel j G w)(hG:ke j G w)(hp:G[p]?=some .nz)(hf:vs.all ae.flat=true)(hi:vs.flatMap ae.ids=[])
  (h:C f vs []=some (.slice (.own 0) xs,[.tick sz n])) (hl:vs.length=us.size) (hv:∀(i:Nat)(c:ae)(u:Value),vs[i]?=some c->us[i]?=some u->cC j G w c u) :
  fz P f=true/\Calls P f us w fun e w'=>∃v,e = .returned v/\dn j G w (.slice (.own p) xs,G.set p (.tick sz n)) v w':=by
 obtain⟨h1,h2⟩:=hC _ _ _ _ h;have s:Sub j G w _ []:=⟨List.nodup_nil,rfl,fun i id h=>by simp_all,fun i b hi=>by grind⟩
 refine⟨h1,(h2 _ w _ (s.rel hr) (hG.cV fun b off h=>s.cV h) hl fun i c u hc hu=>?_).mono ?_⟩
 ·have hm:=List.mem_of_getElem? hc
  have:=s.rep (hv i c u hc hu) (List.all_eq_true.1 hf c hm) fun q hq=>by
   have hci  := List.flatMap_eq_nil_iff.1 hi c hm;rw[hci] at hq; omega
  rwa[PQ (List.all_eq_true.1 hf c hm) (List.flatMap_eq_nil_iff.1 hi c hm)] at this
 ·rintro e w' (⟨v,rfl,j2,g1,g2,g3⟩|⟨u,rfl,hu,_⟩)
  ·exact⟨v,rfl,PZ hr hp g1 g2 g3⟩
  grind
section
variable {P:Program} {C:bL} {o:Oper} {env:Env} {M:aj} {j:J} {w:World} {a:Act} {x:ae×aj}
theorem uB:∀ {xs:List ae} {l:List UInt8},bytesOf xs=some l->l.length=xs.length/\∀(i:Nat)(x:ae),xs[i]?=some x->∃n,x = .int .u8 n/\l[i]?=some (UInt8.ofNat n.toNat)
 | [],l,h=>by grind [bytesOf]
 |y::r,l,h=>by
  unfold bytesOf at h;split at h
  ·grind
  ·rename_i n r' e;injection e with e1 e2; subst e2
   obtain⟨l',h1,h⟩:=az h;injection h with h; obtain⟨g1,g2⟩:=uB h1
   grind
  grind
theorem yG(g:Value->ByteArray->Sem (ForInStep ByteArray))(hg:∀n s,g (.int .u8 n) s=pure (ForInStep.yield (s.push (UInt8.ofNat n.toNat)))):∀(vs:List Value)(l:List UInt8)(s:ByteArray),vs.length=l.length->(∀(i:Nat)(v:Value)(b:UInt8),vs[i]?=some v->l[i]?=some b->∃n,v = .int .u8 n/\b=UInt8.ofNat n.toNat) ->
  (forIn vs s g).run P w = .ok ⟨s.data++l.toArray⟩ w
 | [],[],s,_,_=>by rfl
 |v::vs,b::l,s,hl,h=>by
  obtain⟨n,rfl,rfl⟩:=h 0 v b rfl rfl;have:=yG g hg vs l (s.push (UInt8.ofNat n.toNat)) (by grind) fun i v b hv hb=>h (i+1) v b (by grind) (by grind)
  simp_all
 | [],_::_,_,hl,_=>by grind
 |_::_,[],_,hl,_=>by grind
theorem Y9(hr:Rel j M w)(he:aN j M w env a){s d e:TypeId}{y:Operand}{z:cR}(hop:o.op = .convert s d y)(hs:P.underlying s=some (.slice e))(hd:P.underlying d=some .string)(hu:P.underlying e=some (.int .u8))
  (hz:bH y=some z) (h:bC C env M (.b2s z)=some x):∃v w',ju P o a w v w'/\dn j M w x v w':=by
 simp only[bC] at h;have h1:=aZ he hz;split at h
 ·rename_i tk xs ev;obtain⟨l,hl,h⟩:=az h;cases h;rw[ev] at h1;obtain⟨g1,g2⟩:=uB hl;refine⟨.string (bs l),w,.inl ?_,.still hr (.plain (.str _))⟩;obtain⟨A,cap,b,off,sz,vs,hv,hc,ha,hwid,hcell,hrep⟩:=h1.bw.bw
  have hrun:(Conv.bytesToString (a.eval y)).run P w = .ok (.string (bs l)) w:=by
   rw[hv];cases A with
   |none =>
    have:xs=[]:=by
     grind
    subst this;have:l=[]:=List.eq_nil_of_length_eq_zero g1;subst this;rfl
   |some A =>
    have hload:∃us:Array Value,(loadCells A xs.length).run P w = .ok us w/\us.size=l.length/\∀(i:Nat)(v:Value)(b:UInt8),us[i]?=some v->l[i]?=some b->∃n,v = .int .u8 n/\b=UInt8.ofNat n.toNat:=by
     by_cases hx:xs=[]
     ·subst hx;have:l=[]:=List.eq_nil_of_length_eq_zero g1;subst this;exact⟨#[],by rfl,rfl,fun i v b h=>by simp at h⟩
     ·have hA:=ha hx;cases hA
      have hsz:sz=1:=by
       cases xs with
       |nil=>grind
       |cons c r =>
        obtain⟨n,rfl,_⟩:=g2 0 c rfl;exact(hwid (.int .u8 n) (by simp)).symm
      subst hsz
      have cellOf:∀i,i<xs.length->∃n,w.cell? ⟨b,off+i,none⟩=some (vs i)/\vs i = .int .u8 n/\l[i]?=some (UInt8.ofNat n.toNat):=by
       intro i hi;have hxi:xs[i]?=some xs[i]:=List.getElem?_eq_getElem hi;obtain⟨n,hn,hb⟩:=g2 i _ hxi;have q1:=hcell i _ 0 (.int .u8 n) hxi (by rw[hn]; rfl)
       have q2:=hrep i _ 0 (.int .u8 n) hxi (by rw[hn]; rfl)
       simp only[Nat.mul_one,Nat.add_zero] at q1 q2;exact⟨n,q1.1,(cC.plain (j:=j) (M:=M) q2).cq,hb⟩
      refine⟨_,gW (P:=P) (w:=w) b off xs.length vs (fun k hk=>(cellOf k hk).choose_spec.1),by simp[g1],fun i v c hi hb=>?_⟩
      grind
    obtain⟨us,u1,u2,u3⟩:=hload;simp only[Conv.bytesToString,Sem.run_bind,u1,Result.andThen_ok];rw[<-Array.forIn_toList];refine(congrArg (fun r=>Result.andThen r _) (yG (P:=P) (w:=w) _ ?_ us.toList l ByteArray.empty (by omega) fun i v b hv hb=>u3 i v b (by simpa using hv) hb)).trans ?_
    ·simp
    simp[bs]
  simp only[execOp,hop,convert,Sem.run_bind,bu hs,bu hd,Result.andThen_ok];rw[hv] at hrun ⊢;cases A<;>simp[bu hu,hrun]
 ·cases h
theorem v8{fk:FK}{k k':ae}{b:Bool}(h:fx fk k k'=some b) :
  (∃t x y,k = .int t x/\k' = .int t y/\fk = .i/\b=(x==y))\/(∃x y,k = .str x/\k' = .str y/\fk = .s/\b=(x==y))\/∃x y,k = .bool x/\k' = .bool y/\fk = .b/\b=(x==y):=by
 unfold fx at h
 grind
def FK.is:FK->TypeDesc->Prop
 | .i,.int _=>True
 | .s,.string=>True
 | .b,.bool=>True
 |_,_=>False
theorem yt{t:TypeId}{fk:FK}(h:wI P t=some fk):∃d,P.underlying t=some d/\fk.is d:=by
 unfold wI at h
 split at h<;>first
  |(rename_i hd; cases h; exact⟨_,hd,trivial⟩)
  |grind
theorem Cy{fk:FK}{d:TypeDesc}(hd:fk.is d){k k':ae}{b:Bool}(h:fx fk k k'=some b){cV:Nat->Nat->Prop}{v v':Value}(hv:cC j M w k v)(hv':cg w cV k' v') :
  Instr.sameNow d v v'=some b/\(b=true->Instr.sameBits 10000 v' v=true)/\cg w (fY j M w) k v:=by
 rcases v8 h with ⟨t,x,y,rfl,rfl,rfl,rfl⟩|⟨x,y,rfl,rfl,rfl,rfl⟩|⟨x,y,rfl,rfl,rfl,rfl⟩
 ·have e1:=hv.cq; subst e1; cases hv';cases d<;>first|exact False.elim hd|skip
  exact⟨by simp[Instr.sameNow],fun h=>by grind [Instr.sameBits],.int _ _⟩
 ·have e1:=hv.eb; subst e1; cases hv';cases d<;>first|exact False.elim hd|skip
  have this:∀x y,(bs x==bs y)=(x==y):=fun x y=>by
   show(x.toArray==y.toArray)=(x==y)
   simp
  exact⟨by simp_all [Instr.sameNow],fun h=>by grind [Instr.sameBits],.str _⟩
 ·have e1:=hv.dy; subst e1; cases hv';cases d<;>first|exact False.elim hd|skip
  exact⟨by simp[Instr.sameNow],fun h=>by grind [Instr.sameBits],.bool _⟩
def Hk{fk:FK}{k:ae}{b:Bool}(h:fx fk k k=some b){v:Value}(hv:cC j M w k v):cg w (fY j M w) k v:=by
 rcases v8 h with ⟨t,x,y,rfl,_⟩|⟨x,y,rfl,_⟩|⟨x,y,rfl,_⟩
 ·have:=hv.cq; subst this; exact .int _ _
 ·have:=hv.eb; subst this; exact .str _
 ·have:=hv.dy; subst this; exact .bool _
def xR{fk:FK}{d:TypeDesc}(hd:fk.is d){t:TypeId}(ht:P.underlying t=some d)(e:Bool)(v:Value):(Instr.checkKey e 10000 t v).run P w = .ok () w:=by
 rw[Instr.checkKey.eq_def];simp only[Sem.run_bind,bu ht];cases fk<;>cases d<;>first|exact False.elim hd|(cases v<;>rfl)
theorem A8{fk:FK}{d:TypeDesc}(hd:fk.is d){k:ae}{v:Value}(hv:cC j M w k v){cV:Nat->Nat->Prop}:∀ {ks vs:List ae} {es:List MapEntry} {r:Option ae} (n:Nat),tU fk k ks vs=some r ->
  ks.length=es.length->vs.length=es.length->(∀(i:Nat)(k:ae)(e:MapEntry),ks[i]?=some k->es[i]?=some e->cg w cV k e.key) ->
  (r=none/\Instr.findNow d v es n=some none)\/∃i u e,r=some u/\vs[i]?=some u/\es[i]?=some e/\Instr.findNow d v es n=some (some (n+i,e.val))
 | [],[],[],r,n,h,_,_,_=>by simp[tU] at h; exact .inl ⟨h.symm,rfl⟩
 |k'::ks,u::vs,e::es,r,n,h,h1,h2,h3=>by
  obtain⟨b,hb,h⟩:=az h;obtain⟨s1,_⟩:=Cy hd hb hv (h3 0 k' e rfl rfl);rcases dW h with ⟨rfl,h⟩|⟨rfl,h⟩
  ·injection h with h
   exact .inr ⟨0,u,e,h.symm,rfl,rfl,by grind [Instr.findNow]⟩
  ·have hf:Instr.findNow d v (e::es) n=Instr.findNow d v es (n+1):=by rw[Instr.findNow,s1]
   rcases A8 hd hv (n+1) h (by simpa using h1) (by simpa using h2) (fun i k e hk he=>h3 (i+1) k e (by grind) (by grind)) with ⟨g1,g2⟩|⟨i,u',e',g1,g2,g3,g4⟩
   ·grind
   ·exact .inr ⟨i+1,u',e',g1,by grind,by grind,by grind⟩
 | [],_::_,[],_,_,_,_,h2,_=>by simp at h2
 |_::_,[],_::_,_,_,_,_,h2,_=>by simp at h2
 | [],_,_::_,_,_,_,h1,_,_=>by simp at h1
 |_::_,_,[],_,_,_,h1,_,_=>by simp at h1
theorem A9{fk:FK}{d:TypeDesc}(hd:fk.is d){k y:ae}{v:Value}(hv:cC j M w k v){cV:Nat->Nat->Prop}:∀ {ks vs:List ae} {es:List MapEntry} {r:List ae×List ae} (n:Nat),tV fk k y ks vs=some r ->
  ks.length=es.length->vs.length=es.length->(∀(i:Nat)(k:ae)(e:MapEntry),ks[i]?=some k->es[i]?=some e->cg w cV k e.key) ->
  cg w (fY j M w) k v/\((r=(ks++[k],vs++[y])/\Instr.findNow d v es n=some none)\/∃i e,r=(ks.set i k,vs.set i y)/\es[i]?=some e/\Instr.sameBits 10000 e.key v=true/\Instr.findNow d v es n=some (some (n+i,e.val)))
 | [],[],[],r,n,h,_,_,_=>by
  obtain⟨b,hb,h⟩:=az h;injection h with h
  exact⟨Hk hb hv,.inl ⟨h.symm,rfl⟩⟩
 |k'::ks,u::vs,e::es,r,n,h,h1,h2,h3=>by
  obtain⟨b,hb,h⟩:=az h;obtain⟨s1,s2,s3⟩:=Cy hd hb hv (h3 0 k' e rfl rfl);refine⟨s3,?_⟩;rcases dW h with ⟨rfl,h⟩|⟨rfl,h⟩
  ·injection h with h
   exact .inr ⟨0,e,h.symm,rfl,s2 rfl,by grind [Instr.findNow]⟩
  ·obtain⟨r',h',h⟩:=az h;cases h;have hf:Instr.findNow d v (e::es) n=Instr.findNow d v es (n+1):=by rw[Instr.findNow,s1]
   rcases(A9 hd hv (n+1) h' (by simpa using h1) (by simpa using h2) (fun i k e hk he=>h3 (i+1) k e (by grind) (by grind))).2 with ⟨g1,g2⟩|⟨i,e',g1,g2,g3,g4⟩
   ·grind
   ·exact .inr ⟨i+1,e',by rw[g1]; rfl,by grind,g3,by rw[hf,g4]; grind⟩
 | [],_::_,[],_,_,_,_,h2,_=>by grind
 |_::_,[],_::_,_,_,_,_,h2,_=>by grind
 | [],_,_::_,_,_,_,h1,_,_=>by simp at h1
 |_::_,_,[],_,_,_,h1,_,_=>by grind
def vf.rep{x:ae}{v:Value}(h:vf w (fY j M w) x v):cC j M w x v:=by
 by_cases hag:∃cs,x = .agg cs
 ·obtain⟨cs,rfl⟩:=hag;obtain⟨us,rfl,h2,h3⟩:=h;exact .agg h2 fun i c u hc hu => .plain (h3 i c u hc hu)
 ·cases x<;>first|exact absurd ⟨_,rfl⟩ hag|exact .plain h
theorem yy(hr:Rel j M w){m:ae}{v:Value}{e:List ae×List ae}(h:mapOf M m=some e)(hm:cC j M w m v):∃(b:Nat) (es:Array MapEntry) (clock:Nat),v = .map (some b)/\w.heap[b]?=some (.map es clock) /\
  e.1.length=es.size/\e.2.length=es.size/\(∀(i:Nat)(k:ae)(e':MapEntry),e.1[i]?=some k->es[i]?=some e'->cg w (fY j M w) k e'.key)/\∀(i:Nat)(k:ae)(e':MapEntry),e.2[i]?=some k->es[i]?=some e'->cC j M w k e'.val:=by
 unfold mapOf at h;split at h
 ·split at h
  ·rename_i ks vs hM;injection h with h; rw[cf] at hM
   obtain⟨b,_,hj,rfl⟩:=hm.nh;obtain⟨b',hj',es,clock,g1,g2,g3,g4,g5⟩:=hr.fix _ _ hM rfl
   grind
  grind
 ·cases h;cases hm with
  |plain h=>cases h
  |dI hb hf hx hw hk hv hks hvs=>exact⟨_,_,_,rfl,hw,hk,hv,hks,fun i k e h1 h2=>(hvs i k e h1 h2).rep⟩
 ·cases h
theorem B3{zero:ae}{ok:Bool}{r:Option ae}{v:Value}(h:cC j M w (r.getD zero) v):cC j M w (jk zero ok r) (if ok then .tuple #[v,.bool r.isSome] else v):=by
 cases ok with
 |false=>exact h
 |true =>
  refine .tuple rfl fun i c u hc hu=>?_
  match i with
  |0=>grind
  |1=>simp at hc hu; subst hc; subst hu; exact .plain (.bool _)
  |n+2=>simp_all
def TF(hr:Rel j M w)(he:aN j M w env a){t kt et:TypeId}{m k:Operand}{m' k':cR}{ok:Bool}{fk:FK}{ie:TypeInfo}{zv:Value}{z:ae}(hop:o.op = .lookup t m k ok)(ht:P.underlying t=some (.map kt et))
  (hk:wI P kt=some fk) (hi:P.info? et=some ie) (hz:ie.zero=some zv) (hzv:IJ zv=some z) (hm':bH m=some m') (hk':bH k=some k') (h:bC C env M (.look fk z ok m' k')=some x) :
  ∃v w',ju P o a w v w'/\dn j M w x v w':=by
 simp only[bC] at h;obtain⟨e,h1,h⟩:=az h;obtain⟨r,h2,h⟩:=az h;cases h;obtain⟨d,hd,hfk⟩:=yt hk;obtain⟨b,es,clock,hv,hb,g1,g2,g3,g4⟩:=yy hr h1 (aZ he hm');have hc:∀q,(Instr.checkKey q 10000 kt (a.eval k)).run P w = .ok () w:=fun q=>xR hfk hd q _
 rcases A8 hfk (aZ he hk') (es:=es.toList) 0 h2 (by simpa using g1) (by simpa using g2) (fun i k e hk he=>g3 i k e hk (by simpa using he)) with ⟨rfl,f1⟩|⟨i,u,e',rfl,f2,f3,f1⟩
 ·refine⟨if ok then .tuple #[zv,.bool false] else zv,w,.inl ?_,.still hr (B3 (r:=none) (Aw hzv))⟩
  simp[execOp,hop,Instr.lookup,bu ht,hv,MapKept.run_getObj_map hb,hc,Instr.findKey,bu hd,f1,zeroValue,gZ hi,hz]
 ·refine⟨if ok then .tuple #[e'.val,.bool true] else e'.val,w,.inl ?_,.still hr (B3 (r:=some u) (g4 i u e' f2 (by simpa using f3)))⟩
  simp[execOp,hop,Instr.lookup,bu ht,hv,MapKept.run_getObj_map hb,hc,Instr.findKey,bu hd,f1]
def TC(hr:Rel j M w)(he:aN j M w env a){c:Call}{y:Operand}{z:cR}{t k e:TypeId}(hop:o.op = .call c)(hb:c.callee = .builtin .len)(ha:c.args.toList=[y])
  (ht:c.argTypes[0]?=some t) (hs:P.underlying t=some (.map k e)) (hz:bH y=some z) (h:bC C env M (.Hm z)=some x):∃v w',ju P o a w v w'/\dn j M w x v w':=by
 simp only[bC] at h;obtain⟨e,h1,h⟩:=az h;cases h;obtain⟨b,es,clock,hv,hbl,g1,g2,g3,g4⟩:=yy hr h1 (aZ he hz);have ha':c.args = #[y]:=by rw[<-ha]
 refine⟨.int .i64 e.1.length,w,.inl ?_,.still hr (.plain (.int _ _))⟩;simp[execOp,hop,resolve,hb,invoke,builtin,Builtin.len_,ha',ht,bu hs,hv,MapKept.run_getObj_map hbl,goInt,g1]
def FL(hr:Rel j M w){bx:aM}{ob:Obj}(hfx:bx.fixed=true)(hh:∀j' M' (w':World),w'.heap[w.heap.size]?=some ob->Holds j' M' w' w.heap.size bx) :
  ∃j':J,Rel j' (M++[bx]) { w with heap:=w.heap.push ob }/\Ext j M w j' (M++[bx]) { w with heap:=w.heap.push ob }/\j' M.length=some w.heap.size:=by
 have q:Quiet w { w with heap:=w.heap.push ob }:=⟨by simp,rfl,rfl,rfl⟩
 have hb:∀b,b<w.heap.size->({ w with heap:=w.heap.push ob }:World).heap[b]?=w.heap[b]?:=fun b hb=>by
  show(w.heap.push _)[b]?=_
  rw[Array.getElem?_push,if_neg (by omega)]
 have hn:({ w with heap:=w.heap.push ob }:World).heap[w.heap.size]?=some ob:=by simp
 refine⟨cH j M.length (some w.heap.size),hr.push (fun b h=>?_) q hb (fun _=>?_) (fun sz n b h=>by rw[h] at hfx; cases hfx) (fun sz v xs h=>by rw[h] at hfx; cases hfx),Ext.push (fun b h=>?_) q hb,by simp[cH]⟩
 ·cases h; simp
 ·exact⟨_,rfl,fun j' M' hx=>hh j' M' _ hn⟩
 ·injection h with h; omega
def Pe(hr:Rel j M w){t:TypeId}(hop:o.op = .makeMap t none)(h:bC C env M .mkMap=some x):∃v w',ju P o a w v w'/\dn j M w x v w':=by
 simp only[bC] at h;cases h;obtain⟨j',h1,h2,h3⟩:=FL (ob := .map #[] 0) (bx := .map [] []) hr rfl fun j' M' w' hw=>⟨#[],0,hw,rfl,rfl,fun i k e h=>by simp at h,fun i k e h=>by simp at h⟩
 exact⟨.map (some w.heap.size),_,.inl (by simp[execOp,hop,Instr.makeMap]),j',h1,h2,.cU ⟨[],[],by simp⟩ h3⟩
def TI(hr:Rel j M w)(he:aN j M w env a){t:TypeId}{y:Operand}{z:cR}(hop:o.op = .range t y)(ht:P.underlying t=some .string)(hz:bH y=some z)(h:bC C env M (.HT z)=some x):∃v w',ju P o a w v w'/\dn j M w x v w':=by
 simp only[bC] at h;have h0:=aZ he hz;split at h
 ·rename_i s e;rw[e] at h0;cases h;obtain⟨j',h1,h2,h3⟩:=FL (ob := .stringIter (bs s) 0) (bx := .fI s 0) hr rfl fun j' M' w' hw=>hw
  exact⟨.pointer (some ⟨w.heap.size,0,none⟩),_,.inl (by simp[execOp,hop,Instr.range,bu ht,h0.eb]),j',h1,h2,.dD ⟨s,0,by simp⟩ h3⟩
 ·cases h
def zZ(hr:Rel j M w){id b:Nat}{bx bx':aM}{ob:Obj}(hM:M[id]?=some bx)(hfx:bx.fixed=true)(htag:bx'.tag=bx.tag)(hj:j id=some b)(hnc:∀vs t fr,w.heap[b]?≠some (.cells vs t fr))
  (hh:∀j' M' (w':World),Ext j M w j' M' w'->w'.heap[b]?=some ob->Holds j' M' w' b bx') :
  Rel j (M.set id bx') { w with heap:=w.heap.setIfInBounds b ob }/\Ext j M w j (M.set id bx') { w with heap:=w.heap.setIfInBounds b ob }:=by
 have q:Quiet w { w with heap:=w.heap.setIfInBounds b ob }:=⟨by simp,rfl,rfl,rfl⟩
 have hb:∀b',b'≠b->b'<w.heap.size->({ w with heap:=w.heap.setIfInBounds b ob }:World).heap[b']?=w.heap[b']?:=fun b' hne _=>by
  show(w.heap.setIfInBounds b ob)[b']?=_
  rw[Array.getElem?_setIfInBounds_ne (Ne.symm hne)]
 have hlt:b<w.heap.size:=hr.lt id b (aq hM) hj
 have hn:({ w with heap:=w.heap.setIfInBounds b ob }:World).heap[b]?=some ob:=by
  show(w.heap.setIfInBounds b ob)[b]?=_
  simp[hlt]
 exact⟨Rel.store hM hfx htag hj hr q hb (fun vs t fr h=>absurd h (hnc vs t fr)) fun j' M' hx=>hh j' M' _ hx hn,Ext.store hM hfx htag hj hr q hb (fun vs t fr h=>absurd h (hnc vs t fr))⟩
def Pg(hr:Rel j M w)(he:aN j M w env a){y:Operand}{z:cR}(hop:o.op = .next y true)(hz:bH y=some z)(h:bC C env M (.yB z)=some x):∃v w',ju P o a w v w'/\dn j M w x v w':=by
 simp only[bC] at h;have h0:=aZ he hz;split at h
 ·rename_i id e;rw[e] at h0;obtain⟨b,_,hj,hv⟩:=h0.wB;split at h
  ·rename_i s pos hM;rw[cf] at hM;obtain⟨b',hj',hw⟩:=hr.fix _ _ hM rfl;rw[hj] at hj'; cases hj';have hw:w.heap[b]?=some (.stringIter (bs s) pos):=hw;have hsz:(bs s).size=s.length:=by simp[bs,ByteArray.size]
   have hget:(getObj b).run P w = .ok (.stringIter (bs s) pos) w:=by simp[getObj,Sem.run,hw]
   rcases dW h with ⟨hlt,h⟩|⟨hlt,h⟩<;>(cases h)
   ·have hlt':pos<s.length:=by simpa using hlt
    have hset:∀ob,(setObj b ob).run P w = .ok () { w with heap:=w.heap.setIfInBounds b ob }:=fun ob=>by simp[setObj,Sem.run,hw]
    obtain⟨r1,r2⟩:=zZ (ob := .stringIter (bs s) (pos+(Utf8.decode (bs s) pos).2)) (bx' := .fI s (pos+(Utf8.decode ⟨s.toArray⟩ pos).2)) hr hM rfl rfl hj (fun vs t fr h=>by rw[hw] at h; cases h) fun j' M' w' _ hw=>hw
    refine⟨.tuple #[.bool true,goInt pos,.int .i32 (Utf8.decode (bs s) pos).1],{ w with heap:=w.heap.setIfInBounds b (.stringIter (bs s) (pos+(Utf8.decode (bs s) pos).2)) },.inl ?_,j,?_,?_,?_⟩
    ·simp[execOp,hop,Instr.next,hv,hget,hsz,hlt',hset]
    ·rw[cG]; exact r1
    ·rw[cG]; exact r2
    ·refine .tuple rfl fun i c u hc hu=>?_
     match i with
     |0=>simp at hc hu; subst hc; subst hu; exact .plain (.bool _)
     |1=>simp at hc hu; subst hc; subst hu; exact .plain (.int _ _)
     |2=>simp at hc hu; subst hc; subst hu; exact .plain (.int _ _)
     |n+3=>simp at hc
   ·have hlt':¬pos<s.length:=by simpa using hlt
    refine⟨.tuple #[.bool false],w,.inl ?_,.still hr (.tuple rfl fun i c u hc hu=>?_)⟩
    ·simp[execOp,hop,Instr.next,hv,hget,hsz,hlt']
    ·match i with
     |0=>simp at hc hu; subst hc; subst hu; exact .plain (.bool _)
     |n+1=>simp at hc
  ·cases h
 ·cases h
def Pk(hr:Rel j M w)(he:aN j M w env a){t kt et:TypeId}{m k y:Operand}{m' k' y':cR}{fk:FK}(hop:o.op = .mapUpdate t m k y\/o.op = .insert t m k y)(ht:P.underlying t=some (.map kt et))
  (hk:wI P kt=some fk) (hm':bH m=some m') (hk':bH k=some k') (hyr:cC j M w (y'.ev env) (a.eval y)) (h:bC C env M (.cH fk m' k' y')=some x):∃v w',ju P o a w v w'/\dn j M w x v w':=by
 simp only[bC] at h;have h0:=aZ he hm';split at h
 ·rename_i id e;rw[e] at h0;split at h
  ·rename_i ks vs hM;obtain⟨r,hr',h⟩:=az h;cases h;rw[cf] at hM;obtain⟨b,_,hj,hv⟩:=h0.nh;obtain⟨b',hj',es,clock,hb,g2,g3,g4,g5⟩:=hr.fix _ _ hM rfl;rw[hj] at hj'; cases hj';obtain⟨d,hd,hfk⟩:=yt hk;have hc:∀q,(Instr.checkKey q 10000 kt (a.eval k)).run P w = .ok () w:=fun q=>xR hfk hd q _
   obtain⟨kp,hf⟩:=A9 hfk (aZ he hk') (es:=es.toList) 0 hr' (by simpa using g2) (by simpa using g3) (fun i k e hk he=>g4 i k e hk (by simpa using he))
   have hset:∀ob,(setObj b ob).run P w = .ok () { w with heap:=w.heap.setIfInBounds b ob }:=fun ob=>MapKept.run_setObj_map ob hb
   rcases hf with ⟨rfl,f1⟩|⟨i,e',rfl,f3,f4,f1⟩
   ·obtain⟨r1,r2⟩:=zZ (ob := .map (es.push { key:=a.eval k,val:=a.eval y,born:=clock }) (clock+1)) (bx' := .map (ks++[k'.ev env]) (vs++[y'.ev env])) hr hM rfl rfl hj (fun vs t fr h=>by rw[hb] at h; cases h) fun j' M' w' hx hw=>by
     refine⟨_,_,hw,by simp[g2],by simp[g3],fun i k e hk he=>?_,fun i k e hk he=>?_⟩
     ·rw[Array.getElem?_push] at he;rw[List.getElem?_append] at hk
      by_cases hi:i=es.size
      ·subst hi;simp[g2] at hk he;subst hk; subst he;exact kp.mono hx.cV
      ·rw[if_neg hi] at he;have hi':i<es.size:=(Array.getElem?_eq_some_iff.1 he).1;rw[if_pos (by omega)] at hk
       exact(g4 i k e hk he).mono hx.cV
     ·rw[Array.getElem?_push] at he;rw[List.getElem?_append] at hk
      by_cases hi:i=es.size
      ·subst hi;simp[g3] at hk he;subst hk; subst he;exact hyr.mono hx
      ·rw[if_neg hi] at he;have hi':i<es.size:=(Array.getElem?_eq_some_iff.1 he).1;rw[if_pos (by omega)] at hk
       exact(g5 i k e hk he).mono hx
    refine⟨undef,{ w with heap:=w.heap.setIfInBounds b (.map (es.push { key:=a.eval k,val:=a.eval y,born:=clock }) (clock+1)) },.inr ⟨?_,rfl⟩,j,?_,?_,.any _⟩
    ·rcases hop with hop|hop<;>simp[execOp,hop,Instr.mapUpdate,bu ht,hv,MapKept.run_getObj_map hb,hc,Instr.findKey,bu hd,f1,hset]
    ·rw[cG]; exact r1
    ·rw[cG]; exact r2
   ·have hi:i<es.size:=by simpa using(List.getElem?_eq_some_iff.1 f3).1
    have he':es[i]?=some e':=by simpa using f3
    obtain⟨r1,r2⟩:=zZ (ob := .map (es.modify i fun e=>{ e with key:=a.eval k,val:=a.eval y }) clock) (bx' := .map (ks.set i (k'.ev env)) (vs.set i (y'.ev env))) hr hM rfl rfl hj (fun vs t fr h=>by rw[hb] at h; cases h) fun j' M' w' hx hw=>by
     refine⟨_,_,hw,by simp[g2],by simp[g3],fun q k e hk he=>?_,fun q k e hk he=>?_⟩
     ·rw[Array.getElem?_modify] at he
      by_cases hq:i=q
      ·subst hq;simp[he'] at he;rw[List.getElem?_set_self (by omega)] at hk
       cases hk; subst he;exact kp.mono hx.cV
      ·rw[if_neg hq] at he;rw[List.getElem?_set_ne hq] at hk;exact(g4 q k e hk he).mono hx.cV
     ·rw[Array.getElem?_modify] at he
      by_cases hq:i=q
      ·subst hq;simp[he'] at he;rw[List.getElem?_set_self (by omega)] at hk
       cases hk; subst he;exact hyr.mono hx
      ·rw[if_neg hq] at he;rw[List.getElem?_set_ne hq] at hk;exact(g5 q k e hk he).mono hx
    refine⟨undef,{ w with heap:=w.heap.setIfInBounds b (.map (es.modify i fun e=>{ e with key:=a.eval k,val:=a.eval y }) clock) },.inr ⟨?_,rfl⟩,j,?_,?_,.any _⟩
    ·rcases hop with hop|hop<;>simp[execOp,hop,Instr.mapUpdate,bu ht,hv,MapKept.run_getObj_map hb,hc,Instr.findKey,bu hd,f1,hset,he',Instr.keyThatStays,f4]
    ·rw[cG]; exact r1
    ·rw[cG]; exact r2
  ·cases h
 ·cases h
end
def dR(xs:List ae):List ae:=xs.flatMap ae.cells
def gm(x:ae)(xs:List ae):dR (x::xs)=x.cells++dR xs:=rfl
def gk(xs ys:List ae):dR (xs++ys)=dR xs++dR ys:=by simp[dR]
def c9{sz:Nat}:∀ {xs:List ae},wid xs sz->(dR xs).length=xs.length*sz
 | [],_=>by simp[dR]
 |x::xs,h=>by
  rw[gm,List.length_append,h x (List.mem_cons_self ..),c9 fun y hy=>h y (List.mem_cons_of_mem _ hy),List.length_cons,Nat.add_mul]
  omega
def fM{sz:Nat}{xs ys:List ae}(h1:wid xs sz)(h2:wid ys sz):wid (xs++ys) sz:=fun x hx=>(List.mem_append.1 hx).elim (h1 x) (h2 x)
def nw{sz n:Nat}{xs:List ae}(h:wid xs sz):wid (xs.take n) sz:=fun x hx=>h x (List.mem_of_mem_take hx)
def nv{sz n:Nat}{xs:List ae}(h:wid xs sz):wid (xs.drop n) sz:=fun x hx=>h x (List.mem_of_mem_drop hx)
def jG{sz:Nat}:∀(n:Nat){xs:List ae},wid xs sz->dR (xs.take n)=(dR xs).take (n*sz)
 |0,_,_=>by simp[dR]
 |n+1,[],_=>by simp[dR]
 |n+1,x::xs,h=>by
  have hx:=h x (List.mem_cons_self ..);have e:(n+1)*sz=sz+n*sz:=by rw[Nat.add_mul]; omega
  rw[List.take_succ_cons,gm,gm,jG n fun y hy=>h y (List.mem_cons_of_mem _ hy),List.take_append,hx,e,Nat.add_sub_cancel_left,List.take_of_length_le (l:=x.cells) (by omega)]
def lq{sz:Nat}:∀(n:Nat){xs:List ae},wid xs sz->dR (xs.drop n)=(dR xs).drop (n*sz)
 |0,_,_=>by simp
 |n+1,[],_=>by simp[dR]
 |n+1,x::xs,h=>by
  have hx:=h x (List.mem_cons_self ..);have e:(n+1)*sz=sz+n*sz:=by rw[Nat.add_mul]; omega
  rw[List.drop_succ_cons,gm,lq n fun y hy=>h y (List.mem_cons_of_mem _ hy),List.drop_append,hx,e,Nat.add_sub_cancel_left,List.drop_of_length_le (l:=x.cells) (by omega),List.nil_append]
theorem tD{sz:Nat}:∀ {xs:List ae},wid xs sz->∀ {q:Nat} {x:ae} {k:Nat} {c:ae},xs[q]?=some x->x.cells[k]?=some c->(dR xs)[q*sz+k]?=some c
 | [],_,q,x,k,c,hx,_=>by grind
 |y::xs,h,0,x,k,c,hx,hk=>by
  simp at hx; subst hx;rw[gm,Nat.zero_mul,Nat.zero_add,List.getElem?_append_left (List.getElem?_eq_some_iff.1 hk).1];omega
 |y::xs,h,q+1,x,k,c,hx,hk=>by
  have hy:=h y (List.mem_cons_self ..);rw[gm,List.getElem?_append_right (by rw[Nat.add_mul]; omega),hy]
  rw[show(q+1)*sz+k-sz=q*sz+k by rw[Nat.add_mul]; omega]
  exact tD (fun z hz=>h z (List.mem_cons_of_mem _ hz)) (by grind) hk
theorem wi{sz:Nat}{xs:List ae}(h:wid xs sz){p:Nat}{c:ae}(hp:(dR xs)[p]?=some c):∃q x k,xs[q]?=some x/\x.cells[k]?=some c/\p=q*sz+k:=by
 have hlt:p<xs.length*sz:=by rw[<-c9 h]; grind
 have hsz:0<sz:=by
  grind
 have hq:p / sz<xs.length:=by rw[Nat.div_lt_iff_lt_mul hsz]; omega
 have hk:p % sz<(xs[p / sz]).cells.length:=by rw[h _ (List.getElem_mem _)]; simp_all [Nat.mod_lt]
 grind [Nat.mul_comm,Nat.div_add_mod,tD]
def RL(w:World)(cV:Nat->Nat->Prop)(cs:List ae)(vs:List Value):Prop:=cs.length=vs.length/\∀(p:Nat)(c:ae)(v:Value),cs[p]?=some c->vs[p]?=some v->cg w cV c v
section
variable {w w':World} {cV saf':Nat->Nat->Prop} {cs ds:List ae} {us vs:List Value}
def RL.append(h:RL w cV cs us)(k:RL w cV ds vs):RL w cV (cs++ds) (us++vs):=by
 refine⟨by simp[h.1,k.1],fun p c v hc hv=>?_⟩
 rcases Nat.lt_or_ge p _ with hp|hp
 ·rw[List.getElem?_append_left hp] at hc;rw[List.getElem?_append_left (by rw[<-h.1]; omega)] at hv
  exact h.2 p c v hc hv
 ·rw[List.getElem?_append_right hp] at hc;rw[List.getElem?_append_right (by rw[<-h.1]; omega),<-h.1] at hv
  exact k.2 _ c v hc hv
theorem RL.take(n:Nat)(h:RL w cV cs us):RL w cV (cs.take n) (us.take n):=by
 refine⟨by simp[h.1],fun p c v hc hv=>?_⟩
 rw[List.getElem?_take] at hc hv;split at hc
 ·rename_i hp;rw[if_pos hp] at hv;exact h.2 p c v hc hv
 grind
def RL.drop(n:Nat)(h:RL w cV cs us):RL w cV (cs.drop n) (us.drop n):=by
 refine⟨by simp[h.1],fun p c v hc hv=>?_⟩
 rw[List.getElem?_drop] at hc hv;exact h.2 _ c v hc hv
def RL.mono(hm:∀b off,cV b off->saf' b off/\w'.cell? ⟨b,off,none⟩=w.cell? ⟨b,off,none⟩)(h:RL w cV cs us):RL w' saf' cs us:=⟨h.1,fun p c v hc hv=>(h.2 p c v hc hv).mono hm⟩
end
section
variable {j:J} {M:aj} {w:World}
theorem pv{b sz:Nat}{xs:List ae}{vs:Array Value}(hl:xs.length*sz<=vs.size)(hwd:wid xs sz)
  (hc:∀(q:Nat)(x:ae)(k:Nat)(c:ae),xs[q]?=some x->x.cells[k]?=some c->∃v,vs[q*sz+k]?=some v/\cg w (fY j M w) c v):RL w (fY j M w) (dR xs) (vs.toList.take (xs.length*sz)):=by
 refine⟨by rw[c9 hwd]; grind,fun p c v hp hv=>?_⟩
 obtain⟨q,x,k,h1,h2,rfl⟩:=wi hwd hp
 grind
theorem fg{j':J}{M':aj}{w':World}{b sz:Nat}{t:TypeId}{xs:List ae}{us:List Value}{vs:Array Value}(hw:w'.heap[b]?=some (.cells vs t (0,0)))(hwd:wid xs sz)(hr:RL w' (fY j' M' w') (dR xs) us)
  (hv:∀p,p<us.length->vs[p]?=us[p]?):xJ j' M' w' b sz xs:=by
 have hlen:us.length=xs.length*sz:=by rw[<-hr.1,c9 hwd]
 refine⟨vs,t,hw,?_,hwd,fun q x k c hx hk=>?_⟩
 ·grind
 ·have h1:=tD hwd hx hk;have hp:q*sz+k<us.length:=by rw[<-hr.1]; grind
  exact⟨us[q*sz+k],by rw[hv _ hp,List.getElem?_eq_getElem _],hr.2 _ _ _ h1 (List.getElem?_eq_getElem _)⟩
theorem tG:∀(ids:List Nat){M:aj}{i:Nat}{bx:aM},M[i]?=some bx->(∀sz v xs,bx ≠ .arr sz v xs)->(kC M ids)[i]?=some bx
 | [],_,_,_,h,_=>h
 |a::r,M,i,bx,h,hn=>by
  simp[kC,cf];split
  ·refine tG r ?_ hn
   grind [cG]
  ·exact tG r h hn
theorem vq:∀(ids:List Nat){M:aj},Rel j M w->Ext j M w j (kC M ids) w/\Rel j (kC M ids) w/\(kC M ids).length=M.length/\∀id,id∈ids->∀sz v xs,M[id]?=some (.arr sz v xs)->(kC M ids)[id]?=some (.tick sz xs.length)
 | [],M,hr=>⟨.refl _ _ _,hr,rfl,fun id h=>by cases h⟩
 |a::r,M,hr=>by
  simp only[kC,cf];split
  ·rename_i sz v xs hM;rw[cG];obtain⟨h1,h2,h3,h4⟩:=vq r (Rel.freeze hM hr);refine⟨(Ext.freeze hM).trans h1,h2,by rw[h3]; simp,fun id hid sz' v' xs' hid'=>?_⟩
   grind [id,tG,br,aq]
  ·obtain⟨h1,h2,h3,h4⟩:=vq r hr
   grind
def cC.gQ{M':aj}(hr:Rel j M w)(hx:Ext j M w j M' w)(hr':Rel j M' w)(hl:M'.length=M.length){x:ae}{v:Value}(h:cC j M w x v)(hf:∀id,id∈x.cX->∀sz v xs,M[id]?=some (.arr sz v xs)->M'[id]?=some (.tick sz xs.length)):cC j M' w (x.gQ M) v:=by
 cases x<;>try exact h.mono hx
 rename_i id ver sz lo hi;simp[ae.gQ,cf];split
 ·rename_i sz' v' xs hM;split
  ·rename_i hv;subst hv;obtain⟨_,hid,_,g⟩:=h.gw;obtain⟨e1,l1,l2,⟨rfl,_,A,rfl⟩|⟨b,cap,vs,t,l3,l4,l5,l6,l7⟩⟩:=(g sz' v' xs hM).2 rfl
   ·simp;exact .plain (cg.nil _ _ _)
   subst e1;obtain⟨b',vs',t',k1,k2,k3,k4,k5⟩:=hr.rI hM l3;rw[l3] at k1; cases k1;rw[l4];refine .plain (pw k2 k4 k5 (fun b off hs=>(hx.cV b off hs).1) (fun off ho=>⟨hr'.lt id b (by rw[hl]; exact aq hM) l3,fun i hi hji=>?_,hr'.mN id b (by omega) l3 off⟩) l1 l2 l5)
   have  := hr'.inj i id b hi (by rw[hl]; exact aq hM) hji l3
   subst this;exact⟨sz',xs.length,hf i (by simp[ae.cX]) _ _ _ hM,ho⟩
  ·exact .any _
 ·exact .any _
theorem cC.ot{M':aj}(hr:Rel j M w)(hx:Ext j M w j M' w)(hr':Rel j M' w)(hl:M'.length=M.length){x:ae}{v:Value}(h:cC j M w x v)(hf:∀id,id∈x.ids->∀sz v xs,M[id]?=some (.arr sz v xs)->M'[id]?=some (.tick sz xs.length)):cC j M' w (x.ot M) v:=by
 by_cases hag:∃cs,x = .agg cs
 ·obtain⟨cs,rfl⟩:=hag;obtain⟨vs,rfl,hl',hc⟩:=h.fB;refine .agg (by grind) fun i c u hi hu=>?_
  rw[List.getElem?_map,Option.map_eq_some_iff] at hi;obtain⟨c0,hc0,rfl⟩:=hi;refine(hc i c0 u hc0 hu).gQ hr hx hr' hl fun id hid=>hf _ ?_
  refine List.mem_flatMap.2 ⟨c0,List.mem_of_getElem? hc0,?_⟩;cases c0<;>first|exact hid|(simp[ae.cX] at hid)
 ·have:x.ot M=x.gQ M:=by cases x<;>first|rfl|grind
  rw[this];refine h.gQ hr hx hr' hl fun id hid=>hf id ?_
  cases x<;>first|exact hid|exact absurd _ _|grind [ae.cX]
end
section
variable {P:Program} {C:bL} {o:Oper} {env:Env} {M:aj} {j:J} {w:World} {a:Act} {x:ae×aj}
theorem jt(z:Array Value)(n:Nat):(Builtin.zeroCells z n).toList=(List.replicate n z.toList).flatten:=by
 induction n with
 |zero=>simp[Builtin.zeroCells]
 |succ n ih =>
  rw[List.replicate_succ',List.flatten_append,<-ih];apply List.ext_getElem?;intro i;simp only[Builtin.zeroCells,Array.toList_map,Array.toList_range,List.flatten_cons,List.flatten_nil,List.append_nil];rcases Nat.lt_or_ge i (n*z.size) with h|h
  ·grind
  ·rw[List.getElem?_append_right (by grind)]
   simp only[List.length_map,List.length_range];rcases Nat.lt_or_ge i ((n+1)*z.size) with h2|h2
   ·have h3:i-n*z.size<z.size:=by rw[Nat.add_mul] at h2; omega
    have h4:i % z.size=i-n*z.size:=by
     have:i=(i-n*z.size)+n*z.size:=by omega
     rw[this,Nat.add_mul_mod_self_right,Nat.mod_eq_of_lt h3]; omega
    rw[List.getElem?_map,List.getElem?_range h2];simp[h4,h3]
   grind
def GW(n:Nat)(zero:List ae):dR (List.replicate n (.agg zero))=(List.replicate n zero).flatten:=by
 induction n with
 |zero=>rfl
 |succ n ih=>rw[List.replicate_succ,gm,ih]; rfl
theorem IG{cV:Nat->Nat->Prop}(n:Nat){cs:List ae}{us:List Value}(h:RL w cV cs us):RL w cV (List.replicate n cs).flatten (List.replicate n us).flatten:=by
 induction n with
 |zero=>exact⟨rfl,fun p c v hc=>by simp⟩
 |succ n ih=>exact h.append ih
theorem pt{id b sz ver ver':Nat}{xs xs':List ae}{vs vs':Array Value}{t:TypeId}{us:List Value}{w':World}(hr:Rel j M w)(hM:M[id]?=some (.arr sz ver xs))(hj:j id=some b)(q:Quiet w w')
  (hb:∀b',b'≠b->b'<w.heap.size->w'.heap[b']?=w.heap[b']?) (hw:w.heap[b]?=some (.cells vs t (0,0))) (hw':w'.heap[b]?=some (.cells vs' t (0,0))) (hs:vs'.size=vs.size)
  (hv:ver<=ver') (hl:ver'=ver->xs'.length=xs.length) (hwd:wid xs' sz) (hrl:RL w (fY j M w) (dR xs') us) (hus:∀p,p<us.length->vs'[p]?=us[p]?) :
  Rel j (M.set id (.arr sz ver' xs')) w'/\Ext j M w j (M.set id (.arr sz ver' xs')) w':=by
 have hwr:∀vs0 t1,w.heap[b]?=some (.cells vs0 t1 (0,0))->∃vs1,w'.heap[b]?=some (.cells vs1 t1 (0,0))/\vs1.size=vs0.size:=fun vs0 t1 h=>by
  grind
 exact⟨Rel.xN hM hj hr q hb hwr hv hl fun j' M' hx=>fg hw' hwd (hrl.mono hx.cV) hus,Ext.xN hM hj hr q hb hwr hv hl⟩
theorem vE{l:List ae}{vs:List Value}(hl:kv vs=some l)(hp:(l.map ae.shut).all ae.plainCell=true):RL w (fY j M w) (l.map ae.shut) vs/\∀v,v∈vs->v.oneCell'=true:=by
 obtain⟨h1,h2⟩:=iz (j:=j) (M:=M) (w:=w) hl;rw[List.all_map,List.all_eq_true] at hp;refine⟨⟨by grind,fun p c v hc hv=>?_⟩,fun v hv=>?_⟩
 ·grind [sR,List.mem_of_getElem?]
 ·obtain⟨p,hp',rfl⟩:=List.getElem_of_mem hv;have hpl:p<l.length:=by omega
  exact vU (h2 p _ _ (List.getElem?_eq_getElem hpl) (List.getElem?_eq_getElem hp')) (uW (hp _ (List.getElem_mem hpl)))
theorem HB(hr:Rel j M w)(he:aN j M w env a){c:Call}{y:Operand}{z:cR}{t e:TypeId}{i:TypeInfo}{zv:Value}{l:List ae}(hop:o.op = .call c)(hb:c.callee = .builtin .clear)(ha:c.args.toList=[y])
  (ht:c.argTypes.toList=[t]) (hs:P.underlying t=some (.slice e)) (hi:P.info? e=some i) (hzv:i.zero=some zv) (hl:kv zv.cells.toList=some l) (hsz:l.length=i.size) (hz:bH y=some z)
  (h:bC C env M (.tp i.size (l.map ae.shut) z)=some x):∃v w',ju P o a w v w'/\dn j M w x v w':=by
 simp only[bC] at h;have h1:=aZ he hz;have ha':c.args = #[y]:=by rw[<-ha]
 have ht':c.argTypes = #[t]:=by rw[<-ht]
 split at h
 ·rename_i tk xs ez;rw[ez] at h1;split at h
  ·cases h;obtain⟨A,cap,b,off,sz,vs,hv,_⟩:=h1.bw.bw;refine⟨.tuple #[],w,.inl ?_,.still hr (.any _)⟩;cases A<;>simp[execOp,hop,resolve,hb,invoke,builtin,Builtin.clear_,ha',ht',bu hs,hv]
  ·cases h
 ·rename_i id ver sz' lo hi' ez;rw[ez] at h1;rw[cf] at h;split at h
  ·rename_i sz0 v0 xs hM;split at h
   ·rename_i hc;obtain⟨c1,c2,c3,c4⟩:=hc;cases h;subst c1; subst c2;obtain⟨_,hid,_,g⟩:=h1.gw;obtain⟨e1,l1,l2,⟨rfl,_,A,hA⟩|⟨b,cap,vs,t0,l3,l4,l5,l6,l7⟩⟩:=(g sz0 v0 xs hM).2 rfl
    ·have hlo:lo=0:=Nat.le_zero.1 (Nat.le_trans l1 l2);have hhi:hi'=0:=Nat.le_zero.1 l2;subst hlo; subst hhi;refine⟨.tuple #[],w,.inl ?_,?_⟩
     ·cases A<;>simp[execOp,hop,resolve,hb,invoke,builtin,Builtin.clear_,ha',ht',bu hs,hA]
     ·rw[cG]
      have he:M.set id (.arr sz0 v0 (List.take 0 ([]:List ae)++(List.replicate (0-0) (ae.agg (l.map ae.shut))++List.drop 0 [])))=M:=by
       apply List.ext_getElem?
       grind
      rw[he];exact .still hr (.any _)
    subst e1;obtain⟨b',vs',t',k1,k2,k3,k4,k5⟩:=hr.rI hM l3;rw[l3] at k1; cases k1;rw[l6] at k2; injection k2 with k2; injection k2 with k2 k2'
    subst k2; subst k2';obtain⟨p1,p2⟩:=vE (j:=j) (M:=M) (w:=w) hl c4;have hzl:zv.cells.toList.length=i.size:=by rw[<-p1.1]; simpa using hsz
    have hlen:(List.replicate (hi'-lo) zv.cells.toList).flatten.length=(hi'-lo)*i.size:=by simp[List.length_flatten,List.map_replicate,List.sum_replicate_nat,hzl]
    have hbd:lo*i.size+(hi'-lo)*i.size<=xs.length*i.size:=by rw[<-Nat.add_mul]; exact Nat.mul_le_mul_right _ (by omega)
    have hfit:lo*i.size+(List.replicate (hi'-lo) zv.cells.toList).flatten.length<=vs.size:=by rw[hlen]; omega
    have hone:∀v,v∈(List.replicate (hi'-lo) zv.cells.toList).flatten->v.oneCell'=true:=fun v hv=>by
     obtain⟨r,hr1,hr2⟩:=List.mem_flatten.1 hv;rw[List.eq_of_mem_replicate hr1] at hr2;exact p2 v hr2
    have hrun:=fL (P:=P) (List.replicate (hi'-lo) zv.cells.toList).flatten w (lo*i.size) 0 vs l6 (by omega) hone
    obtain⟨s1,s2,s3,s4,s5,vs',s6,s7,s8,s9⟩:=fc (List.replicate (hi'-lo) zv.cells.toList).flatten w (lo*i.size) vs l6 hfit;have hrow:=pv (b:=b) k3 k4 k5;have hwz:wid (List.replicate (hi'-lo) (ae.agg (l.map ae.shut))) i.size:=fun x hx=>by rw[List.eq_of_mem_replicate hx]; simpa[ae.cells] using hsz
    have dw:RL w (fY j M w) (dR (xs.take lo++(List.replicate (hi'-lo) (ae.agg (l.map ae.shut))++xs.drop hi'))) ((vs.toList.take (xs.length*i.size)).take (lo*i.size)++((List.replicate (hi'-lo) zv.cells.toList).flatten++(vs.toList.take (xs.length*i.size)).drop (hi'*i.size))):=by
     rw[gk,gk,jG lo k4,lq hi' k4,GW];exact(hrow.take _).append ((IG _ p1).append (hrow.drop _))
    have hhi:lo*i.size+(hi'-lo)*i.size=hi'*i.size:=by rw[<-Nat.add_mul,Nat.add_sub_cancel' l1]
    have hput:=pt (ver':=v0) (xs':=xs.take lo++(List.replicate (hi'-lo) (ae.agg (l.map ae.shut))++xs.drop hi')) hr hM l3 (w':=gR w b (lo*i.size) (List.replicate (hi'-lo) zv.cells.toList).flatten) ⟨by omega,s2,s3,s4⟩ (fun b' hb' _=>s5 b' hb') l6 s6 s7 (Nat.le_refl _)
     (fun _=>by simp; omega) (fM (nw k4) (fM hwz (nv k4))) dw (fun p hp=>by
      have hp':p<xs.length*i.size:=by
       rw[<-dw.1,c9 (fM (nw k4) (fM hwz (nv k4)))] at hp;have:(xs.take lo++(List.replicate (hi'-lo) (ae.agg (l.map ae.shut))++xs.drop hi')).length=xs.length:=by simp; omega
       rwa[this] at hp
      have htk:(List.take (lo*i.size) (vs.toList.take (xs.length*i.size))).length=lo*i.size:=by simp; omega
      rcases Nat.lt_or_ge p (lo*i.size) with q1|q1
      ·rw[s8 p (.inl q1),List.getElem?_append_left (by rw[htk]; omega),List.getElem?_take_of_lt q1,List.getElem?_take_of_lt hp']; simp
      ·rw[List.getElem?_append_right (by rw[htk]; exact q1),htk]
       rcases Nat.lt_or_ge p (hi'*i.size) with q2|q2
       ·rw[List.getElem?_append_left (by rw[hlen]; omega)]
        have:=s9 (p-lo*i.size) (by rw[hlen]; omega)
        rw[Nat.add_sub_cancel' q1] at this;exact this
       ·rw[List.getElem?_append_right (by rw[hlen]; omega),s8 p (.inr (by rw[hlen]; omega)),List.getElem?_drop,hlen,show hi'*i.size+(p-lo*i.size-(hi'-lo)*i.size)=p by omega,List.getElem?_take_of_lt hp']; simp)
    rw[cG];rcases Nat.eq_zero_or_pos (hi'-lo) with h0|h0
    ·refine⟨.tuple #[],gR w b (lo*i.size) (List.replicate (hi'-lo) zv.cells.toList).flatten,.inl ?_,j,hput.1,hput.2,.any _⟩;rw[h0] at l4;simp[execOp,hop,resolve,hb,invoke,builtin,Builtin.clear_,ha',ht',bu hs,l4,h0,gR]
    ·refine⟨.tuple #[],gR w b (lo*i.size) (List.replicate (hi'-lo) zv.cells.toList).flatten,.inl ?_,j,hput.1,hput.2,.any _⟩;obtain⟨m,hm⟩:∃m,hi'-lo=m+1:=⟨hi'-lo-1,by omega⟩
     simp only[Nat.add_zero] at hrun;rw[<-jt,hm] at hrun;rw[hm] at l4;rw[<-jt,hm];simp[execOp,hop,resolve,hb,invoke,builtin,Builtin.clear_,ha',ht',bu hs,l4,zeroValue,gZ hi,hzv,hrun]
   ·cases h
  ·cases h
 ·cases h
end
def cg.o4{j:J}{M:aj}{w:World}{x:ae}{v:Value}(h:cC j M w x v)(hp:x.plainCell=true):cg w (fY j M w) x v:=by
 cases x with
 |slice tk xs=>cases tk with
  |sh=>exact h.bw
  |c0=>cases hp
  |own k=>cases hp
 |bool b=>cases h with|plain h=>exact h
 |int k n=>cases h with|plain h=>exact h
 |str s=>cases h with|plain h=>exact h
 |raw v=>cases h with|plain h=>exact h
 |agg _=>cases hp
 |tuple _=>cases hp
 |ptr _ _=>cases hp
 |dq _=>cases hp
 |func _ _=>cases hp
 |cU _=>cases hp
 |dD _=>cases hp
 |dI _ _=>cases hp
 |aW _ _ _ _ _=>cases hp
 |dk _ _ _ _=>cases hp
 |iM _ _=>cases hp
 |fQ _=>cases hp
 |dU _ _ _=>cases hp
 |any=>cases hp
def vf.o4{j:J}{M:aj}{w:World}{x:ae}{v:Value}(h:cC j M w x v)(hp:x.plain=true):vf w (fY j M w) x v:=by
 by_cases hag:∃cs,x = .agg cs
 ·obtain⟨cs,rfl⟩:=hag;obtain⟨us,h1,h2,h3⟩:=h.fB;refine⟨us,h1,h2,fun i c u hc hu => .o4 (h3 i c u hc hu) ?_⟩
  simp only[ae.plain,List.all_eq_true] at hp;exact hp c (List.mem_of_getElem? hc)
 ·have e1:x.plain=x.plainCell:=by cases x<;>first|rfl|exact absurd ⟨_,rfl⟩ hag
  have:=cg.o4 h (e1▸hp);cases x<;>first|exact absurd ⟨_,rfl⟩ hag|exact this
def HV{j:J}{M:aj}{w:World}{x:ae}{v:Value}(h:cC j M w x v):cC j M w x.cu v:=by
 have hs:∀ {x:ae} {v:Value},cC j M w x v->cC j M w x.shut v:=fun {x v} h=>by
  cases x<;>first|exact h|exact .plain h.bw
 by_cases hag:∃cs,x = .agg cs
 ·obtain⟨cs,rfl⟩:=hag;obtain⟨us,rfl,h2,h3⟩:=h.fB;refine .agg (by simpa using h2) fun i c u hc hu=>?_
  rw[List.getElem?_map,Option.map_eq_some_iff] at hc;obtain⟨c0,hc0,rfl⟩:=hc;exact hs (h3 i c0 u hc0 hu)
 ·cases x<;>first|exact absurd ⟨_,rfl⟩ hag|exact h|exact .plain h.bw
section
variable {P:Program} {C:bL} {o:Oper} {env:Env} {M:aj} {j:J} {w:World} {a:Act} {x:ae×aj}
def O2(hr:Rel j M w)(he:aN j M w env a){f:Nat}{first caps:Array Operand}{zs:List cR}(hop:o.op = .makeFunc (.func f) first caps)(hf:caps.isEmpty=true)(hz:mQ first.toList=some zs)
  (h:bC C env M (.vR f zs)=some x):∃v w',ju P o a w v w'/\dn j M w x v w':=by
 simp only[bC] at h;split at h
 ·rename_i hp;cases h;obtain⟨h1,h2⟩:=lG he hz;have hf':caps = #[]:=by simpa using hf
  refine⟨.func (.func f) (first.map a.eval) #[],w,.inl ?_,.still hr (.iM (by simpa using h1) fun i c v hc hv=>?_)⟩
  ·simp[execOp,hop,Instr.makeFunc,hf']
  ·have hpc:=List.all_eq_true.1 hp c (List.mem_of_getElem? hc);rw[List.getElem?_map,Option.map_eq_some_iff] at hc;obtain⟨y,hy,rfl⟩:=hc;rw[Array.getElem?_map,Option.map_eq_some_iff] at hv;obtain⟨z,hz',rfl⟩:=hv;exact .o4 (HV (h2 i y z hy (by simpa using hz'))) hpc
 ·cases h
def HE(hr:Rel j M w)(he:aN j M w env a){y i:Operand}{z z':cR}{t e:TypeId}{len n:Nat}(hop:o.op = .indexAddr t y i)(ht:P.underlying t=some (.array len e))(hn:iQ P e=some n)
  (hz:bH y=some z) (hz':bH i=some z') (h:bC C env M (.oS len n z z')=some x):∃v w',ju P o a w v w'/\dn j M w x v w':=by
 simp only[bC] at h;have h1:=aZ he hz;have h2:=aZ he hz';split at h
 ·rename_i cs k m ez ez';obtain⟨⟨h0,hm,hle⟩,h⟩:=bd h;cases h;rw[ez] at h1;rw[ez'] at h2;obtain⟨b,off,vs,hv,hc⟩:=h1.lL;refine⟨.pointer (some ⟨b,off+m.toNat*n,none⟩),w,.inl ?_,.still hr (.dq (vs:=fun q=>vs (m.toNat*n+q)) fun q c hq=>?_)⟩
  ·simp[execOp,hop,Instr.indexAt,bu ht,hv,h2.cq,asIntOf,h0,hm,dz hn,fe,Instr.sureAddr]
  ·rw[List.getElem?_drop] at hq;have h3:=hc _ c hq;rw[Nat.add_assoc];exact h3
 ·rename_i id off k m ez ez';obtain⟨⟨h0,hm⟩,h⟩:=bd h;cases h;rw[ez] at h1;rw[ez'] at h2;obtain⟨b,h3,h4,h5,hv⟩:=h1.ic;refine⟨.pointer (some ⟨b,off+m.toNat*n,none⟩),w,.inl ?_,.still hr (.ptr h3 h4 h5)⟩;simp[execOp,hop,Instr.indexAt,bu ht,hv,h2.cq,asIntOf,h0,hm,dz hn,fe,Instr.sureAddr]
 ·cases h
def HM(hr:Rel j M w){id q sz:Nat}{cs:List ae}(hM:M[id]?=some (.cells cs))(hc:cs[q]?=some (.slice .c0 [])) :
  ∃j',Rel j' (M.set id (.cells (cs.set q (.slice (.own M.length) [])))++[.tick sz 0]) w/\Ext j M w j' (M.set id (.cells (cs.set q (.slice (.own M.length) [])))++[.tick sz 0]) w:=by
 have q0:Quiet w w:=⟨Nat.le_refl _,rfl,rfl,rfl⟩;have hr1:Rel (cH j M.length none) (M++[.tick sz 0]) w:=hr.push (ob:=none) (fun b h=>by cases h) q0 (fun _ _=>rfl) (fun h=>by cases h) (fun sz n b h h'=>by cases h')
 have hx1:Ext j M w (cH j M.length none) (M++[.tick sz 0]) w:=Ext.push (fun b h=>by cases h) q0 (fun _ _=>rfl)
 have hid:=aq hM;have hM1:(M++[aM.tick sz 0])[id]?=some (.cells cs):=by rw[rG hid]; exact hM
 obtain⟨b,vs,t,hj,hw,hl,hcs⟩:=hr.box id cs hM;have hj1:cH j M.length none id=some b:=by simp[cH,Nat.ne_of_lt hid,hj]
 have hset:M.set id (aM.cells (cs.set q (.slice (.own M.length) [])))++[aM.tick sz 0]=(M++[aM.tick sz 0]).set id (aM.cells (cs.set q (.slice (.own M.length) []))):=by rw[List.set_append_left _ _ hid]
 rw[hset];have hh:∀j' M',Ext (cH j M.length none) (M++[.tick sz 0]) w j' M' w->Holds j' M' w b (.cells (cs.set q (.slice (.own M.length) []))):=fun j' M' hx=>⟨vs,t,hw,by simpa using hl,fun p c v hc' hv=>cC.mono hx ?_⟩
 ·exact⟨_,Rel.store hM1 rfl rfl hj1 hr1 q0 (fun _ _ _=>rfl) (fun vs t fr h=>⟨vs,fr,h,rfl⟩) hh,hx1.trans (Ext.store hM1 rfl rfl hj1 hr1 q0 (fun _ _ _=>rfl) (fun vs t fr h=>⟨vs,fr,h,rfl⟩))⟩
 ·by_cases hp:q=p
  ·subst hp;rw[List.getElem?_set_self (aq hc)] at hc';cases hc';have h1:=hcs q _ v hc hv
   obtain⟨A,hA⟩:∃A,v = .slice A 0 0:=by
    cases h1 with
    |plain h=>cases h
    |c0 A=>exact⟨A,rfl⟩
   rw[hA];exact .own (sz:=sz) (n:=0) (by simp) (by simp) (cg.nil _ _ _) fun _ => .inl ⟨by simp[cH],rfl,A,rfl⟩
  ·rw[List.getElem?_set_ne hp] at hc';exact cC.mono hx1 (hcs p c v hc' hv)
def CK{cs new:List ae}{off p:Nat}{x:ae}(h:off+new.length<=cs.length)(hp:p<new.length):fK cs off (new.set p x)=(fK cs off new).set (off+p) x:=by
 apply List.ext_getElem?;intro i;rw[iY (by simpa using h)]
 by_cases hi:off+p=i
 ·subst hi;rw[List.getElem?_set_self (by rw[mq h]; omega),if_pos (by simp; omega),show off+p-off=p by omega,List.getElem?_set_self hp]
 ·rw[List.getElem?_set_ne hi,iY h];simp only[List.length_set];split
  ·rename_i hc;rw[List.getElem?_set_ne (by omega)]
  ·rfl
def HI(hr:Rel j M w)(he:aN j M w env a){y y':Operand}{z z':cR}{t:TypeId}{n sz p:Nat}(hop:o.op = .store t y y')(hn:iQ P t=some n)(hz:bH y=some z)(hz':bH y'=some z')
  (h:bC C env M (.um sz p n z z')=some x):∃v w',ju P o a w v w'/\dn j M w x v w':=by
 simp only[bC] at h;split at h
 ·rename_i id off e;split at h
  ·rename_i cs hM;obtain⟨new,dw,h⟩:=az h;split at h
   ·rename_i hp;split at h
    ·rename_i hcond;cases h
     have hs:bC C env M (.store n z z')=some (.any,dA M id (.cells (fK cs off new))):=by
      simp only[bC,e,hM,dw,aI];rw[if_pos hcond]
     obtain⟨v,w',h1,j',h2,h3,h4⟩:=wV hr he hop hn hz hz' hs;rw[cf] at hM hp;have hlt:=aq hM;have hpl:=aq hp;have hle:off+new.length<=cs.length:=by omega
     rw[cG] at h2 h3 h4;have hM2:(M.set id (.cells (fK cs off new)))[id]?=some (.cells (fK cs off new)):=br hlt
     have hc2:(fK cs off new)[off+p]?=some (.slice .c0 []):=by
      rw[iY hle,if_pos (by omega),show off+p-off=p by omega]
      exact hp
     obtain⟨j'',k1,k2⟩:=HM (sz:=sz) h2 hM2 hc2;rw[List.set_set,List.length_set] at k1 k2;rw[cG,cG,CK hle hpl];exact⟨v,w',h1,j'',k1,h3.trans k2,.any _⟩
    ·cases h
   ·cases h
  ·cases h
 ·cases h
end
section
variable {P:Program} {C:bL} {o:Oper} {env:Env} {M:aj} {j:J} {w:World} {a:Act} {x:ae×aj}
def H4{x:ae}{u v:Value}(h:valOf x=some u)(hr:cC j M w x v):v=u:=by
 unfold valOf at h;split at h
 ·cases h; exact hr.cq
 ·rename_i k n;cases h;obtain⟨vs,rfl,hl,hc⟩:=hr.fB;have hs:vs.size=1:=by simpa using hl.symm
  have h0:vs[0]?=some (vs[0]'(by omega)):=Array.getElem?_eq_getElem (by omega)
  have h1:=(hc 0 _ _ rfl h0).cq;congr 1;apply Array.ext
  ·simpa using hs
  ·intro i h2 h3;have:i=0:=by omega
   subst this;simpa using h1
 ·cases h
def cC.FW{u v:Value}(h:cC j M w (.raw u) v):v=u:=by cases h with|plain h=>cases h; rfl
def Pa(hr:Rel j M w)(he:aN j M w env a){t:TypeId}{y:Operand}{z:cR}{d:TypeDesc}(hop:o.op = .makeInterface t y)(hu:P.underlying t=some d)(hd:∀m,d ≠ .interface m)(hz:bH y=some z)
  (h:bC C env M (.iface t z)=some x):∃v w',ju P o a w v w'/\dn j M w x v w':=by
 simp only[bC] at h;have h1:=aZ he hz;split at h
 ·rename_i id off e;cases h;rw[e] at h1;obtain⟨b,_,hc,hj,hy⟩:=h1.ic;refine⟨_,w,.inl ?_,.still hr (.dU hc hj)⟩;simp only[execOp,hop,Instr.makeInterface,hy];cases d<;>first|exact absurd rfl (hd _)|simp[bu hu]
 obtain⟨v,hv,h⟩:=az h;cases h;have hy:=H4 hv h1;refine⟨.iface t v,w,.inl ?_,.still hr (.plain (.raw _ rfl))⟩;simp only[execOp,hop,Instr.makeInterface,hy];cases d<;>first|exact absurd rfl (hd _)|simp[bu hu]
def Ph(hr:Rel j M w)(he:aN j M w env a){y:Operand}{z:cR}(hop:o.op = .panic y)(hz:bH y=some z)(h:bC C env M (.raise z)=some x) :
  ∃u,(execOp a.eval o).run P w = .halt (.panic u) w/\Aq j M w x u w:=by
 simp only[bC] at h;have h1:=aZ he hz;split at h
 ·rename_i v e;split at h
  ·rename_i t u;cases h;rw[e] at h1;refine⟨.iface t u,?_,rfl,j,hr,Ext.refl j M w⟩;have:a.eval y = .iface t u:=h1.FW;simp[execOp,hop,Instr.panic,this]
  ·cases h
 ·cases h
end
section
variable {P:Program} {C:bL} {o:Oper} {env:Env} {M:aj} {j:J} {w:World} {a:Act} {x:ae×aj}
def Pn(he:aN j M w env a){y:Operand}{z:cR}(hz:IZ y=some z):cC j M w (z.ev env) (a.eval y):=by
 unfold IZ at hz;split at hz
 ·cases hz;exact .plain (.raw _ rfl)
 ·exact aZ he hz
def Jn{n:Nat}(he:aN j M w env a):∀ {parts:List (Nat×Operand)} {ps:List (Nat×Nat×cR)} {cs cs':List ae} {cells:Array Value},
  py n parts=some ps->eZ env cs ps=some cs'->RC j M w cs cells ->
  ∃cells',Instr.fill (fun i=>some (i*n,n)) cells (parts.map fun p=>(p.1,a.eval p.2))=some cells'/\RC j M w cs' cells':=by
 intro parts;induction parts with
 |nil =>
  intro ps cs cs' cells h1 h2 h3;simp[py] at h1; subst h1;simp[eZ] at h2; subst h2;exact⟨cells,rfl,h3⟩
 |cons p r ih =>
  intro ps cs cs' cells h1 h2 h3;obtain⟨i,y⟩:=p;simp only[py] at h1;obtain⟨z,hz,h1⟩:=aw h1;obtain⟨l,hl,h1⟩:=aw h1;cases h1;simp only[eZ] at h2;obtain⟨new,dw,h2⟩:=az h2;split at h2
  ·rename_i hc;obtain⟨c1,c2⟩:=hc;have hrc:=mR (aZ he hz) dw;obtain⟨cells',e1,e2⟩:=ih hl h2 (h3.write (off:=i*n) hrc (by omega))
   refine⟨cells',?_,e2⟩;have hs1:=hrc.1;have hs2:=h3.1;simp only[List.map_cons,Instr.fill];rw[if_neg (by simp; omega)]
   exact e1
  ·cases h2
def HA(hr:Rel j M w)(he:aN j M w env a){t e:TypeId}{len n:Nat}{parts:Array (Nat×Operand)}{i:TypeInfo}{zv:Value}{l:List ae}{ps:List (Nat×Nat×cR)}(hop:o.op = .build t parts)
  (ht:P.underlying t=some (.array len e)) (hi:P.info? t=some i) (hzv:i.zero=some zv) (hl:kv zv.cells.toList=some l) (hn:iQ P e=some n) (hps:py n parts.toList=some ps)
  (h:bC C env M (.build l ps)=some x):∃v w',ju P o a w v w'/\dn j M w x v w':=by
 simp only[bC] at h;obtain⟨cs,hcs,h⟩:=az h;cases h;obtain⟨h1,h2⟩:=iz (j:=j) (M:=M) (w:=w) hl;obtain⟨cells',e1,e2⟩:=Jn (n:=n) he hps hcs (cells:=zv.cells) ⟨by simpa using h1,fun i c v hc hv=>h2 i c v hc (by simpa using hv)⟩
 refine⟨.agg cells',w,.inl ?_,.still hr (.agg e2.1 e2.2)⟩;have e1':Instr.fill (fun i=>some (i*n,n)) zv.cells (parts.map fun p=>(p.1,a.eval p.2)).toList=some cells':=by simpa using e1
 simp only[execOp,hop,Instr.build,zeroValue,Sem.run_bind,gZ hi,Result.andThen_ok,hzv,Sem.run_pure,bu ht,dz hn];simp only[e1',Sem.run_pure,Result.andThen_ok]
def DH{a b:ae}{r:Bool}(h:fx .i a b=some r):∃k x y,a = .int k x/\b = .int k y/\r=(x==y):=by
 cases a<;>cases b<;>first
  |(simp only[fx] at h
    split at h
    ·rename_i hk; subst hk; injection h with h; exact⟨_,_,_,rfl,rfl,h.symm⟩
    ·cases h)
  |cases h
def uG{d:Nat}{e:TypeId}{k0:IntKind}(hk:P.underlying e=some (.int k0))(hc1:P.cellsOf e=1){cs ds:List ae}{us vs:Array Value}(hc:RC j M w cs us)(hd:RC j M w ds vs):∀(n k:Nat){r:Bool},eB (List.replicate n .i) (cs.drop k) (ds.drop k)=some r ->
  (Op.eqItems (d+1) e (P.cellsOf e) us vs (List.range' k n)).run P w = .ok r w
 |0,k,r,h2=>by
  unfold eB at h2;split at h2<;>simp_all [Op.eqItems]
 |n+1,k,r,h2=>by
  have hk1:k<cs.length:=by
   rcases Nat.lt_or_ge k cs.length with h|h
   ·exact h
   ·rw[List.drop_eq_nil_of_le h,List.replicate_succ] at h2; simp[eB] at h2
  have hk2:k<ds.length:=by
   rcases Nat.lt_or_ge k ds.length with h|h
   ·exact h
   ·rw[List.drop_eq_nil_of_le h,List.drop_eq_getElem_cons hk1,List.replicate_succ] at h2;simp[eB] at h2
  rw[List.drop_eq_getElem_cons hk1,List.drop_eq_getElem_cons hk2,List.replicate_succ] at h2;simp only[eB] at h2;obtain⟨e1,he1,h2⟩:=az h2;obtain⟨e2,he2,h2⟩:=az h2;cases h2;have hlu:k<us.size:=by have:=hc.1; omega
  have hlv:k<vs.size:=by have:=hd.1; omega
  have hu:=Array.getElem?_eq_getElem hlu;have hv:=Array.getElem?_eq_getElem hlv;have ih:=uG (d:=d) hk hc1 hc hd n (k+1) he2;have hr1:=hc.2 k _ _ (List.getElem?_eq_getElem hk1) hu;have hr2:=hd.2 k _ _ (List.getElem?_eq_getElem hk2) hv;have hag:vg P e=some false:=by simp[vg,hk]
  have p1:(part e us (k*P.cellsOf e)).run P w = .ok us[k] w:=by simp[part,eM hag,hc1,hu]
  have p2:(part e vs (k*P.cellsOf e)).run P w = .ok vs[k] w:=by simp[part,eM hag,hc1,hv]
  have p3:(Op.equalIn (d+1) e us[k] vs[k]).run P w = .ok e1 w:=by
   obtain⟨kk,x,y,e3,e4,rfl⟩:=DH he1;rw[e3] at hr1; rw[e4] at hr2;rw[hr1.cq,hr2.cq];exact run_equalIn_int w d e _ _ x y hk
  rw[List.range'_succ];simp only[Op.eqItems,Sem.run_bind,p1,p2,p3,Result.andThen_ok];cases e1
  ·simp
  ·simpa using ih
def O6(hr:Rel j M w)(he:aN j M w env a){y y':Operand}{z z':cR}{t t' e:TypeId}{len:Nat}{k0:IntKind}(hop:o.op = .binOp .eql t y y' t')(ht:P.underlying t=some (.array len e))(hk:P.underlying e=some (.int k0))(hs:iQ P e=some 1)
  (hz:bH y=some z) (hz':bH y'=some z') (h:bC C env M (.Rk (List.replicate len .i) false z z')=some x):∃v w',ju P o a w v w'/\dn j M w x v w':=by
 simp only[bC] at h;have h1:=aZ he hz;have h2:=aZ he hz';split at h
 ·rename_i cs ds ez ez';obtain⟨r,hee,h⟩:=az h;cases h;rw[ez] at h1;rw[ez'] at h2;obtain⟨us,hus,hul,huc⟩:=h1.fB;obtain⟨vs,hvs,hvl,hvc⟩:=h2.fB;obtain⟨inf,hinf,hsz⟩:=xh hs;have hc1:P.cellsOf e=1:=by simp[Program.cellsOf,hinf,hsz]
  have heq:(Op.equal t (.agg us) (.agg vs)).run P w = .ok r w:=by
   unfold Op.equal;rw[show Op.maxDepth=9998+1+1 from rfl,run_equalIn_array w (9998+1) us vs ht hinf,List.range_eq_range']
   exact uG (d:=9998) hk hc1 ⟨hul,huc⟩ ⟨hvl,hvc⟩ len 0 (by simpa using hee)
  have hgt:P.eqGuardType P.depth t=false:=by
   unfold Program.depth;rw[show 2*(P.types.size+Made.depth)+2=(2*(P.types.size+Made.depth))+1+1 from rfl,Program.eqGuardType,ht]
   simp only[Program.eqGuardType,hk]
  have hguard:∀op,(eqGuard op t y y' (.agg us) (.agg vs)).run P w = .ok () w:=by
   intro op;unfold eqGuard;cases op<;>simp[hgt]
  exact⟨.bool r,w,.inl (by simp[execOp,hop,hus,hvs,hguard,binOp,heq]),.still hr (.plain (.bool _))⟩
 ·cases h
def lF{l:List ae}(hp:0<l.length)(h1:l.all ae.plainCell=true):(ae.agg l).norm.cells=l:=by
 match l with
 | []=>simp at hp
 | [c] =>
  simp only[List.all_cons,List.all_nil,Bool.and_true] at h1
  show c.cells=[c]
  cases c<;>first|rfl|cases h1
 |_::_::_=>rfl
def OS(z:Array Value)(n k:Nat)(h:k<n)(hz:0<z.size):(madeCells z n)[k]?=z[k % z.size]?:=by
 have hm:k % z.size<z.size:=Nat.mod_lt _ hz;rw[Array.getElem?_eq_getElem hm];simp[madeCells,h,hm]
def Gm(w:World)(cV:Nat->Nat->Prop){v:Value}{c:ae}(h:C3 v=some c):cg w cV c.shut v:=by
 unfold C3 at h
 split at h<;>first
  |(cases h; first|exact .bool _|exact .int _ _|exact .str _|exact .raw _ rfl|exact cg.nil _ _ _)
  |cases h
def Au:∀ {vs:List Value} {l:List ae},kv vs=some l->∀(i:Nat)(c:ae)(v:Value),l[i]?=some c->vs[i]?=some v->C3 v=some c
 | [],l,h,i,c,v,h1,h2=>by simp at h2
 |u::r,l,h,i,c,v,h1,h2=>by
  simp only[kv] at h;obtain⟨x,hx,h⟩:=aw h;obtain⟨l',hl,h⟩:=aw h;cases h;cases i with
  |zero=>simp at h1 h2; subst h1; subst h2; exact hx
  |succ i=>exact Au hl i c v (by simpa using h1) (by simpa using h2)
def FI{t e:TypeId}{i:TypeInfo}{zv:Value}{l:List ae}{y:Operand}{k:Int}{kk:IntKind}(hop:o.op = .makeSlice t y y)(ht:P.underlying t=some (.slice e))(hi:P.info? e=some i)(hzv:i.zero=some zv)
  (hl:kv zv.cells.toList=some l) (c1:l.length=i.size) (c2:0<i.size) (c3:i.bytes<=8*i.size) (hev:a.eval y = .int kk k) (h0:0<=k) (hroom:aP k.toNat (8*(l.map ae.shut).length)) (hpl:(l.map ae.shut).all ae.plainCell=true) :
  ∃row:Array Value,(execOp a.eval o).run P w = .ok (.value (.slice (some ⟨w.heap.size,0,none⟩) k.toNat k.toNat)) (w.alloc (.cells row e))/\row.size=k.toNat*i.size /\
   ∀cV (w':World) (q:Nat) (x:ae) (p:Nat) (c:ae),(List.replicate k.toNat (ae.agg (l.map ae.shut)).norm)[q]?=some x->x.cells[p]?=some c->∃v,row[q*i.size+p]?=some v/\cg w' cV c v:=by
 have hls:(l.map ae.shut).length=i.size:=by simpa using c1
 have hzs:zv.cells.size=i.size:=by
  have:=(iz (j:=⟨fun _=>none,fun _ _=>False⟩) (M:=[]) (w:=w) hl).1
  simp at this; omega
 unfold aP at hroom;rw[hls] at hroom
 have hb:i.bytes*k.toNat<=2 ^ 44:=by
  refine Nat.le_trans ?_ hroom;rw[Nat.mul_comm];exact Nat.mul_le_mul_left _ c3
 have hk44:k.toNat<=2 ^ 44:=Nat.le_trans (Nat.le_mul_of_pos_right _ (by omega)) hroom
 have hrun:=run_make (P:=P) w t e i zv ht hi hzv kk kk k k h0 (Int.le_refl _) (by
  have:((i.bytes*k.toNat:Nat):Int)<=2 ^ 44:=by exact_mod_cast hb
  rw[Int.natCast_mul,Int.toNat_of_nonneg h0] at this;omega) (by omega)
 refine⟨madeCells zv.cells (k.toNat*i.size),by simp[execOp,hop,hev,hrun],size_madeCells _ _,fun cV w' q x p c hx hc=>?_⟩
 rw[List.getElem?_replicate] at hx;split at hx
 ·rename_i hq;cases hx;rw[lF (by omega) hpl] at hc
  have hp:p<i.size:=by rw[<-hls]; exact aq hc
  have hlt:q*i.size+p<k.toNat*i.size:=by
   have:(q+1)*i.size<=k.toNat*i.size:=Nat.mul_le_mul_right _ hq;rw[Nat.add_mul,Nat.one_mul] at this;omega
  rw[OS _ _ _ hlt (by omega),hzs,Nat.add_comm,Nat.add_mul_mod_self_right,Nat.mod_eq_of_lt hp]
  rw[List.getElem?_map,Option.map_eq_some_iff] at hc;obtain⟨c0,hc0,rfl⟩:=hc;have hpz:p<zv.cells.size:=by omega
  have hv:=Array.getElem?_eq_getElem hpz;refine⟨_,hv,?_⟩;exact Gm w' cV (Au hl p c0 _ hc0 (by simp))
 ·cases hx
def Pf(hr:Rel j M w)(he:aN j M w env a){t e:TypeId}{i:TypeInfo}{zv:Value}{l:List ae}{y:Operand}{z:cR}(hop:o.op = .makeSlice t y y)(ht:P.underlying t=some (.slice e))(hi:P.info? e=some i)(hzv:i.zero=some zv)
  (hl:kv zv.cells.toList=some l) (hz:bH y=some z) (c1:l.length=i.size) (c2:0<i.size) (c3:i.bytes<=8*i.size) (h:bC C env M (.Y0 (l.map ae.shut) z)=some x):∃v w',ju P o a w v w'/\dn j M w x v w':=by
 simp only[bC] at h;have h1:=aZ he hz;split at h
 ·rename_i kk k ek;obtain⟨⟨h0,hroom,hpl⟩,h⟩:=bd h;cases h;rw[ek] at h1;obtain⟨row,hrun,hsz,hel⟩:=FI (w:=w) hop ht hi hzv hl c1 c2 c3 h1.cq h0 hroom hpl;have hls:(l.map ae.shut).length=i.size:=by simpa using c1
  obtain⟨q,hb,dw⟩:=ig (w:=w) (.cells row e (0,0));refine⟨_,{ w with heap:=w.heap.push (.cells row e (0,0)) },.inl hrun,?_⟩
  have ext:Ext j M w j M { w with heap:=w.heap.push (.cells row e (0,0)) }:=Ext.grow q.size rfl rfl rfl hb
  have rel:Rel j M { w with heap:=w.heap.push (.cells row e (0,0)) }:=hr.grow q.size rfl rfl rfl hb
  refine⟨j,rel,ext,.plain (.slice _ _ _ _ w.heap.size 0 i.size (fun p=>(row[p]?).getD undef) (by simp) (Nat.le_refl _) (fun _=>rfl) (fun x hx=>?_) (fun n y k c hn hk=>?_) (fun n y k c hn hk=>?_))⟩
  ·obtain⟨_,rfl⟩:=List.mem_replicate.1 hx;rw[lF (by omega) hpl,hls]
  ·obtain⟨u,hu,_⟩:=hel (fY j M { w with heap:=w.heap.push (.cells row e (0,0)) }) { w with heap:=w.heap.push (.cells row e (0,0)) } n y k c hn hk
   refine⟨?_,by simp,fun id hid hj=>?_,fun hx=>absurd (hr.tb _ _ hx) (Nat.lt_irrefl _)⟩
   ·simp only[World.cell?,dw,Nat.zero_add,hu];rfl
   ·have:=hr.lt id _ hid hj;omega
  ·obtain⟨u,hu,hru⟩:=hel (fY j M { w with heap:=w.heap.push (.cells row e (0,0)) }) { w with heap:=w.heap.push (.cells row e (0,0)) } n y k c hn hk
   rw[hu];exact hru
 ·cases h
def TG(hr:Rel j M w)(he:aN j M w env a){t e:TypeId}{i:TypeInfo}{zv:Value}{l:List ae}{y:Operand}{z:cR}(hop:o.op = .makeSlice t y y)(ht:P.underlying t=some (.slice e))(hi:P.info? e=some i)(hzv:i.zero=some zv)
  (hl:kv zv.cells.toList=some l) (hz:bH y=some z) (c1:l.length=i.size) (c2:0<i.size) (c3:i.bytes<=8*i.size) (h:bC C env M (.Hw (l.map ae.shut) z)=some x):∃v w',ju P o a w v w'/\dn j M w x v w':=by
 simp only[bC] at h;have h1:=aZ he hz;split at h
 ·rename_i kk k ek;obtain⟨⟨h0,hroom,hpl⟩,h⟩:=bd h;cases h;rw[ek] at h1;obtain⟨row,hrun,hsz,hel⟩:=FI (w:=w) hop ht hi hzv hl c1 c2 c3 h1.cq h0 hroom hpl;have hls:(l.map ae.shut).length=i.size:=by simpa using c1
  rw[hls];obtain⟨q,hb,dw⟩:=ig (w:=w) (.cells row e (0,0));have hob:∀b,some w.heap.size=some b->w.heap.size<=b/\b<({ w with heap:=w.heap.push (.cells row e (0,0)) }:World).heap.size:=fun b h=>by cases h; simp
  have ext:Ext j M w (cH j M.length (some w.heap.size)) (M++[.arr i.size 0 (List.replicate k.toNat (ae.agg (l.map ae.shut)).norm)]) { w with heap:=w.heap.push (.cells row e (0,0)) }:=Ext.push (fun b hb=>(hob b hb).1) q hb
  refine⟨_,{ w with heap:=w.heap.push (.cells row e (0,0)) },.inl hrun,cH j M.length (some w.heap.size),hr.push hob q hb (fun h=>by cases h) (fun sz n b h _=>by cases h) (fun sz0 v0 xs0 he=>?_),ext,?_⟩
  ·injection he with e1 e2 e3
   subst e1; subst e2; subst e3;refine .inr ⟨w.heap.size,row,e,rfl,dw,by simp[hsz],fun x hx=>?_,fun j' M' hx q0 x p c hq hp=>hel (fY j' M' { w with heap:=w.heap.push (.cells row e (0,0)) }) { w with heap:=w.heap.push (.cells row e (0,0)) } q0 x p c hq hp⟩
   obtain⟨_,rfl⟩:=List.mem_replicate.1 hx;rw[lF (by omega) hpl,hls]
  ·refine .aW (.inl ⟨_,_,_,by rw[Nat.sub_zero],by omega⟩) (by simp) (fun bx hbx=>by rw[ft] at hbx; cases hbx; rfl) fun sz' v' ys hx=>?_
   rw[ft] at hx; injection hx with hx; injection hx with e1 e2 e3
   subst e1; subst e2; subst e3;exact⟨Nat.le_refl _,fun _=>⟨rfl,Nat.zero_le _,by simp,.inr ⟨w.heap.size,k.toNat,row,e,by simp[cH],by simp,by omega,dw,by rw[Nat.zero_add]; omega⟩⟩⟩
 ·cases h
end
section
variable {j:J} {M:aj} {w w':World}
def Ext.mu{k b' sz ver ver':Nat}{xs xs':List ae}(hM:M[k]?=some (.arr sz ver xs))(q:Quiet w w')(hb:∀b,b<w.heap.size->w'.heap[b]?=w.heap[b]?)(hf:w.heap.size<=b')(hn:ver<ver') :
  Ext j M w (cH j k (some b')) (M.set k (.arr sz ver' xs')) w' where
 len:=by simp
 size:=q.size
 os:=q.os
 tape:=q.tape
 output:=q.output
 X:=rfl
 fix:=fun i b0 h hf=>by
  have e:k≠i:=by rintro rfl; rw[hM] at h; cases h; cases hf
  exact⟨by simp[cH,Ne.symm e],b0,by rw[aU e]; exact h,rfl⟩
 tick:=fun i sz0 n0 h=>by
  have e:k≠i:=by rintro rfl; rw[hM] at h; cases h
  exact⟨n0,Nat.le_refl _,by rw[aU e]; exact h,fun _=>⟨by simp[cH,Ne.symm e],fun b vs0 t0 _ hv=>⟨vs0,(hb b (lt_of_block hv)).trans hv,rfl⟩⟩⟩
 arr:=fun i sz0 v0 xs0 h=>by
  by_cases e:k=i
  ·subst e;rw[hM] at h;injection h with h; injection h with h1 h2 h3
   subst h1; subst h2; subst h3;exact .inr ⟨ver',xs',br (aq hM),by omega,fun he=>by omega⟩
  ·exact .inr ⟨v0,xs0,by rw[aU e]; exact h,Nat.le_refl _,fun _=>⟨by simp[cH,Ne.symm e],rfl,fun b vs0 t0 _ hv=>⟨vs0,(hb b (lt_of_block hv)).trans hv,rfl⟩⟩⟩
 tags:=fun b0 vs0 t0 fr0 h=>⟨vs0,fr0,(hb b0 (lt_of_block h)).trans h,rfl⟩
 cV:=fun b0 off h=>by
  refine⟨⟨Nat.lt_of_lt_of_le h.1 q.size,fun i hi hji=>?_,h.3⟩,World.cell?_of_block (w:=w) (hb b0 h.1)⟩
  have e:k≠i:=by
   rintro rfl;have:b'=b0:=by simpa[cH] using hji
   have:=h.1;omega
  rw[aU e];exact h.2 i (by simpa using hi) (by simpa[cH,Ne.symm e] using hji)
 nA:=fun b0 hlt h=>by
  refine⟨hb b0 hlt,fun i hi hji=>?_⟩
  by_cases e:i=k
  ·have:b'=b0:=by simpa[cH,e] using hji
   omega
  ·exact h i (by simpa using hi) (by simpa[cH,e] using hji)
def Rel.mu{k b' sz ver ver':Nat}{xs xs':List ae}(hM:M[k]?=some (.arr sz ver xs))(hr:Rel j M w)(q:Quiet w w')(hb:∀b,b<w.heap.size->w'.heap[b]?=w.heap[b]?)
  (hf:w.heap.size<=b') (hlt:b'<w'.heap.size) (hn:ver<ver') (hh:∀j' M',Ext j M w j' M' w'->xJ j' M' w' b' sz xs'):Rel (cH j k (some b')) (M.set k (.arr sz ver' xs')) w':=by
 have ext:Ext j M w (cH j k (some b')) (M.set k (.arr sz ver' xs')) w':=Ext.mu hM q hb hf hn;refine⟨fun i i' b0 hi hi' h h'=>?_,fun i b0 hi h=>?_,fun i bx0 h hf=>?_,fun i sz0 n0 b0 h hji=>?_,fun i sz0 v0 xs0 h=>?_,fun i b0 hi h off hx=>?_,fun b0 off h=>Nat.lt_of_lt_of_le (hr.tb b0 off h) q.size⟩
 ·simp only[List.length_set] at hi hi'
  by_cases e:i=k<;>by_cases e':i'=k
  ·omega
  ·have h1:b'=b0:=by simpa[cH,e] using h
   have:=hr.lt i' b0 hi' (by simpa[cH,e'] using h')
   omega
  ·have h1:b'=b0:=by simpa[cH,e'] using h'
   have:=hr.lt i b0 hi (by simpa[cH,e] using h)
   omega
  ·exact hr.inj i i' b0 hi hi' (by simpa[cH,e] using h) (by simpa[cH,e'] using h')
 ·simp only[List.length_set] at hi
  by_cases e:i=k
  ·have h1:b'=b0:=by simpa[cH,e] using h
   subst h1;exact hlt
  ·exact Nat.lt_of_lt_of_le (hr.lt i b0 hi (by simpa[cH,e] using h)) q.size
 ·have e:k≠i:=by rintro rfl; rw[br (aq hM)] at h; cases h; cases hf
  rw[aU e] at h;obtain⟨b0,h1,h2⟩:=hr.fix i bx0 h hf;exact⟨b0,by simpa[cH,Ne.symm e] using h1,h2.mono ext (hb b0 (hr.lt i b0 (aq h) h1))⟩
 ·have e:k≠i:=by rintro rfl; rw[br (aq hM)] at h; cases h
  rw[aU e] at h;obtain⟨vs0,t0,h1⟩:=hr.tick i sz0 n0 b0 h (by simpa[cH,Ne.symm e] using hji)
  exact⟨vs0,t0,(hb b0 (lt_of_block h1)).trans h1⟩
 ·by_cases e:k=i
  ·subst e;rw[br (aq hM)] at h;injection h with h; injection h with e1 e2 e3
   subst e1; subst e2; subst e3;obtain⟨vs,t,g⟩:=hh _ _ ext;exact .inr ⟨b',vs,t,by simp[cH],g⟩
  ·rw[aU e] at h;exact iA hr ext h (by simp[cH,Ne.symm e]) fun b0 h1=>hb b0 (hr.lt i b0 (aq h) h1)
 ·by_cases e:i=k
  ·have h1:b'=b0:=by simpa[cH,e] using h
   have h2:=hr.tb b0 off hx;omega
  ·exact hr.mN i b0 (by simpa using hi) (by simpa[cH,e] using h) off hx
def fW{cV:Nat->Nat->Prop}{xs:List ae}{v:Value}{size:Nat}(hx:cg w cV (.slice .sh xs) v)(hw:wid xs size):∃A cap,v = .slice A xs.length cap/\xs.length<=cap /\
  (xs=[]\/∃b off,A=some ⟨b,off,none⟩/\∃us:List Value,RL w cV (dR xs) us/\us.length=xs.length*size/\(∀u,u∈us->u.oneCell'=true)/\∀p u,us[p]?=some u->w.cell? ⟨b,off+p,none⟩=some u/\cV b (off+p)):=by
 cases hx with
 |slice _ A len cap b off sz vs hl hc ha hz hs hr =>
  subst hl;refine⟨A,cap,rfl,hc,?_⟩;rcases List.eq_nil_or_concat xs with h0|⟨_,_,h0⟩
  ·exact .inl h0
  ·have hne:xs≠[]:=by rw[h0]; simp
   have hsz:sz=size:=by
    obtain⟨x,r,hxr⟩:=List.exists_cons_of_ne_nil hne;have hm:x∈xs:=by rw[hxr]; exact List.mem_cons_self ..
    rw[<-hz x hm,hw x hm]
   subst hsz;have hlen:((List.range (xs.length*sz)).map vs).length=xs.length*sz:=by simp
   have hrl:RL w cV (dR xs) ((List.range (xs.length*sz)).map vs):=by
    refine⟨by rw[c9 hw,hlen],fun p c v hc hv=>?_⟩
    obtain⟨q,x,k,h1,h2,rfl⟩:=wi hw hc;have hlt:q*sz+k<xs.length*sz:=by rw[<-c9 hw]; exact aq hc
    rw[List.getElem?_map,List.getElem?_range hlt] at hv;simp only[Option.map_some] at hv;cases hv;exact hr q x k c h1 h2
   refine .inr ⟨b,off,ha hne,_,hrl,hlen,fun u hu=>?_,fun p u hu=>?_⟩
   ·obtain⟨p,hp⟩:=List.getElem?_of_mem hu;have hp':p<(dR xs).length:=by rw[hrl.1]; exact aq hp
    exact cg.one (hrl.2 p _ u (List.getElem?_eq_getElem hp') hp)
   ·have hp':p<(dR xs).length:=by rw[hrl.1]; exact aq hu
    obtain⟨q,x,k,h1,h2,rfl⟩:=wi hw (List.getElem?_eq_getElem hp');have hlt:q*sz+k<xs.length*sz:=by rw[<-c9 hw]; exact hp'
    rw[List.getElem?_map,List.getElem?_range hlt] at hu;simp only[Option.map_some] at hu;cases hu;exact hs q x k _ h1 h2
end
section
variable {P:Program} {C:bL} {o:Oper} {env:Env} {M:aj} {j:J} {w:World} {a:Act} {x:ae×aj}
theorem Hy{l:List ae}(hp:0<l.length)(h1:l.all ae.plainCell=true)(n:Nat):dR (List.replicate n (ae.agg l).norm)=(List.replicate n l).flatten/\wid (List.replicate n (ae.agg l).norm) l.length:=by
 refine⟨?_,fun x hx=>by rw[List.eq_of_mem_replicate hx,lF hp h1]⟩
 induction n with
 |zero=>rfl
 |succ n ih=>rw[List.replicate_succ,gm,ih,List.replicate_succ,List.flatten_cons,lF hp h1]
theorem EG(hr:Rel j M w){id sz ver:Nat}{xs ys:List ae}(hM:M[id]?=some (.arr sz ver xs)){b cap:Nat}{row:Array Value}{t:TypeId}(hj:j id=some b)(hw:w.heap[b]?=some (.cells row t (0,0)))(hcap:xs.length<=cap)(hrow:cap*sz<=row.size)
  (hwd:wid xs sz) (hwy:wid ys sz) (hne:ys≠[]) {us:List Value} (hrl:RL w (fY j M w) (dR ys) us) {v:Value} {w':World}
  (hq:(xs.length+ys.length<=cap/\v = .slice (some ⟨b,0,none⟩) (xs.length+ys.length) cap/\w'=gR w b (xs.length*sz) us) \/
   ∃c' row' e,xs.length+ys.length<=c'/\v = .slice (some ⟨w.heap.size,0,none⟩) (xs.length+ys.length) c'/\Quiet w w'/\(∀b,b<w.heap.size->w'.heap[b]?=w.heap[b]?)/\w'.heap[w.heap.size]?=some (.cells row' e (0,0))/\c'*sz<=row'.size /\
    ∀p,p<(xs.length+ys.length)*sz->row'[p]?=(row.toList.take (xs.length*sz)++us)[p]?) :
  dn j M w (.aW id (ver+1) sz 0 (xs.length+ys.length),M.set id (.arr sz (ver+1) (xs++ys))) v w':=by
 obtain⟨b',row0,t',k1,k2,k3,k4,k5⟩:=hr.rI hM hj;rw[hj] at k1; cases k1;rw[hw] at k2; injection k2 with k2; injection k2 with k2 k2'
 subst k2; subst k2';have hrow0:=pv (b:=b) k3 k4 k5;have hid:=aq hM;have hwd2:=fM hwd hwy
 have dw:RL w (fY j M w) (dR (xs++ys)) (row.toList.take (xs.length*sz)++us):=by
  rw[gk]; exact hrow0.append hrl
 have hlen:(xs++ys).length=xs.length+ys.length:=by simp
 have hpl:(row.toList.take (xs.length*sz)++us).length=(xs.length+ys.length)*sz:=by rw[<-dw.1,c9 hwd2,hlen]
 have hul:us.length=ys.length*sz:=by rw[<-hrl.1,c9 hwy]
 have hpos:0<ys.length:=List.length_pos_iff.2 hne;rcases hq with ⟨h1,rfl,rfl⟩|⟨c',row',e,h1,rfl,q,hb,hn,hs,hp⟩
 ·have hfit:xs.length*sz+us.length<=row.size:=by
   rw[hul,<-Nat.add_mul]; exact Nat.le_trans (Nat.mul_le_mul_right _ h1) hrow
  obtain⟨s1,s2,s3,s4,s5,row2,s6,s7,s8,s9⟩:=fc (t:=t) us w (xs.length*sz) row hw hfit
  have hput:=pt (ver':=ver+1) (xs':=xs++ys) hr hM hj ⟨by omega,s2,s3,s4⟩ (fun b' hb' _=>s5 b' hb') hw s6 s7 (by omega) (fun h=>by omega) hwd2 dw (fun p hp=>by
   rw[hpl] at hp
   grind)
  refine⟨j,hput.1,hput.2,.aW (.inl ⟨b,0,cap,by rw[Nat.sub_zero],by omega⟩) (by simpa using hid) (fun bx hbx=>by rw[br hid] at hbx; cases hbx; rfl) fun sz' v' zs hx=>?_⟩
  rw[br hid] at hx; injection hx with hx; injection hx with e1 e2 e3
  subst e1; simp_all
 ·have hat  := fun p h=>hp p (by rw[<-hpl]; exact h)
  have hrel:=Rel.mu (ver':=ver+1) (xs':=xs++ys) hM hr q hb (Nat.le_refl _) (lt_of_block hn) (by simp) (fun j' M' hx=>fg hn hwd2 (dw.mono hx.cV) hat)
  have hext:=Ext.mu (j:=j) (ver':=ver+1) (xs':=xs++ys) hM q hb (Nat.le_refl _) (by simp)
  refine⟨_,hrel,hext,.aW (.inl ⟨w.heap.size,0,c',by rw[Nat.sub_zero],by omega⟩) (by simpa using hid) (fun bx hbx=>by rw[br hid] at hbx; cases hbx; rfl) fun sz' v' zs hx=>?_⟩
  rw[br hid] at hx; injection hx with hx; injection hx with e1 e2 e3
  subst e1; subst e2; subst e3;exact⟨Nat.le_refl _,fun _=>⟨rfl,Nat.zero_le _,by omega,.inr ⟨w.heap.size,c',row',e,by simp[cH],by simp,by omega,hn,by rw[Nat.zero_add]; exact hs⟩⟩⟩
theorem Ef(hr:Rel j M w)(he:aN j M w env a){c:Call}{y y':Operand}{z z':cR}{t t' e:TypeId}{kn:IntKind}{i:TypeInfo}{zv:Value}{l:List ae}(hop:o.op = .call c)(hb:c.callee = .builtin .append)(ha:c.args.toList=[y,y'])
  (hat:c.argTypes.toList=[t,t']) (hs:P.underlying t=some (.slice e)) (hs':P.underlying t'=some (.int kn)) (hi:P.info? e=some i) (hzv:i.zero=some zv) (hl:kv zv.cells.toList=some l) (c1:l.length=i.size) (c2:0<i.size) (c3:0<i.bytes) (c4:i.bytes<=2 ^ 20)
  (hz:bH y=some z) (hz':bH y'=some z') (h:bC C env M (.pr i.size i.bytes (l.map ae.shut) z z')=some x):∃v w',ju P o a w v w'/\dn j M w x v w':=by
 simp only[bC] at h;have r1:=aZ he hz;have r2:=aZ he hz';have ha':c.args = #[y,y']:=by rw[<-ha]
 have hat':c.argTypes = #[t,t']:=by rw[<-hat]
 have hexec:∀r,(Builtin.append_ #[t,t'] o.type #[a.eval y,a.eval y']).run P w=r->(execOp a.eval o).run P w=r.andThen fun v w' => .ok (.value v) w':=by
  intro r hr';simp[execOp,hop,resolve,hb,invoke,builtin,ha',hat',hr']
 have hsz:(sizeOf e).run P w = .ok i.size w:=dz (by simp[iQ,hi])
 obtain⟨z1,z2⟩:=iz (j:=j) (M:=M) (w:=w) hl;have hzs:zv.cells.size=i.size:=by simp at z1; omega
 have happ:∀(A:Option Addr)(n c:Nat)(kz:IntKind)(m:Nat),(Builtin.append_ #[t,t'] o.type #[.slice A n c,.int kz (m:Int)]).run P w=(Builtin.append_ #[t,t'] o.type #[.slice A n c,.int kn (m:Int)]).run P w:=fun A n c kz m=>by
  simp[Builtin.append_,bu hs,bu hs',asInt,asIntOf]
 -- what is appended
 have zrow:∀(k:Nat),(l.map ae.shut).all ae.plainCell=true->RL w (fY j M w) (dR (List.replicate k (ae.agg (l.map ae.shut)).norm)) (Builtin.zeroCells zv.cells k).toList/\wid (List.replicate k (ae.agg (l.map ae.shut)).norm) i.size/\∀v,v∈(Builtin.zeroCells zv.cells k).toList->v.oneCell'=true:=by
  grind [vE,Hy,ae.shut,List.length_map,jt,IG,List.mem_flatten]
 -- nothing is appended
 have nil:∀(base:Option Addr)(n cap:Nat),n<=cap->(Builtin.append_ #[t,t'] o.type #[.slice base n cap,.int kn 0]).run P w = .ok (.slice base n cap) w:=by
  intro base n cap hle;have hw0:IntKind.i64.wrap 0=0:=by decide
  cases base<;>simp[Builtin.append_,bu hs,bu hs',hsz,asInt,asIntOf,hw0,typeInfo,hi,hle,storeCells]
 have grow:∀(base:Option Addr)(n cap:Nat)(olds:List Value)(k:Nat),(∀w':World,w'.heap=w.heap->(Builtin.firstCells i.size n (.slice base n cap)).run P w' = .ok olds.toArray w')->0<k->cap<n+k->(n+k)*i.bytes<=2 ^ 44 ->
   ∃newCap row' w',n+k<=newCap/\(Builtin.append_ #[t,t'] o.type #[.slice base n cap,.int kn k]).run P w = .ok (.slice (some ⟨w.heap.size,0,none⟩) (n+k) newCap) w'/\Quiet w w'/\(∀b,b<w.heap.size->w'.heap[b]?=w.heap[b]?)/\w'.heap[w.heap.size]?=some (.cells row' e (0,0)) /\
    row'.size=olds.length+k*i.size+(newCap-(n+k))*i.size/\∀p,p<olds.length+k*i.size->row'[p]?=(olds++(Builtin.zeroCells zv.cells k).toList)[p]?:=by
  intro base n cap olds k hold hk hlt hroom
  have hcapb:Builtin.nextslicecap (n+k) cap*i.bytes<=281474976710656:=by
   have h1:=wS hlt;have h2:Builtin.nextslicecap (n+k) cap*i.bytes<=(2*(n+k)+1000)*i.bytes:=Nat.mul_le_mul_right _ h1
   grind
  have h44:n+k<=2 ^ 44:=Nat.le_trans (Nat.le_mul_of_pos_right _ c3) hroom
  have hkb:k*i.bytes<=281474976710656:=by
   have:=Nat.mul_le_mul_right i.bytes (show k<=n+k by omega)
   omega
  have hrun:=Lib.run_append_grow_zeros (P:=P) w t t' o.type e i zv kn kn hs hs' hi hzv base n cap olds (hold w.drew rfl) k hk c2 hlt (by omega) hkb hcapb
  have hge:n+k<=grownCap w (n+k) cap e:=grownCap_ge w (n+k) cap e;have hzl:∀m,(Builtin.zeroCells zv.cells m).size=m*i.size:=fun m=>by simp[Builtin.zeroCells,hzs]
  obtain⟨q,hbk,dw⟩:=ig (w:=w) (.cells (olds.toArray++Builtin.zeroCells zv.cells k++Builtin.zeroCells zv.cells (grownCap w (n+k) cap e-(n+k))) e (0,0));refine⟨_,_,_,hge,hrun,⟨q.size,rfl,rfl,rfl⟩,hbk,dw,by simp only[Array.size_append,hzl,List.size_toArray],fun p hp=>?_⟩
  rw[Array.getElem?_append_left (by simp only[Array.size_append,hzl,List.size_toArray]; exact hp)]
  simp[<-Array.getElem?_toList]
 have hkk:∀ {k:Int} {kz:IntKind},a.eval y' = .int kz k->0<=k->∃m:Nat,k=m:=fun {k} _ _ h=>⟨k.toNat,by omega⟩
 split at h
 ·rename_i kz k ex ek;rw[ex] at r1; rw[ek] at r2;obtain⟨⟨h0,hroom,hsl,hpl⟩,h⟩:=bd h;obtain⟨A,hv⟩:=r1.vS;obtain⟨m,rfl⟩:∃m:Nat,k=m:=⟨k.toNat,by omega⟩
  have hk2:=r2.cq;rcases dW h with ⟨hb0,h⟩|⟨hb0,h⟩
  ·cases h;have hm0:m=0:=by simpa using hb0
   subst hm0;refine⟨a.eval y,w,.inl ?_,.still hr ?_⟩
   ·rw[hexec _ rfl,hv,hk2,happ,Int.natCast_zero,nil A 0 0 (Nat.le_refl _)]; rfl
   ·rw[hv]; exact .c0 _
  ·cases h
   have hm0:0<m:=by
    rcases Nat.eq_zero_or_pos m with h|h
    ·subst h; simp at hb0
    ·exact h
   unfold aP at hroom;simp only[Int.toNat_natCast] at hroom ⊢;obtain⟨newCap,row',w',g1,g2,q,g3,g4,g5,g6⟩:=grow A 0 0 [] m (fun w' _=>by cases A<;>simp[Builtin.firstCells,loadCells,loadCellsFrom]) hm0 (by omega) (by simpa using hroom)
   obtain⟨p1,p2,p3⟩:=zrow m hpl;have hob:∀b,some w.heap.size=some b->w.heap.size<=b/\b<w'.heap.size:=fun b h=>by cases h; exact⟨Nat.le_refl _,lt_of_block g4⟩
   have ext:Ext j M w (cH j M.length (some w.heap.size)) (M++[.arr i.size 0 (List.replicate m (ae.agg (l.map ae.shut)).norm)]) w':=Ext.push (fun b h=>(hob b h).1) q g3
   have hat:∀j' M',Ext j M w j' M' w'->xJ j' M' w' w.heap.size i.size (List.replicate m (ae.agg (l.map ae.shut)).norm):=fun j' M' hx=>fg g4 p2 (p1.mono hx.cV) fun p hp=>by
    have hp':p<m*i.size:=by rw[<-p1.1,c9 p2] at hp; simpa using hp
    rw[g6 p (by simpa using hp')]; simp
   refine⟨.slice (some ⟨w.heap.size,0,none⟩) m newCap,w',.inl ?_,cH j M.length (some w.heap.size),hr.push hob q g3 (fun h=>by cases h) (fun sz n b h _=>by cases h) (fun sz0 v0 xs0 he=>?_),ext,?_⟩
   ·rw[hexec _ rfl,hv,hk2,happ,g2]; simp[Result.andThen]
   ·injection he with e1 e2 e3
    subst e1; subst e2; subst e3;refine .inr ⟨w.heap.size,row',e,rfl,g4,by rw[g5]; simp,p2,fun j' M' hx q x k c hx' hk=>?_⟩
    obtain⟨vs,t,a1,a2,a3,a4⟩:=hat j' M' hx;rw[g4] at a1; injection a1 with a1; injection a1 with a1 a1'
    subst a1;exact a4 q x k c hx' hk
   ·refine .aW (.inl ⟨w.heap.size,0,newCap,by rw[Nat.sub_zero],by omega⟩) (by simp) (fun bx hbx=>by rw[ft] at hbx; cases hbx; rfl) fun sz' v' xs hx=>?_
    rw[ft] at hx; injection hx with hx; injection hx with e1 e2 e3
    subst e1; subst e2; subst e3;refine⟨Nat.le_refl _,fun _=>⟨rfl,Nat.zero_le _,by simp,.inr ⟨w.heap.size,newCap,row',e,by simp[cH],by simp,by omega,g4,?_⟩⟩⟩
    rw[g5,Nat.zero_add];simp only[List.length_nil,Nat.zero_add];rw[<-Nat.add_mul,Nat.add_sub_cancel' (by omega)]
    exact Nat.le_refl _
 ·rename_i id ver sz' lo hi0 kz k ex ek;rw[ex] at r1; rw[ek] at r2;rw[cf] at h;split at h
  ·rename_i sz0 v0 xs hM;obtain⟨⟨d1,d2,d3,d4,h0,hroom,hsl,hpl,hne0⟩,h⟩:=bd h;subst d1; subst d2; subst d3; subst d4;obtain⟨_,hid,_,g⟩:=r1.gw;obtain⟨e1,_,_,⟨hx,_⟩|⟨b,cap,row,t0,l3,l4,l5,l6,l7⟩⟩:=(g sz0 v0 xs hM).2 rfl
   ·exact absurd hne0 (by rw[hx]; simp)
   subst e1;rw[Nat.sub_zero] at l4 l5;rw[Nat.zero_mul] at l4;rw[Nat.zero_add] at l7;obtain⟨m,rfl⟩:∃m:Nat,k=m:=⟨k.toNat,by omega⟩
   have hk2:=r2.cq;rcases dW h with ⟨hb0,h⟩|⟨hb0,h⟩
   ·cases h;have hm0:m=0:=by simpa using hb0
    subst hm0;refine⟨a.eval y,w,.inl ?_,.still hr r1⟩;rw[hexec _ rfl,hk2,l4,happ,Int.natCast_zero,nil _ _ _ l5]; rfl
   ·cases h
    have hm0:0<m:=by
     rcases Nat.eq_zero_or_pos m with h|h
     ·subst h; simp at hb0
     ·exact h
    unfold aP at hroom;simp only[Int.toNat_natCast] at hroom ⊢;obtain⟨b',row0,t',k1,k2,k3,k4,k5⟩:=hr.rI hM l3;rw[l3] at k1; cases k1;rw[l6] at k2; injection k2 with k2; injection k2 with k2 k2'
    subst k2; subst k2';obtain⟨p1,p2,p3⟩:=zrow m hpl;have hlr:(List.replicate m (ae.agg (l.map ae.shut)).norm).length=m:=by simp
    have hne:List.replicate m (ae.agg (l.map ae.shut)).norm≠[]:=by intro h; rw[h] at hlr; simp at hlr; omega
    have key:=fun v w' hq=>EG (v:=v) (w':=w') hr hM l3 l6 l5 l7 k4 p2 hne p1 hq
    rw[hlr] at key;rw[cG];rcases Nat.lt_or_ge cap (xs.length+m) with hlt|hge
    ·have hfc:∀w':World,w'.heap=w.heap->(Builtin.firstCells i.size xs.length (.slice (some ⟨b,0,none⟩) xs.length cap)).run P w' = .ok (row.toList.take (xs.length*i.size)).toArray w':=fun w' hw'=>by
      have:=gW (P:=P) (w:=w') b 0 (xs.length*i.size) (fun p=>(row[p]?).getD undef) fun p hp=>by
       simp only[World.cell?,hw',l6,Nat.zero_add];rw[Array.getElem?_eq_getElem (show p<row.size by omega)]; rfl
      simp only[Builtin.firstCells];rw[this];congr 2;apply List.ext_getElem?;intro p;rw[List.getElem?_map,List.getElem?_take];rcases Nat.lt_or_ge p (xs.length*i.size) with h|h
      ·rw[List.getElem?_range h,if_pos h];simp[Array.getElem?_eq_getElem (show p<row.size by omega)]
      ·rw[if_neg (by omega),List.getElem?_eq_none (by simpa using h)]; rfl
     obtain⟨newCap,row',w',g1,g2,q,g3,g4,g5,g6⟩:=grow (some ⟨b,0,none⟩) xs.length cap _ m hfc hm0 hlt hroom;have htk:(row.toList.take (xs.length*i.size)).length=xs.length*i.size:=by simp; omega
     refine⟨_,w',.inl ?_,key _ w' (.inr ⟨newCap,row',e,g1,rfl,q,g3,g4,?_,fun p hp=>g6 p (by rw[htk,<-Nat.add_mul]; exact hp)⟩)⟩
     ·rw[hexec _ rfl,hk2,l4,happ,g2]; rfl
     ·rw[g5,htk,<-Nat.add_mul,<-Nat.add_mul,Nat.add_sub_cancel' g1];exact Nat.le_refl _
    ·have hfit:xs.length*i.size+(Builtin.zeroCells zv.cells m).toList.length<=row.size:=by
      rw[<-p1.1,c9 p2,hlr,<-Nat.add_mul]; exact Nat.le_trans (Nat.mul_le_mul_right _ hge) l7
     have hst:=fL (P:=P) (Builtin.zeroCells zv.cells m).toList w (xs.length*i.size) 0 row l6 (by omega) p3
     refine⟨_,_,.inl ?_,key _ _ (.inl ⟨hge,rfl,rfl⟩)⟩
     have hwm:IntKind.i64.wrap (m:Int)=m:=by
      have:m*i.bytes<=2 ^ 44:=Nat.le_trans (Nat.mul_le_mul_right _ (by omega)) hroom
      have:m<=2 ^ 44:=Nat.le_trans (Nat.le_mul_of_pos_right _ c3) this;rw[IntKind.wrap_i64]; omega
     have hneg:¬((m:Int)<0):=by omega
     have hns:¬(m*i.size=0):=Nat.mul_ne_zero (by omega) (by omega)
     have h48:¬(281474976710656<(m:Int)*(i.bytes:Int)):=by
      have:m*i.bytes<=2 ^ 44:=Nat.le_trans (Nat.mul_le_mul_right _ (by omega)) hroom
      rw[<-Int.natCast_mul]; omega
     rw[hexec _ rfl,hk2,l4,happ];have hadd:(⟨b,0,none⟩:Addr).add (xs.length*i.size)=⟨b,xs.length*i.size,none⟩:=by simp[fe]
     simp only[Nat.add_zero] at hst
     have hap:(Builtin.append_ #[t,t'] o.type #[.slice (some ⟨b,0,none⟩) xs.length cap,.int kn (m:Int)]).run P w = .ok (.slice (some ⟨b,0,none⟩) (xs.length+m) cap) (gR w b (xs.length*i.size) (Builtin.zeroCells zv.cells m).toList):=by
      simp[Builtin.append_,bu hs,bu hs',hsz,asInt,asIntOf,hwm,typeInfo,hi,hneg,h48,hns,zeroValue,hzv,hge,hadd,hst]
     rw[hap]; rfl
  ·cases h
 ·cases h
def IQ(hr:Rel j M w){id sz ver:Nat}{ys:List ae}(hM:M[id]?=some (.arr sz ver []))(hwy:wid ys sz){us:List Value}(hrl:RL w (fY j M w) (dR ys) us){v:Value}{w':World}{c':Nat}{row':Array Value}{e:TypeId}
  (h1:ys.length<=c') (hv:v = .slice (some ⟨w.heap.size,0,none⟩) ys.length c') (q:Quiet w w') (hb:∀b,b<w.heap.size->w'.heap[b]?=w.heap[b]?) (hn:w'.heap[w.heap.size]?=some (.cells row' e (0,0))) (hs:c'*sz<=row'.size) (hp:∀p,p<us.length->row'[p]?=us[p]?) :
  dn j M w (.aW id (ver+1) sz 0 ys.length,M.set id (.arr sz (ver+1) ys)) v w':=by
 subst hv;have hid:=aq hM;have hrel:=Rel.mu (ver':=ver+1) hM hr q hb (Nat.le_refl _) (lt_of_block hn) (by simp) (fun j' M' hx=>fg hn hwy (hrl.mono hx.cV) hp)
 have hext:=Ext.mu (j:=j) (ver':=ver+1) (xs':=ys) hM q hb (Nat.le_refl _) (by simp)
 refine⟨_,hrel,hext,.aW (.inl ⟨w.heap.size,0,c',by rw[Nat.sub_zero],by omega⟩) (by simpa using hid) (fun bx hbx=>by rw[br hid] at hbx; cases hbx; rfl) fun sz' v' zs hx=>?_⟩
 rw[br hid] at hx; injection hx with hx; injection hx with e1 e2 e3
 subst e1; subst e2; subst e3;exact⟨Nat.le_refl _,fun _=>⟨rfl,Nat.zero_le _,Nat.le_refl _,.inr ⟨w.heap.size,c',row',e,by simp[cH],by simp,by omega,hn,by rw[Nat.zero_add]; omega⟩⟩⟩
theorem yC(hr:Rel j M w)(he:aN j M w env a){c:Call}{y y':Operand}{z z':cR}{t t' e e':TypeId}{i:TypeInfo}{zv:Value}(hop:o.op = .call c)(hb:c.callee = .builtin .append)(ha:c.args.toList=[y,y'])
  (hat:c.argTypes = #[t,t']) (hs:P.underlying t=some (.slice e)) (hs':P.underlying t'=some (.slice e')) (hi:P.info? e=some i) (hz:i.zero=some zv) (hzs:zv.cells.size=i.size) (hpos:0<i.size) (hb0:0<i.bytes) (hb1:i.bytes<=2 ^ 20)
  (hzy:bH y=some z) (hzy':bH y'=some z') (h:bC C env M (.append i.size i.bytes z z')=some x):∃v w',ju P o a w v w'/\dn j M w x v w':=by
 by_cases hna:∀id ver sz lo hi,z.ev env ≠ .aW id ver sz lo hi
 ·exact Ee hr he hop hb ha hat hs hs' hi hz hzs hpos hb0 hb1 hzy hzy' h hna
 ·have hna':∃id ver sz lo hi,z.ev env = .aW id ver sz lo hi:=by
   grind
  obtain⟨id,ver,sz',lo,hi0,ez⟩:=hna';have r1:=aZ he hzy;have r2:=aZ he hzy';simp only[bC] at h;split at h
  ·rename_i ez' _;rw[ez] at ez'; cases ez'
  ·rename_i id' ver' szz lo' hi' tk ys ez1 ez2;rw[ez] at ez1; injection ez1 with q1 q2 q3 q4 q5
   subst q1; subst q2; subst q3; subst q4; subst q5;rw[ez] at r1; rw[ez2] at r2;rw[cf] at h;split at h
   ·rename_i sz0 v0 xs hM;obtain⟨⟨d1,d2,d3,d4,hroom,hwx,hwy,hyl⟩,h⟩:=bd h;have hne:ys≠[]:=List.ne_nil_of_length_pos hyl;injection h with h
    subst h; subst d1; subst d2; subst d3; subst d4;rw[cG];have ha':c.args = #[y,y']:=by rw[<-ha]
    have hexec:∀r,(Builtin.append_ #[t,t'] o.type #[a.eval y,a.eval y']).run P w=r->(execOp a.eval o).run P w=r.andThen fun v w' => .ok (.value v) w':=by
     intro r hr';simp[execOp,hop,resolve,hb,invoke,builtin,ha',hat,hr']
    obtain⟨B,cap2,hv2,hcap2,hsr⟩:=fW r2.bw hwy;obtain⟨b2,off2,rfl,us,hrl,hul,hone,hcell⟩:=hsr.resolve_left hne
    have hfc:∀w':World,w'.heap=w.heap->(Builtin.firstCells i.size ys.length (a.eval y')).run P w' = .ok us.toArray w':=fun w' hw'=>by
     have:=gW (P:=P) (w:=w') b2 off2 (ys.length*i.size) (fun p=>(us[p]?).getD undef) fun p hp=>by
      have h1:=(hcell p _ (List.getElem?_eq_getElem (by omega))).1
      grind [World.cell?,List.getElem?_eq_getElem]
     rw[hv2];simp only[Builtin.firstCells];rw[this];congr 2;apply List.ext_getElem?
     grind
    have hlen:∀w':World,(Builtin.lenOf (a.eval y')).run P w' = .ok ys.length w':=fun w'=>by rw[hv2]; rfl
    obtain⟨_,hid,_,g⟩:=r1.gw;obtain⟨e1,_,_,⟨hx,hj0,A,hvA⟩|⟨b,cap,row,t0,l3,l4,l5,l6,l7⟩⟩:=(g sz0 v0 xs hM).2 rfl
    ·subst hx;subst e1
     have hA0:∀w':World,w'.heap=w.heap->(Builtin.firstCells i.size 0 (.slice A 0 0)).run P w' = .ok #[] w':=fun w' _=>by
      cases A<;>simp[Builtin.firstCells,loadCells,loadCellsFrom]
     obtain⟨_,A2⟩:=kZ (P:=P) (w:=w) hs hs' (fun k h=>by cases h) hi hz hb0 hb1 o.type (base:=A) (n:=0) (cap:=0) (m:=ys.length) hlen hA0 hfc (by simpa[aP] using hroom)
     obtain⟨newCap,rest,h1,h2,h3⟩:=A2 (by omega)
     obtain⟨q,hbk,dw⟩:=ig (w:=w) (.cells (#[]++us.toArray++rest) e (0,0));rw[<-hvA] at h3;refine⟨_,_,.inl (by rw[hexec _ h3]; rfl),?_⟩
     have:=IQ (c':=newCap) (e:=e) (v := .slice (some ⟨w.heap.size,0,none⟩) (0+ys.length) newCap) (w':={ w with heap:=w.heap.push (.cells (#[]++us.toArray++rest) e (0,0)),drawn:=w.drawn+1 }) hr hM hwy hrl (by omega) (by rw[Nat.zero_add]) ⟨q.size,rfl,rfl,rfl⟩ hbk dw (by
      simp only[Array.size_append,List.size_toArray,h2,hzs,hul,List.length_nil];rw[Nat.zero_add,Nat.zero_add,<-Nat.add_mul];exact Nat.mul_le_mul_right _ (by omega)) (fun p hp=>by
      rw[Array.getElem?_append_left (by simpa using hp)]; simp)
     simpa using this
    ·subst e1;rw[Nat.sub_zero] at l4 l5;rw[Nat.zero_mul] at l4;rw[Nat.zero_add] at l7;obtain⟨b',row0,t',k1,k2,k3,k4,k5⟩:=hr.rI hM l3;rw[l3] at k1; cases k1;rw[l6] at k2; injection k2 with k2; injection k2 with k2 k2'
     subst k2; subst k2';have key:=fun v w' hq=>EG (v:=v) (w':=w') hr hM l3 l6 l5 l7 k4 hwy hne hrl hq
     have hfx:∀w':World,w'.heap=w.heap->(Builtin.firstCells i.size xs.length (.slice (some ⟨b,0,none⟩) xs.length cap)).run P w' = .ok (row.toList.take (xs.length*i.size)).toArray w':=fun w' hw'=>by
      have:=gW (P:=P) (w:=w') b 0 (xs.length*i.size) (fun p=>(row[p]?).getD undef) fun p hp=>by
       simp only[World.cell?,hw',l6,Nat.zero_add];rw[Array.getElem?_eq_getElem (show p<row.size by omega)]; rfl
      simp only[Builtin.firstCells];rw[this];congr 2;apply List.ext_getElem?;intro p;rw[List.getElem?_map,List.getElem?_take]
      grind
     obtain⟨A1,A2⟩:=kZ (P:=P) (w:=w) hs hs' (fun k h=>by cases h) hi hz hb0 hb1 o.type (base:=some ⟨b,0,none⟩) (n:=xs.length) (cap:=cap) (m:=ys.length) hlen hfx hfc (by simpa[aP] using hroom)
     rcases Nat.lt_or_ge cap (xs.length+ys.length) with hlt|hge
     ·obtain⟨newCap,rest,h1,h2,h3⟩:=A2 hlt;obtain⟨q,hbk,dw⟩:=ig (w:=w) (.cells ((row.toList.take (xs.length*i.size)).toArray++us.toArray++rest) e (0,0));have htk:(row.toList.take (xs.length*i.size)).length=xs.length*i.size:=by simp; omega
      rw[<-l4] at h3;refine⟨_,{ w with heap:=w.heap.push (.cells ((row.toList.take (xs.length*i.size)).toArray++us.toArray++rest) e (0,0)),drawn:=w.drawn+1 },.inl (by rw[hexec _ h3]; rfl),key _ _ (.inr ⟨newCap,_,e,h1,rfl,⟨q.size,rfl,rfl,rfl⟩,hbk,dw,?_,fun p hp=>?_⟩)⟩
      ·simp only[Array.size_append,List.size_toArray,h2,hzs,hul,htk];rw[<-Nat.add_mul,<-Nat.add_mul];exact Nat.mul_le_mul_right _ (by omega)
      ·rw[Array.getElem?_append_left (by simp only[Array.size_append,List.size_toArray,hul,htk]; rw[<-Nat.add_mul]; exact hp)]
       simp[List.getElem?_append]
     ·have hfit:xs.length*i.size+0+us.length<=row.size:=by
       rw[hul,Nat.add_zero,<-Nat.add_mul]; exact Nat.le_trans (Nat.mul_le_mul_right _ hge) l7
      have hst:=fL (P:=P) us w (xs.length*i.size) 0 row l6 hfit hone;simp only[Nat.add_zero] at hst;have hadd:(⟨b,0,none⟩:Addr).add (xs.length*i.size)=⟨b,xs.length*i.size,none⟩:=by simp[fe]
      have h3:=A1 hge (gR w b (xs.length*i.size) us) (by
       grind)
      rw[<-l4] at h3;exact⟨_,_,.inl (by rw[hexec _ h3]; rfl),key _ _ (.inl ⟨hge,rfl,rfl⟩)⟩
   ·cases h
  ·cases h
theorem Ed(hr:Rel j M w)(he:aN j M w env a){c:Call}{y y':Operand}{z z':cR}{t t' e e':TypeId}{i:TypeInfo}{zv:Value}(hop:o.op = .call c)(hb:c.callee = .builtin .append)(ha:c.args.toList=[y,y'])
  (hat:c.argTypes = #[t,t']) (hs:P.underlying t=some (.slice e)) (hs':P.underlying t'=some (.slice e')) (hi:P.info? e=some i) (hz:i.zero=some zv) (hzs:zv.cells.size=i.size) (hpos:0<i.size) (hb0:0<i.bytes) (hb1:i.bytes<=2 ^ 20)
  (hzy:bH y=some z) (hzy':bH y'=some z') (h:bC C env M (.nD i.size i.bytes z z')=some x):∃v w',ju P o a w v w'/\dn j M w x v w':=by
 simp only[bC] at h;have r1:=aZ he hzy;have r2:=aZ he hzy';split at h
 ·rename_i tk ys ez ez';obtain⟨⟨hroom,hwy⟩,h⟩:=bd h;cases h;rw[ez] at r1;rw[ez'] at r2;obtain⟨A,hv⟩:=r1.vS;have ha':c.args = #[y,y']:=by rw[<-ha]
  have hexec:∀r,(Builtin.append_ #[t,t'] o.type #[a.eval y,a.eval y']).run P w=r->(execOp a.eval o).run P w=r.andThen fun v w' => .ok (.value v) w':=by
   simp_all [execOp,resolve,invoke,builtin]
  have hA0:∀w':World,w'.heap=w.heap->(Builtin.firstCells i.size 0 (.slice A 0 0)).run P w' = .ok #[] w':=fun w' _=>by
   cases A<;>simp[Builtin.firstCells,loadCells,loadCellsFrom]
  obtain⟨B,cap2,hv2,hcap2,hsr⟩:=fW r2.bw hwy;have hlen:∀w':World,(Builtin.lenOf (a.eval y')).run P w' = .ok ys.length w':=fun w'=>by rw[hv2]; rfl
  rcases Nat.eq_zero_or_pos ys.length with h0|h0
  ·have hnil:ys=[]:=List.eq_nil_of_length_eq_zero h0;subst hnil
   have hfc:∀w':World,w'.heap=w.heap->(Builtin.firstCells i.size 0 (a.eval y')).run P w' = .ok (#[]:Array Value) w':=fun w' _=>by
    rw[hv2]; cases B<;>simp[Builtin.firstCells,loadCells,loadCellsFrom]
   obtain⟨A1,_⟩:=kZ (P:=P) (w:=w) hs hs' (fun k h=>by cases h) hi hz hb0 hb1 o.type (base:=A) (n:=0) (cap:=0) (m:=0) hlen hA0 hfc (by simp[])
   have h3:=A1 (Nat.le_refl _) w (by cases A<;>simp[storeCells])
   rw[<-hv] at h3;have q:Quiet w w:=⟨Nat.le_refl _,rfl,rfl,rfl⟩;have g1:Rel (cH j M.length none) (M++[.arr i.size 0 []]) w:=hr.push (ob:=none) (bx := .arr i.size 0 []) (fun b h=>by cases h) q (fun _ _=>rfl) (fun h=>by cases h) (fun sz n b h h'=>by cases h') (fun sz ver xs h=>by injection h with e1 e2 e3; exact .inl ⟨e3.symm,rfl⟩)
   have g2:Ext j M w (cH j M.length none) (M++[.arr i.size 0 []]) w:=Ext.push (fun b h=>by cases h) q (fun _ _=>rfl)
   refine⟨a.eval y,w,.inl (by rw[hexec _ h3]; rfl),cH j M.length none,g1,g2,?_⟩
   rw[hv];refine .aW (.inr ⟨rfl,A,rfl⟩) (by simp) (fun bx hbx=>by rw[ft] at hbx; cases hbx; rfl) fun sz' v' zs hx=>?_
   rw[ft] at hx; injection hx with hx; injection hx with e1 e2 e3
   subst e1; subst e2; subst e3;exact⟨Nat.le_refl _,fun _=>⟨rfl,Nat.le_refl _,Nat.le_refl _,.inl ⟨rfl,by simp[cH],A,rfl⟩⟩⟩
  ·have hne:ys≠[]:=List.ne_nil_of_length_pos h0;obtain⟨b2,off2,rfl,us,hrl,hul,hone,hcell⟩:=hsr.resolve_left hne
   have hfc:∀w':World,w'.heap=w.heap->(Builtin.firstCells i.size ys.length (a.eval y')).run P w' = .ok us.toArray w':=fun w' hw'=>by
    have:=gW (P:=P) (w:=w') b2 off2 (ys.length*i.size) (fun p=>(us[p]?).getD undef) fun p hp=>by
     have h1:=(hcell p _ (List.getElem?_eq_getElem (by omega))).1
     grind [World.cell?,List.getElem?_eq_getElem]
    rw[hv2];simp only[Builtin.firstCells];rw[this];congr 2;apply List.ext_getElem?
    grind
   obtain⟨_,A2⟩:=kZ (P:=P) (w:=w) hs hs' (fun k h=>by cases h) hi hz hb0 hb1 o.type (base:=A) (n:=0) (cap:=0) (m:=ys.length) hlen hA0 hfc (by simpa[aP] using hroom)
   obtain⟨newCap,rest,h1,h2,h3⟩:=A2 (by omega)
   obtain⟨q,hbk,dw⟩:=ig (w:=w) (.cells (#[]++us.toArray++rest) e (0,0));rw[<-hv] at h3;have q':Quiet w { w with heap:=w.heap.push (.cells (#[]++us.toArray++rest) e (0,0)),drawn:=w.drawn+1 }:=⟨q.size,rfl,rfl,rfl⟩
   have hob:∀b,some w.heap.size=some b->w.heap.size<=b/\b<({ w with heap:=w.heap.push (.cells (#[]++us.toArray++rest) e (0,0)),drawn:=w.drawn+1 }:World).heap.size:=fun b h=>by cases h; exact⟨Nat.le_refl _,lt_of_block dw⟩
   have hpf:∀p,p<us.length->(#[]++us.toArray++rest)[p]?=us[p]?:=fun p hp=>by
    rw[Array.getElem?_append_left (by simpa using hp)]; simp
   have hat:∀j' M',Ext j M w j' M' { w with heap:=w.heap.push (.cells (#[]++us.toArray++rest) e (0,0)),drawn:=w.drawn+1 }->xJ j' M' { w with heap:=w.heap.push (.cells (#[]++us.toArray++rest) e (0,0)),drawn:=w.drawn+1 } w.heap.size i.size ys:=fun j' M' hx=>fg dw hwy (hrl.mono hx.cV) hpf
   have hsz:newCap*i.size<=(#[]++us.toArray++rest).size:=by
    simp only[Array.size_append,List.size_toArray,h2,hzs,hul,List.length_nil];rw[Nat.zero_add,Nat.zero_add,<-Nat.add_mul];exact Nat.mul_le_mul_right _ (by omega)
   refine⟨_,_,.inl (by rw[hexec _ h3]; rfl),cH j M.length (some w.heap.size),hr.push hob q' hbk (fun h=>by cases h) (fun sz n b h _=>by cases h) (fun sz0 v0 xs0 he=>?_),Ext.push (fun b h=>(hob b h).1) q' hbk,?_⟩
   ·injection he with e1 e2 e3
    subst e1; subst e2; subst e3;refine .inr ⟨w.heap.size,_,e,rfl,dw,?_,hwy,fun j' M' hx q x k c hx' hk=>?_⟩
    ·exact Nat.le_trans (Nat.mul_le_mul_right _ (by omega)) hsz
    ·obtain⟨vs,t,a1,a2,a3,a4⟩:=hat j' M' hx;rw[dw] at a1; injection a1 with a1; injection a1 with a1 a1'
     subst a1;exact a4 q x k c hx' hk
   ·rw[Nat.zero_add];refine .aW (.inl ⟨w.heap.size,0,newCap,by rw[Nat.sub_zero],by omega⟩) (by simp) (fun bx hbx=>by rw[ft] at hbx; cases hbx; rfl) fun sz' v' xs hx=>?_
    rw[ft] at hx; injection hx with hx; injection hx with e1 e2 e3
    subst e1; subst e2; subst e3;exact⟨Nat.le_refl _,fun _=>⟨rfl,Nat.zero_le _,Nat.le_refl _,.inr ⟨w.heap.size,newCap,_,e,by simp[cH],by simp,by omega,dw,by rw[Nat.zero_add]; exact hsz⟩⟩⟩
 ·cases h
def O4(hr:Rel j M w)(he:aN j M w env a){c:Call}{y y':Operand}{z z':cR}{t t' e e':TypeId}{n:Nat}(hop:o.op = .call c)(hb:c.callee = .builtin .copy)(ha:c.args.toList=[y,y'])
  (hat:c.argTypes.toList=[t,t']) (hs:P.underlying t=some (.slice e)) (hs':P.underlying t'=some (.slice e')) (hn:iQ P e=some n) (hpos:0<n)
  (hz:bH y=some z) (hz':bH y'=some z') (h:bC C env M (.xU n z z')=some x):∃v w',ju P o a w v w'/\dn j M w x v w':=by
 simp only[bC] at h;have r1:=aZ he hz;have r2:=aZ he hz';have ha':c.args = #[y,y']:=by rw[<-ha]
 have hat':c.argTypes = #[t,t']:=by rw[<-hat]
 have hexec:∀r,(Builtin.copy_ #[t,t'] o.type #[a.eval y,a.eval y']).run P w=r->(execOp a.eval o).run P w=r.andThen fun v w' => .ok (.value v) w':=by
  intro r hr';simp[execOp,hop,resolve,hb,invoke,builtin,ha',hat',hr']
 have hsz:(sizeOf e).run P w = .ok n w:=dz hn;split at h
 ·rename_i tk ys ex ey;rw[ex] at r1; rw[ey] at r2;obtain⟨hwy,h⟩:=bd h;cases h;obtain⟨B,cap2,hv2,_,_⟩:=fW r2.bw hwy;obtain⟨A,cap,hv,_,_⟩:=fW (size:=n) r1.bw (fun y hy=>by cases hy)
  refine⟨.int .i64 0,w,.inl ?_,.still hr (.plain (.int _ _))⟩;rw[hexec _ rfl,hv,hv2];cases A<;>cases B<;>simp[Builtin.copy_,bu hs,hsz,Builtin.lenOf,Builtin.firstCells,loadCells,loadCellsFrom,storeCells,goInt,Result.andThen]
 ·rename_i id ver sz' lo hi0 tk ys ex ey;rw[ex] at r1; rw[ey] at r2;rw[cf] at h;split at h
  ·rename_i sz0 v0 xs hM;obtain⟨⟨d1,d2,hwy,hne0⟩,h9⟩:=bd h;injection h9 with h9
   subst h9; subst d1; subst d2;obtain⟨_,hid,_,g⟩:=r1.gw;obtain⟨e1,l1,l2,⟨hx,_⟩|⟨b,cap,row,t0,l3,l4,l5,l6,l7⟩⟩:=(g sz0 v0 xs hM).2 rfl
   ·exact absurd hne0 (by rw[hx]; simp)
   subst e1;obtain⟨b',row0,t',k1,k2,k3,k4,k5⟩:=hr.rI hM l3;rw[l3] at k1; cases k1;rw[l6] at k2; injection k2 with k2; injection k2 with k2 k2'
   subst k2; subst k2';obtain⟨B,cap2,hv2,hcap2,hsr⟩:=fW r2.bw hwy;generalize hm:min ys.length (hi0-lo)=m;have hm1:m<=ys.length:=by omega
   have hm2:m<=hi0-lo:=by omega
   -- what is copied
   obtain⟨us,hul,hrl,hone,hfc⟩:∃us:List Value,us.length=m*sz0/\RL w (fY j M w) (dR (ys.take m)) us/\(∀u,u∈us->u.oneCell'=true)/\(Builtin.firstCells sz0 m (.slice B ys.length cap2)).run P w = .ok us.toArray w:=by
    rcases hsr with rfl|⟨b2,off2,rfl,us,hrl,hul,hone,hcell⟩
    ·have:m=0:=by simpa using hm1
     subst this;refine⟨[],by simp,⟨rfl,fun p c v h=>by simp[dR] at h⟩,fun u hu=>by (cases hu),?_⟩
     cases B<;>simp[Builtin.firstCells,loadCells,loadCellsFrom]
    ·have hle:m*sz0<=us.length:=by rw[hul]; exact Nat.mul_le_mul_right _ hm1
     refine⟨us.take (m*sz0),by simp; omega,by rw[jG m hwy]; exact hrl.take _,fun u hu=>hone u (List.mem_of_mem_take hu),?_⟩
     have:=gW (P:=P) (w:=w) b2 off2 (m*sz0) (fun p=>(us[p]?).getD undef) fun p hp=>by
      rw[(hcell p _ (List.getElem?_eq_getElem (by omega))).1,List.getElem?_eq_getElem (show p<us.length by omega)]; rfl
     simp only[Builtin.firstCells];rw[this];congr 2;apply List.ext_getElem?;intro p;rw[List.getElem?_map,List.getElem?_take];rcases Nat.lt_or_ge p (m*sz0) with h|h
     ·rw[List.getElem?_range h,if_pos h];simp[List.getElem?_eq_getElem (show p<us.length by omega)]
     ·rw[if_neg (by omega),List.getElem?_eq_none (by simpa using h)]; rfl
   have hrow:=pv (b:=b) k3 k4 k5;have hbd:lo*sz0+m*sz0<=xs.length*sz0:=by rw[<-Nat.add_mul]; exact Nat.mul_le_mul_right _ (by omega)
   have hfit:lo*sz0+us.length<=row.size:=by rw[hul]; omega
   have hst:=fL (P:=P) us w (lo*sz0) 0 row l6 (by omega) hone
   obtain⟨s1,s2,s3,s4,s5,row2,s6,s7,s8,s9⟩:=fc (t:=t0) us w (lo*sz0) row l6 hfit;have hwd':wid (xs.take lo++(ys.take m++xs.drop (lo+m))) sz0:=fM (nw k4) (fM (nw hwy) (nv k4))
   have dw:RL w (fY j M w) (dR (xs.take lo++(ys.take m++xs.drop (lo+m)))) ((row.toList.take (xs.length*sz0)).take (lo*sz0)++(us++(row.toList.take (xs.length*sz0)).drop ((lo+m)*sz0))):=by
    rw[gk,gk,jG lo k4,lq (lo+m) k4];exact(hrow.take _).append (hrl.append (hrow.drop _))
   have hll:(xs.take lo++(ys.take m++xs.drop (lo+m))).length=xs.length:=by simp; omega
   have hmm:(lo+m)*sz0=lo*sz0+m*sz0:=Nat.add_mul ..
   have hput:=pt (ver':=v0) (xs':=xs.take lo++(ys.take m++xs.drop (lo+m))) hr hM l3 (w':=gR w b (lo*sz0) us) ⟨by omega,s2,s3,s4⟩ (fun b' hb' _=>s5 b' hb') l6 s6 s7 (Nat.le_refl _) (fun _=>hll) hwd' dw (fun p hp=>by
    have hp':p<xs.length*sz0:=by
     rw[<-dw.1,c9 hwd',hll] at hp; exact hp
    have htk:(List.take (lo*sz0) (row.toList.take (xs.length*sz0))).length=lo*sz0:=by simp; omega
    rcases Nat.lt_or_ge p (lo*sz0) with q1|q1
    ·rw[s8 p (.inl q1),List.getElem?_append_left (by rw[htk]; exact q1),List.getElem?_take_of_lt q1,List.getElem?_take_of_lt hp']; simp
    ·rw[List.getElem?_append_right (by rw[htk]; exact q1),htk]
     rcases Nat.lt_or_ge p (lo*sz0+m*sz0) with q2|q2
     ·rw[List.getElem?_append_left (by rw[hul]; omega)]
      have:=s9 (p-lo*sz0) (by rw[hul]; omega)
      rw[Nat.add_sub_cancel' q1] at this;exact this
     ·rw[List.getElem?_append_right (by rw[hul]; omega),s8 p (.inr (by rw[hul]; omega)),List.getElem?_drop,hul,hmm,show lo*sz0+m*sz0+(p-lo*sz0-m*sz0)=p by omega,List.getElem?_take_of_lt hp']; simp)
   rw[cG];refine⟨.int .i64 (m:Int),gR w b (lo*sz0) us,.inl ?_,j,hput.1,hput.2,.plain (.int _ _)⟩;rw[hexec _ rfl,l4,hv2];have hmin:Nat.min ys.length (hi0-lo)=m:=hm;simp only[Nat.add_zero] at hst;simp[Builtin.copy_,bu hs,hsz,Builtin.lenOf,hmin,hfc,hst,goInt,Result.andThen]
  ·cases h
 ·cases h
def TA(hr:Rel j M w){t:TypeId}{i:TypeInfo}{zv:Value}{n:Nat}(hop:o.op = .alloc t)(hi:P.info? t=some i)(hzv:i.zero=some zv)(hl:kv zv.cells.toList=some [.slice .c0 []])
  (h:bC C env M (.Gv n)=some x):∃v w',ju P o a w v w'/\dn j M w x v w':=by
 simp only[bC] at h;cases h;have q:Quiet w w:=⟨Nat.le_refl _,rfl,rfl,rfl⟩;have h1:Rel (cH j M.length none) (M++[.arr n 0 []]) w:=hr.push (ob:=none) (bx := .arr n 0 []) (fun b h=>by cases h) q (fun _ _=>rfl) (fun h=>by cases h) (fun sz n b h h'=>by cases h') (fun sz ver xs h=>by injection h with e1 e2 e3; exact .inl ⟨e3.symm,rfl⟩)
 have h2:Ext j M w (cH j M.length none) (M++[.arr n 0 []]) w:=Ext.push (fun b h=>by cases h) q (fun _ _=>rfl)
 obtain⟨k1,k2⟩:=iz (j:=cH j M.length none) (M:=M++[.arr n 0 []]) (w:=w) hl;have hs1:zv.cells.size=1:=by simpa using k1.symm
 have hv0:∃A,zv.cells[0]?=some (.slice A 0 0):=by
  have hv:=Array.getElem?_eq_getElem (show 0<zv.cells.size by omega)
  obtain⟨A,hA⟩:=(k2 0 _ (zv.cells[0]'(by omega)) rfl (by simp)).vS
  exact⟨A,by rw[hv,hA]⟩
 obtain⟨A,hA⟩:=hv0
 have hrc:RC (cH j M.length none) (M++[.arr n 0 []]) w [.aW M.length 0 n 0 0] zv.cells:=by
  refine⟨by simp[hs1],fun p c v hc hv=>?_⟩
  cases p with
  |zero =>
   simp at hc; subst hc;rw[hA] at hv; cases hv;refine .aW (.inr ⟨rfl,A,rfl⟩) (by simp) (fun bx hbx=>by rw[ft] at hbx; cases hbx; rfl) fun sz' v' zs hx=>?_
   rw[ft] at hx; injection hx with hx; injection hx with e1 e2 e3
   subst e1; subst e2; subst e3;exact⟨Nat.le_refl _,fun _=>⟨rfl,Nat.le_refl _,Nat.le_refl _,.inl ⟨rfl,by simp[cH],A,rfl⟩⟩⟩
  |succ p=>simp at hc
 obtain⟨j',g1,g2,g3⟩:=zP h1 hrc t;refine⟨_,_,.inl (show(execOp a.eval o).run P w = .ok (.value (.pointer (some ⟨w.heap.size,0,none⟩))) { w with heap:=w.heap.push (.cells zv.cells t (0,0)) } by simp[execOp,hop,Instr.alloc,zeroValue,gZ hi,hzv,newVar,newRow]),j',?_,?_,?_⟩
 ·simpa using g1
 ·simpa using h2.trans g2
 ·simpa using g3
end
section
variable {P:Program} {C:bL} {own:List Nat} {o:Oper} {ao:eu} {env:Env} {M:aj} {j:J} {w:World} {a:Act} {x:ae×aj}
def kY(P:Program)(o:Oper)(a:Act)(w:World)(K:Act->World->Prop)(KP:Value->World->Prop):Prop :=
 (∃v w',ju P o a w v w'/\K (a.put o.dst v) w')\/(∃f us,(execOp a.eval o).run P w = .ok (.enter f us) w/\Calls P f us w fun e w'=>(∃v,e = .returned v/\K (a.put o.dst v) w')\/∃u,e = .panicked [{ v:=u,recovered:=false }]/\KP u w') \/
  ∃u,(execOp a.eval o).run P w = .halt (.panic u) w/\KP u w
def bF{K:Act->World->Prop}{KP:Value->World->Prop}(h:∃v w',ju P o a w v w'/\dn j M w x v w')(hK:∀v w',dn j M w x v w'->K (a.put o.dst v) w'):kY P o a w K KP:=by
 obtain⟨v,w',h1,h2⟩:=h;exact .inl ⟨v,w',h1,hK v _ h2⟩
def pS{K:Act->World->Prop}{KP:Value->World->Prop}{f:Nat}{us:Array Value}(hrun:(execOp a.eval o).run P w = .ok (.enter f us) w)
  (h:Calls P f us w fun e w'=>nB j M w x e w') (hK:∀v w',dn j M w x v w'->K (a.put o.dst v) w') (hP:∀u w',Aq j M w x u w'->KP u w'):kY P o a w K KP :=
 .inr (.inl ⟨f,us,hrun,h.mono fun e w' he=>he.imp (fun⟨v,he,hv⟩=>⟨v,he,hK v _ hv⟩) fun⟨u,he,hu⟩=>⟨u,he,hP u _ hu⟩⟩)
def Wd(r:Option Nat):Fence:={ Fence.wide with round:=r }
def Df{r:Option Nat}{n f:Nat}{args:Array Value}{R:Ending->World->Prop}(h:Calls P f args w R):CallsIn (Wd r) n P f args w R:=by
 cases r with
 |none=>exact callsIn_wide.2 h
 |some l=>exact CallsIn.inRound l (callsIn_wide.2 h)
theorem kY.wpIn{K:Act->World->Prop}{KP:Value->World->Prop}{Q:Exit->Act->World->Prop}{r:Option Nat}{n:Nat}(hd:∀c,o.op ≠ .defer c)(h:kY P o a w K KP)
  (hQ:∀u w',KP u w'->Q (.panic [{ v:=u,recovered:=false }]) a w'):o.wpIn (Wd r) n P a w K Q:=by
 refine⟨fun _ _=>trivial,?_⟩
 rw[Oper.semAt_eq _ _ _ hd];rcases h with ⟨v,w',h1|⟨h1,rfl⟩,h2⟩|⟨f,us,h1,h2⟩|⟨u,h1,h2⟩
 ·rw[h1]; exact h2
 ·rw[h1]; exact h2
 ·rw[h1];refine⟨fun h=>(by cases h),Df (h2.mono ?_)⟩
  grind
 ·rw[h1]; exact hQ u w h2
def sm(ho:Ie P own o=some ao):∀c,o.op ≠ .defer c:=by
 intro c h;simp_all [Ie]
theorem jF{f:Nat}(h:fz P f=true)(us:Array Value):(callFunc f us).run P w = .ok (.enter f us) w:=by
 unfold fz at h;split at h
 ·rename_i fn hfn;have h1:fn.name ≠ "runtime.NumGoroutine" := by grind
  have h2:¬fn.body=none:=by grind
  simp[callFunc,hfn,h1,h2]
 ·cases h
theorem cC.shut{c:ae}{v:Value}(h:cC j M w c v):cC j M w c.shut v:=by
 cases c<;>first|exact h|exact .plain h.bw
theorem cC.cu{c:ae}{v:Value}(h:cC j M w c v):cC j M w c.cu v:=by
 cases c<;>first|exact h|exact .plain h.bw|skip
 obtain⟨vs,rfl,hl,hc⟩:=h.fB;refine .agg (by grind) fun i c u hi hu=>?_
 rw[List.getElem?_map,Option.map_eq_some_iff] at hi;obtain⟨c0,hc0,rfl⟩:=hi;exact(hc i _ u hc0 hu).shut
theorem Gy{c:Call}{f0 f:Nat}{l:List cR}(hop:o.op = .call c)(hcal:c.callee = .value (.func f0))(h:Ie P own o=some (.nW f l)):f0=f/\fz P f=true/\mQ c.args.toList=some l:=by
 simp only[Ie,hop,IY,hcal] at h;split at h
 ·obtain⟨l',hl,h⟩:=aw h
  grind
 grind
theorem qU(hC:im P C){c:Call}{f0 f:Nat}{l:List cR}(hop:o.op = .call c)(hcal:c.callee = .value (.func f0))(ho:Ie P own o=some (.nW f l)){M0:aj}(h:bC C env M0 (.nW f l)=some x) :
  ∃xs sz n,x=(.slice (.own M0.length) xs,M0++[.tick sz n])/\∀ {j:J} {G:aj} {w:World} {a:Act} {p:Nat} {K:Act->World->Prop} {KP:Value->World->Prop},Rel j G w->ke j G w->aN j G w env a->G[p]?=some .nz ->
   (∀v w',dn j G w (.slice (.own p) xs,G.set p (.tick sz n)) v w'->K (a.put o.dst v) w')->kY P o a w K KP:=by
 obtain⟨rfl,hent,hl⟩:=Gy hop hcal ho;simp only[bC] at h;unfold ud at h;split at h
 ·rename_i hc;obtain⟨hc1,hc2⟩:=hc;obtain⟨y,hy,h⟩:=az h;split at h
  ·rename_i x1 x2 xs sz n e1 e2;cases h;refine⟨xs,sz,n,rfl,fun {j G w a p K KP} hr hG he hp hK=>?_⟩
   obtain⟨l1,l2⟩:=lG he hl
   have hy':C f0 (l.map fun x=>(x.ev env).cu) []=some (.slice (.own 0) xs,[.tick sz n]):=by
    rw[hy,<-e1,<-e2]
   obtain⟨_,hcl⟩:=HR (us:=c.args.map a.eval) hC hr hG hp hc1 hc2 hy' (by grind) fun i c' u hc' hu=>by
    rw[List.getElem?_map,Option.map_eq_some_iff] at hc';obtain⟨y,hy,rfl⟩:=hc';rw[Array.getElem?_map,Option.map_eq_some_iff] at hu;obtain⟨q,hq,rfl⟩:=hu;exact(l2 i y q hy (by simpa using hq)).cu
   exact .inr (.inl ⟨f0,_,by simp[execOp,hop,resolve,hcal,Act.eval,Deferred.ofValue,invoke,jF hent],hcl.mono fun e w' ⟨v,he,hv⟩ => .inl ⟨v,he,hK v w' hv⟩⟩)
  grind
 grind
theorem wU(hC:im P C)(ho:Ie P own o=some ao)(h:bC C env M ao=some x)(hr:Rel j M w)(hG:ke j M w)(he:aN j M w env a){K:Act->World->Prop}
  (hK:∀v w',dn j M w x v w'->K (a.put o.dst v) w') {KP:Value->World->Prop} (hP:∀u w',Aq j M w x u w'->KP u w'):kY P o a w K KP:=by
 have ho0:=ho;unfold Ie at ho;split at ho
 case h_1 y hop =>
  obtain⟨z,hz,ho⟩:=aw ho;cases ho;exact bF (vx hr he (.inl hop) hz h) hK
 case h_2 y hop =>
  obtain⟨z,hz,ho⟩:=aw ho;split at ho
  ·split at ho
   ·split at ho
    ·obtain⟨n,hn,ho⟩:=aw ho;split at ho
     ·cases ho;exact bF (Ze hr he hop hz h) hK
     ·cases ho;exact bF (vx hr he (.inr hop) hz h) hK
    ·cases ho
   ·cases ho;exact bF (vx hr he (.inr hop) hz h) hK
  ·cases ho;exact bF (vx hr he (.inr hop) hz h) hK
 case h_3 c p q hop =>
  obtain⟨c',hc,ho⟩:=aw ho;obtain⟨p',hp,ho⟩:=aw ho;obtain⟨q',hq,ho⟩:=aw ho;cases ho;exact bF (TH hr he hop hc hp hq h) hK
 case h_4 t hop =>
  obtain⟨i,hi,ho⟩:=aw ho;obtain⟨z,hz,ho⟩:=aw ho;obtain⟨l,hl,ho⟩:=aw ho;split at ho
  ·split at ho
   ·split at ho
    ·obtain⟨n,hn,ho⟩:=aw ho;cases ho;exact bF (TA hr hop hi hz hl h) hK
    ·cases ho
   ·cases ho;exact bF (FN hr hop hi hz hl h) hK
  ·cases ho;exact bF (FN hr hop hi hz hl h) hK
 case h_5 t y hop =>
  obtain⟨z,hz,ho⟩:=aw ho;cases ho;exact bF (Za hr he hop hz h) hK
 case h_6 t parts hop =>
  split at ho
  ·rename_i fs hfs;obtain⟨i,hi,ho⟩:=aw ho;obtain⟨z,hz,ho⟩:=aw ho;obtain⟨l,hl,ho⟩:=aw ho;obtain⟨ps,hps,ho⟩:=aw ho;split at ho
   ·rename_i hall;cases ho;exact bF (O3 hr he hop hfs hi hz hl hps hall h) hK
   ·cases ho
  ·rename_i len e ht;obtain⟨i,hi,ho⟩:=aw ho;obtain⟨z,hz,ho⟩:=aw ho;obtain⟨l,hl,ho⟩:=aw ho;obtain⟨n,hn,ho⟩:=aw ho;obtain⟨ps,hps,ho⟩:=aw ho;cases ho;exact bF (HA hr he hop ht hi hz hl hn hps h) hK
  ·cases ho
 case h_7 t len parts hop =>
  split at ho
  ·rename_i e ht;obtain⟨i,hi,ho⟩:=aw ho;obtain⟨l,hl,ho⟩:=aw ho;split at ho
   ·rename_i hc;cases ho;split at h
    ·split at h
     ·exact bF (Pb hr he hop ht hi hl hc.1 hc.2.1 hc.2.2.1 h) hK
     ·exact bF (FO hr he hop ht hi hl hc.1 hc.2.1 hc.2.2.1 h) hK
    ·exact bF (FO hr he hop ht hi hl hc.1 hc.2.1 hc.2.2.1 h) hK
   ·cases ho
  ·cases ho
 case h_8 t y hop =>
  obtain⟨g,hg,ho⟩:=aw ho;obtain⟨n,hn,ho⟩:=aw ho;obtain⟨z,hz,ho⟩:=aw ho;cases ho;cases g
  ·exact bF (Pc hr he hop hg hz h) hK
  ·exact bF (Pd hr he hop hg hn hz h) hK
 case h_9 t y y' hop =>
  obtain⟨n,hn,ho⟩:=aw ho;obtain⟨z,hz,ho⟩:=aw ho;obtain⟨z',hz',ho⟩:=aw ho;cases ho;cases z with
  |tmp s =>
   dsimp only at h;split at h
   ·exact bF (HI hr he hop hn hz hz' h) hK
   ·exact bF (wV hr he hop hn hz hz' h) hK
  |_=>exact bF (wV hr he hop hn hz hz' h) hK
 case h_10 y hop =>
  obtain⟨z,hz,ho⟩:=aw ho;cases ho;exact bF (Zb hr he hop hz h) hK
 case h_11 op t y y' t' hop =>
  obtain⟨z,hz,ho⟩:=aw ho;obtain⟨z',hz',ho⟩:=aw ho;split at ho
  ·obtain⟨b,hb,ho⟩:=aw ho;cases ho;exact bF (O1 hr he hop hb hz hz' h) hK
  ·obtain⟨b,hb,ho⟩:=aw ho;cases ho;exact bF (O1 hr he hop hb hz hz' h) hK
  ·rename_i ht;split at ho
   ·cases ho;exact bF (O7 (neg:=false) hr he hop ht hz hz' h) hK
   ·cases ho;exact bF (O7 (neg:=true) hr he hop ht hz hz' h) hK
   ·cases ho
  ·rename_i fs ht;split at ho
   ·cases ho
   ·rename_i hst;obtain⟨ks,hks,ho⟩:=aw ho;have hst':P.stoodInHeld t=false:=by simpa using hst
    split at ho
    ·cases ho;exact bF (O5 (neg:=false) hr he hop ht hst' hks hz hz' h) hK
    ·cases ho;exact bF (O5 (neg:=true) hr he hop ht hst' hks hz hz' h) hK
    ·cases ho
  ·rename_i len e ht;split at ho
   ·split at ho
    ·rename_i hs;cases ho;exact bF (O6 hr he hop ht (by assumption) hs hz hz' h) hK
    ·cases ho
   ·cases ho
  ·cases ho
 case h_12 t y hop =>
  obtain⟨z,hz,ho⟩:=aw ho;cases ho;exact bF (Zd hr he hop hz h) hK
 case h_13 t y hop =>
  obtain⟨z,hz,ho⟩:=aw ho;cases ho;exact bF (Zc hr he hop hz h) hK
 case h_14 s d y hop =>
  obtain⟨z,hz,ho⟩:=aw ho;split at ho
  ·rename_i hs hd;cases ho;exact bF (TB hr he hop hs hd hz h) hK
  ·rename_i hs hd;cases ho;exact bF (TJ hr he hop hs hd hz h) hK
  ·rename_i e hs hd;split at ho
   ·rename_i hu;cases ho;exact bF (Y9 hr he hop hs hd hu hz h) hK
   ·cases ho
  ·cases ho
 case h_15 f first caps hop =>
  split at ho
  ·rename_i hf;obtain⟨l,hl,ho⟩:=aw ho;cases ho;exact bF (ahf hr he hop hf hl h) hK
  ·split at ho
   ·rename_i hf;obtain⟨l,hl,ho⟩:=aw ho;cases ho;exact bF (O2 hr he hop hf hl h) hK
   ·cases ho
 case h_16 t y lo hi mx hop =>
  obtain⟨z,hz,ho⟩:=aw ho;obtain⟨lo',hlo,ho⟩:=aw ho;obtain⟨hi',hhi,ho⟩:=aw ho;obtain⟨mx',hmx,ho⟩:=aw ho;split at ho
  ·rename_i ht;split at ho
   ·rename_i hm;cases ho
    have:mx=none:=by
     grind [jd]
    subst this;exact bF (HG hr he hop ht hz hlo hhi h) hK
   ·cases ho
  ·rename_i e ht;obtain⟨n,hn,ho⟩:=aw ho;split at ho
   ·rename_i hc;cases ho;exact bF (HH hr he hop ht hn hz hlo hhi hmx hc.2 h) hK
   ·cases ho
  ·cases ho
 case h_17 s y i hop =>
  split at ho
  ·rename_i fs hs;obtain⟨f,hf,ho⟩:=aw ho;obtain⟨n,hn,ho⟩:=aw ho;obtain⟨z,hz,ho⟩:=aw ho;split at ho
   ·rename_i hpos;cases ho;exact bF (O8 hr he hop hs hf hn hpos hz h) hK
   ·cases ho
  ·cases ho
 case h_18 s y i hop =>
  split at ho
  ·rename_i fs hs;obtain⟨f,hf,ho⟩:=aw ho;obtain⟨g,hg,ho⟩:=aw ho;obtain⟨n,hn,ho⟩:=aw ho;obtain⟨z,hz,ho⟩:=aw ho;cases ho;cases g
   ·exact bF (HC hr he hop hs hf hg hz h) hK
   ·exact bF (HD hr he hop hs hf hg hn hz h) hK
  ·cases ho
 case h_19 t y i hop =>
  split at ho
  ·rename_i e ht;obtain⟨n,hn,ho⟩:=aw ho;obtain⟨z,hz,ho⟩:=aw ho;obtain⟨z',hz',ho⟩:=aw ho;split at ho
   ·cases ho;exact bF (O9 hr he hop ht hn hz hz' h) hK
   ·cases ho
  ·rename_i len e ht;obtain⟨n,hn,ho⟩:=aw ho;obtain⟨z,hz,ho⟩:=aw ho;obtain⟨z',hz',ho⟩:=aw ho;split at ho
   ·cases ho;exact bF (HE hr he hop ht hn hz hz' h) hK
   ·cases ho
  ·cases ho
 case h_20 t y i hop =>
  split at ho
  ·rename_i ht;obtain⟨z,hz,ho⟩:=aw ho;obtain⟨z',hz',ho⟩:=aw ho;cases ho;exact bF (HF hr he hop ht hz hz' h) hK
  ·cases ho
 case h_21 y i hop =>
  obtain⟨z,hz,ho⟩:=aw ho;cases ho;exact bF (Eg hr he hop hz h) hK
 case h_22 c hop =>
  unfold IY at ho;split at ho
  ·rename_i f hcal;split at ho
   ·rename_i hent;obtain⟨l,hl,ho⟩:=aw ho;cases ho;obtain⟨l1,l2⟩:=lG he hl;split at h
    ·simp only[bC] at h;obtain⟨_,hc⟩:=hC _ _ _ _ h;refine pS (by simp[execOp,hop,resolve,hcal,Act.eval,Deferred.ofValue,invoke,jF hent]) ((hc j w (c.args.map a.eval) hr hG (by simpa using l1) fun i c' u hc' hu=>?_)) hK hP
     grind
    split at h
    ·simp only[bC] at h;obtain⟨f1,f2,f3,f4⟩:=vq (j:=j) (w:=w) ((l.map (cR.ev env)).flatMap ae.ids) hr
     obtain⟨_,hc⟩:=je (us:=c.args.map a.eval) hC f2 (hG.mono f1) h (by simpa using l1) fun i c' u hc' hu=>by
      rw[List.getElem?_map,Option.map_eq_some_iff] at hc';obtain⟨y,hy,rfl⟩:=hc';rw[Array.getElem?_map,Option.map_eq_some_iff] at hu;obtain⟨q,hq,rfl⟩:=hu;exact((l2 i y q hy (by simpa using hq)).ot hr f1 f2 f3 fun id hid=>f4 id (List.mem_flatMap.2 ⟨_,List.mem_map.2 ⟨y,List.mem_of_getElem? hy,rfl⟩,hid⟩)).cu
     refine pS (by simp[execOp,hop,resolve,hcal,Act.eval,Deferred.ofValue,invoke,jF hent]) (hc.mono ?_) hK hP
     rintro e w' (⟨v,rfl,j2,g1,g2,g3⟩|⟨u,rfl,hu,j2,g1,g2⟩)
     ·exact .inl ⟨v,rfl,j2,g1,f1.trans g2,g3⟩
     ·exact .inr ⟨u,rfl,hu,j2,g1,f1.trans g2⟩
    split at h
    ·rename_i h1 h2 h3;rw[if_neg h1,if_neg h2,if_pos h3] at ho0;obtain⟨xs,sz,n,rfl,hrun⟩:=qU hC hop hcal (by rw[ho0]) h
     obtain⟨j1,r1,x1⟩:=ue hr 1;refine hrun (p:=M.length) r1 (hG.mono x1) (he.mono x1) (by simp) fun v w' ⟨j',q1,q2,q3⟩=>hK v w' ⟨j',?_,?_,?_⟩
     ·simpa using q1
     ·simpa using x1.trans q2
     ·simpa using q3
    simp only[bC] at h
    obtain⟨_,hc⟩:=je (us:=c.args.map a.eval) hC hr hG h (by simpa using l1) fun i c' u hc' hu=>by
     rw[List.getElem?_map,Option.map_eq_some_iff] at hc';obtain⟨y,hy,rfl⟩:=hc';rw[Array.getElem?_map,Option.map_eq_some_iff] at hu;obtain⟨q,hq,rfl⟩:=hu;exact(l2 i y q hy (by simpa using hq)).cu
    exact pS (by simp[execOp,hop,resolve,hcal,Act.eval,Deferred.ofValue,invoke,jF hent]) hc hK hP
   ·cases ho
  ·rename_i t hcal;obtain⟨l,hl,ho⟩:=aw ho;cases ho;obtain⟨l1,l2⟩:=lG he hl;have hsz:l.length=c.args.size:=by simpa using l1
   simp only[bC] at h;split at h
   ·rename_i g caps hg;have hgr:=he.at' t;simp only[cR.ev] at hg;rw[hg] at hgr;obtain⟨vs,hvs,hcl,hcv⟩:=hgr.jY;have hev:a.eval (.tmp t) = .func (.func g) #[] vs:=hvs
    obtain⟨hent,hc⟩:=je (us:=c.args.map a.eval++vs) hC hr hG h (by simp; omega) fun i c' u hc' hu=>by
     rcases Nat.lt_or_ge i l.length with hi|hi
     ·rw[List.getElem?_append_left (by simpa using hi),List.getElem?_map,Option.map_eq_some_iff] at hc'
      obtain⟨y,hy,rfl⟩:=hc';rw[Array.getElem?_append_left (by simp; omega),Array.getElem?_map,Option.map_eq_some_iff] at hu
      obtain⟨q,hq,rfl⟩:=hu;exact(l2 i y q hy (by simpa using hq)).cu
     grind
    exact pS (by simp[execOp,hop,resolve,hcal,hev,Deferred.ofValue,invoke,jF hent]) hc hK hP
   ·rename_i g fs hg;have hgr:=he.at' t;simp only[cR.ev] at hg;rw[hg] at hgr;obtain⟨vs,hvs,hcl,hcv⟩:=hgr.zO;have hev:a.eval (.tmp t) = .func (.func g) vs #[]:=hvs
    obtain⟨hent,hc⟩:=je (us:=vs++c.args.map a.eval) hC hr hG h (by simp; omega) fun i c' u hc' hu=>by
     rcases Nat.lt_or_ge i fs.length with hi|hi
     ·rw[List.getElem?_append_left hi] at hc';rw[Array.getElem?_append_left (by omega)] at hu
      exact(hcv i c' u hc' hu).rep
     ·rw[List.getElem?_append_right hi,List.getElem?_map,Option.map_eq_some_iff] at hc';obtain⟨y,hy,rfl⟩:=hc';rw[Array.getElem?_append_right (by omega),Array.getElem?_map,Option.map_eq_some_iff] at hu
      obtain⟨q,hq,rfl⟩:=hu;rw[<-hcl] at hq;exact(l2 _ y q hy (by simpa using hq)).cu
    exact pS (by simp[execOp,hop,resolve,hcal,hev,Deferred.ofValue,invoke,jF hent]) hc hK hP
   ·rename_i rv hg;have hgr:=he.at' t;simp only[cR.ev] at hg;rw[hg] at hgr;split at h
    ·rename_i g;have hev:a.eval (.tmp t) = .func (.func g) #[] #[]:=hgr.FW
     obtain⟨hent,hc⟩:=je (us:=c.args.map a.eval) hC hr hG h (by simpa using l1) fun i c' u hc' hu=>by
      rw[List.getElem?_map,Option.map_eq_some_iff] at hc';obtain⟨y,hy,rfl⟩:=hc';rw[Array.getElem?_map,Option.map_eq_some_iff] at hu;obtain⟨q,hq,rfl⟩:=hu;exact(l2 i y q hy (by simpa using hq)).cu
     exact pS (by simp[execOp,hop,resolve,hcal,hev,Deferred.ofValue,invoke,jF hent]) hc hK hP
    ·cases h
   ·cases h
  ·rename_i hcal;split at ho
   ·rename_i y ha ht;obtain⟨t,ht0,ht⟩:=Option.bind_eq_some_iff.1 ht;obtain⟨z,hz,ho⟩:=aw ho;cases ho;exact bF (TD hr he hop hcal ha ht0 ht hz h) hK
   ·rename_i y e ha ht;obtain⟨t,ht0,ht⟩:=Option.bind_eq_some_iff.1 ht;obtain⟨z,hz,ho⟩:=aw ho;cases ho;exact bF (TE hr he hop hcal ha ht0 ht hz h) hK
   ·rename_i y k e ha ht;obtain⟨t,ht0,ht⟩:=Option.bind_eq_some_iff.1 ht;obtain⟨z,hz,ho⟩:=aw ho;cases ho;exact bF (TC hr he hop hcal ha ht0 ht hz h) hK
   ·cases ho
  ·rename_i hcal;split at ho
   ·rename_i y y' t t' ha hat;split at ho
    ·rename_i e e' ht ht';obtain⟨n,hn,ho⟩:=aw ho;obtain⟨z,hz,ho⟩:=aw ho;obtain⟨z',hz',ho⟩:=aw ho;split at ho
     ·rename_i hpos;cases ho;exact bF (O4 hr he hop hcal ha hat ht ht' hn hpos hz hz' h) hK
     ·cases ho
    ·cases ho
   ·cases ho
  ·rename_i hcal;split at ho
   ·rename_i y y' t t' ha hat;split at ho
    ·rename_i e kn ht ht';obtain⟨i,hi,ho⟩:=aw ho;obtain⟨zv,hzv,ho⟩:=aw ho;obtain⟨l,hl,ho⟩:=aw ho;obtain⟨z,hz,ho⟩:=aw ho;obtain⟨z',hz',ho⟩:=aw ho;split at ho
     ·rename_i hc;obtain⟨d1,d2,d3,d4⟩:=hc;injection ho with hoo
      subst hoo;exact bF (Ef hr he hop hcal ha hat ht ht' hi hzv hl d1 d2 d3 d4 hz hz' h) hK
     ·cases ho
    ·rename_i e e' ht ht';obtain⟨i,hi,ho⟩:=aw ho;obtain⟨z,hz,ho⟩:=aw ho;obtain⟨z',hz',ho⟩:=aw ho;split at ho
     ·rename_i hc;cases ho;simp only[Bool.and_eq_true,decide_eq_true_eq] at hc;obtain⟨⟨⟨c1,c2⟩,c3⟩,c4⟩:=hc;obtain⟨zv,hzv,hzs⟩:=Option.map_eq_some_iff.1 c1;have hat':c.argTypes = #[t,t']:=by rw[<-hat]
      split at h
      ·split at h
       ·exact bF (Ed hr he hop hcal ha hat' ht ht' hi hzv hzs c2 c3 c4 hz hz' h) hK
       ·exact bF (yC hr he hop hcal ha hat' ht ht' hi hzv hzs c2 c3 c4 hz hz' h) hK
      ·exact bF (yC hr he hop hcal ha hat' ht ht' hi hzv hzs c2 c3 c4 hz hz' h) hK
     ·cases ho
    ·cases ho
   ·cases ho
  ·rename_i hcal;split at ho
   ·rename_i y t ha hat;split at ho
    ·rename_i e ht;obtain⟨i,hi,ho⟩:=aw ho;obtain⟨zv,hzv,ho⟩:=aw ho;obtain⟨l,hl,ho⟩:=aw ho;obtain⟨z,hz,ho⟩:=aw ho;split at ho
     ·rename_i hc;cases ho;exact bF (HB hr he hop hcal ha hat ht hi hzv hl hc.1 hz h) hK
     ·cases ho
    ·cases ho
   ·cases ho
  ·rename_i hcal;split at ho
   ·rename_i y y' ha;obtain⟨z,hz,ho⟩:=aw ho;obtain⟨z',hz',ho⟩:=aw ho;cases ho;exact bF (yD (mx:=true) hr he hop hcal ha hz hz' h) hK
   ·cases ho
  ·rename_i hcal;split at ho
   ·rename_i y y' ha;obtain⟨z,hz,ho⟩:=aw ho;obtain⟨z',hz',ho⟩:=aw ho;cases ho;exact bF (yD (mx:=false) hr he hop hcal ha hz hz' h) hK
   ·cases ho
  ·cases ho
 case h_23 t hop =>
  cases ho;exact bF (Pe hr hop h) hK
 case h_24 t m k ok hop =>
  split at ho
  ·rename_i kt et ht;obtain⟨fk,hfk,ho⟩:=aw ho;obtain⟨ie,hi,ho⟩:=aw ho;obtain⟨zv,hzv,ho⟩:=aw ho;obtain⟨z,hz,ho⟩:=aw ho;obtain⟨m',hm,ho⟩:=aw ho;obtain⟨k',hk,ho⟩:=aw ho;cases ho;exact bF (TF hr he hop ht hfk hi hzv hz hm hk h) hK
  ·cases ho
 case h_25 t m k y hop =>
  split at ho
  ·rename_i kt et ht;obtain⟨fk,hfk,ho⟩:=aw ho;obtain⟨m',hm,ho⟩:=aw ho;obtain⟨k',hk,ho⟩:=aw ho;obtain⟨y',hy,ho⟩:=aw ho;cases ho;exact bF (Pk hr he (.inl hop) ht hfk hm hk (aZ he hy) h) hK
  ·cases ho
 case h_26 t y hop =>
  split at ho
  ·rename_i ht;obtain⟨z,hz,ho⟩:=aw ho;cases ho;exact bF (TI hr he hop ht hz h) hK
  ·cases ho
 case h_27 y hop =>
  obtain⟨z,hz,ho⟩:=aw ho;cases ho;exact bF (Pg hr he hop hz h) hK
 case h_28 t y hop =>
  obtain⟨z,hz,ho⟩:=aw ho;split at ho
  ·cases ho
  ·rename_i d hd hu;cases ho;exact bF (Pa hr he hop hu (fun _=>hd _) hz h) hK
  ·cases ho
 case h_29 y hop =>
  obtain⟨z,hz,ho⟩:=aw ho;cases ho;obtain⟨u,h1,h2⟩:=Ph (P:=P) hr he hop hz h;exact .inr (.inr ⟨u,h1,hP u w h2⟩)
 case h_30 t m k y hop =>
  split at ho
  ·rename_i kt et ht;obtain⟨fk,hfk,ho⟩:=aw ho;obtain⟨m',hm,ho⟩:=aw ho;obtain⟨k',hk,ho⟩:=aw ho;obtain⟨y',hy,ho⟩:=aw ho;cases ho;exact bF (Pk hr he (.inr hop) ht hfk hm hk (Pn he hy) h) hK
  ·cases ho
 case h_31 t y y' hop =>
  split at ho
  ·rename_i e ht;obtain⟨i,hi,ho⟩:=aw ho;obtain⟨zv,hzv,ho⟩:=aw ho;obtain⟨l,hl,ho⟩:=aw ho;obtain⟨z,hz,ho⟩:=aw ho;split at ho
   ·rename_i hc;obtain⟨hyy,c1,c2,c3⟩:=hc;injection ho with hoo
    subst hoo;subst hyy;split at h
    ·split at h
     ·exact bF (TG hr he hop ht hi hzv hl hz c1 c2 c3 h) hK
     ·exact bF (Pf hr he hop ht hi hzv hl hz c1 c2 c3 h) hK
    ·exact bF (Pf hr he hop ht hi hzv hl hz c1 c2 c3 h) hK
   ·cases ho
  ·cases ho
 case h_32=>cases ho
end
section
variable {P:Program} {C:bL} {A:xn}
def o9(a:Act)(d:Option Nat)(v:Value):(a.put d v).tmps.size=a.tmps.size:=by cases d<;>simp[Act.put]
theorem put_defers(a:Act)(d:Option Nat)(v:Value):(a.put d v).defers=a.defers:=by cases d<;>rfl
theorem tj{ops:Array Oper}{g:Bool}{o:Oper}{x:aX}(h:EP P A ops g o=some x):Ie P A.own o=some x.op/\x.dst=o.dst/\x.grow=g/\(∀d,o.dst=some d->d<A.n) /\
  ((o.guard=none/\x.guard=none)\/∃k want t,o.guard=some (k,want)/\x.guard=some (t,want)/\(ops[k]?).bind (·.dst)=some t/\t<A.n):=by
 obtain⟨op,hop,h⟩:=aw h;split at h
 ·rename_i hd;have hd':∀d,o.dst=some d->d<A.n:=fun d e=>by grind [Uy]
  split at h
  ·grind
  ·obtain⟨t,ht,h⟩:=aw h
   grind
 grind
def rB{ops:Array Oper}{o:Oper}{x:aX}{env:Env}{M:aj}{j:J}{w:World}{a:Act}(he:aN j M w env a)(hs:a.tmps.size=A.n)
  (hg:(o.guard=none/\x.guard=none)\/∃k want t,o.guard=some (k,want)/\x.guard=some (t,want)/\(ops[k]?).bind (·.dst)=some t/\t<A.n)
  (h:∀t want,x.guard=some (t,want)->dg env t = .bool want):Region.wanted o (yielded ops a.tmps)=true:=by
 unfold Region.wanted;rcases hg with ⟨h1,_⟩|⟨k,want,t,h1,h2,h3,h4⟩
 ·rw[h1]
 ·have hv:=he.at' t;rw[h t _ h2] at hv;have hv:=hv.dy;simp_all [yielded]
theorem yU{ops:Array Oper}{o:Oper}{x:aX}{env:Env}{M:aj}{j:J}{w:World}{a:Act}(he:aN j M w env a)(hs:a.tmps.size=A.n)
  (hg:(o.guard=none/\x.guard=none)\/∃k want t,o.guard=some (k,want)/\x.guard=some (t,want)/\(ops[k]?).bind (·.dst)=some t/\t<A.n)
  {t:Nat} {want:Bool} (hx:x.guard=some (t,want)) (h:dg env t = .bool (!want)\/dg env t = .tuple []):Region.wanted o (yielded ops a.tmps)=false:=by
 unfold Region.wanted;rcases hg with ⟨_,h1⟩|⟨k,want',t',h1,h2,h3,h4⟩
 ·grind
 ·rw[h2] at hx;injection hx with hx
  injection hx with e1 e2
  subst e1; subst e2;rw[h1];have hv:=he.at' t';have hget:a.tmps[t']?=some (a.tmps.getD t' undef):=by simp_all
  rcases h with h|h
  ·rw[h] at hv;rw[hv.dy] at hget;cases want'<;>simp[yielded,h3,hget]
  ·rw[h] at hv;obtain⟨vs,hvs,hl,_⟩:=hv.kW
   grind [yielded]
def xO{x:aX}{env:Env}{M:aj}{y:ae×aj}(h:ga C x env M=some y):bC C env M x.op=some y:=by
 rcases jD h with ⟨_,_,h⟩|⟨_,_,h⟩|⟨_,_,_,h⟩<;>exact h
def jw:Ue->Exit
 | .normal => .normal
 | .exit i => .exit i
 | .ret => .ret
 | .fQ v => .panic [{ v,recovered:=false }]
def cC.Eb{j:J}{M:aj}{w:World}{u v:Value}(h:cC j M w (.fQ u) v):False:=by
 cases h with
 |plain h=>cases h
def aN.nil{j j':J}{M M':aj}{w w':World}{env:Env}{a:Act}(h:aN j M w env a)(hx:Ext j M w j' M' w'):aN j' M' w' [] a:=⟨fun _ => .any _,h.gl.mono hx⟩
theorem pK(hC:im P C){r:Option Nat}{n:Nat}{ops:Array Oper}{Q:Exit->Act->World->Prop}:∀ {grow:List Bool} (l:List Oper) (k:Nat),ops.toList.drop k=l->∀ {al:List aX},lg P A ops grow l=some al ->
  ∀ {env:Env} {M:aj} {x:Out},cm C al env M=some x->∀ {j:J} {w:World} {a:Act},Rel j M w->ke j M w->aN j M w env a->a.tmps.size=A.n ->
  (∀a' w' j',Rel j' x.mem w'->aN j' x.mem w' x.env a'->Ext j M w j' x.mem w'->a'.tmps.size=A.n->a'.defers=a.defers->Q (jw x.e) a' w')->wpOpsIn (Wd r) n P ops Q (List.range' k l.length) a w
 |grow,[],k,hk,al,hal,env,M,x,hx,j,w,a,hr,hG,he,hs,hQ=>by
  simp only[lg] at hal; cases hal;simp only[cm] at hx; cases hx;exact hQ a w j hr he (Ext.refl j M w) hs rfl
 |grow,o::rs,k,hk,al,hal,env,M,x,hx,j,w,a,hr,hG,he,hs,hQ=>by
  simp only[lg] at hal;obtain⟨xo,hxo,hal⟩:=aw hal;obtain⟨xr,hxr,hal⟩:=aw hal;cases hal;obtain⟨h1,h2,h3,h4,h5⟩:=tj hxo
  have hko:ops[k]?=some o:=by
   have:(ops.toList.drop k)[0]?=some o:=by rw[hk]; rfl
   rw[List.getElem?_drop] at this
   grind
  have hkr:ops.toList.drop (k+1)=rs:=by
   rw[<-List.drop_drop,hk]; rfl
  simp only[List.length_cons,List.range'_succ,wpOpsIn,hko];rcases ia hx with ⟨y,g1,g2,⟨hnp,g3⟩|⟨u0,_,g3,rfl⟩⟩|⟨t,want,g1,g2,g3⟩
  ·rw[if_pos (rB he hs h5 g1)];refine kY.wpIn (KP:=fun _ _=>False) (sm h1) (wU hC h1 (xO g2) hr hG he ?_ ?_) fun u w' h=>h.elim
   ·rintro v w' ⟨j',q1,q2,q3⟩;refine pK hC rs (k+1) hkr hxr (x:=x) (by rw[<-h2]; omega) q1 (hG.mono q2) ((he.mono q2).put hs h4 (by omega)) (by rw[o9]; omega) fun a' w'' j'' p1 p2 p3 p4 p5=>?_
    exact hQ a' w'' j'' p1 p2 (q2.trans p3) p4 (p5.trans (put_defers _ _ _))
   ·rintro u w' ⟨hu,_⟩;rw[hu] at hnp; cases hnp
  ·rw[if_pos (rB he hs h5 g1)];refine kY.wpIn (KP:=fun u w'=>u=u0/\∃j',Rel j' y.2 w'/\Ext j M w j' y.2 w') (sm h1) (wU hC h1 (xO g2) hr hG he ?_ ?_) ?_
   ·rintro v w' ⟨j',q1,q2,q3⟩;rw[g3] at q3;exact q3.Eb.elim
   ·rintro u w' ⟨hu,h⟩;rw[g3] at hu; grind
   ·rintro u w' ⟨rfl,j',q1,q2⟩;exact hQ a w' j' q1 (he.nil q2) q2 hs rfl
  ·rw[if_neg (by rw[yU he hs h5 g1 g2]; simp)]
   refine⟨fun _ _=>trivial,?_⟩
   refine pK hC rs (k+1) hkr hxr (x:=x) (by rw[<-h2]; omega) hr hG (he.put hs h4 (.tuple (vs := #[]) rfl fun i c v h=>by simp)) (by rw[o9]; omega) fun a' w'' j'' p1 p2 p3 p4 p5=>?_
   grind [put_defers]
theorem ri{acc:List Nat}{i:Nat}:∀ {es:List Edge},(oZ acc es).testBit i=true->∃e,e∈es/\Region.binds .any e=true/\(e.on=i\/((nth acc e.on).getD 0).testBit i=true)
 | [],h=>by grind [oZ]
 |e::r,h=>by
  rw[oZ] at h;split at h
  ·rw[Nat.testBit_or,Nat.testBit_or,Bool.or_eq_true,Bool.or_eq_true] at h;rcases h with h|h|h
   ·obtain⟨e',h1,h2,h3⟩:=ri h
    grind
   ·grind
   grind
  ·obtain⟨e',h1,h2,h3⟩:=ri h
   grind
theorem vO:∀(l:List Oper)(acc:List Nat),acc <+: vN l acc/\∀(m:Nat)(o:Oper),l[m]?=some o->(vN l acc)[acc.length+m]?=some (oZ ((vN l acc).take (acc.length+m)) o.after.toList)
 | [],acc=>⟨List.prefix_refl _,fun m o h=>by grind⟩
 |p::r,acc=>by
  rw[vN];obtain⟨h1,h2⟩:=vO r (acc++[oZ acc p.after.toList]);have h3  := (List.prefix_append _ _).trans h1;refine⟨h3,fun m o hm=>?_⟩
  cases m with
  |zero =>
   simp at hm; obtain⟨t,ht⟩:=h1
   grind
  |succ m =>
   grind
def vF{ops:List Oper}{i k:Nat}{o:Oper}(hk:ops[k]?=some o)(hlt:∀e,e∈o.after.toList->Region.binds .any e=true->e.on<k)(h:ahead (jb ops) i k=true) :
  ∃e,e∈o.after.toList/\Region.binds .any e=true/\e.on<k/\(e.on=i\/ahead (jb ops) i e.on=true):=by
 have h1:=(vO _ []).2 k o hk;simp at h1;unfold ahead at h;rw[cf,show jb _=vN _ _ from rfl,h1] at h
 obtain⟨e,h2,h3,h4⟩:=ri h;have h5:=hlt e h2 h3;refine⟨e,h2,h3,h5,h4.imp id fun h=>?_⟩
 rw[cf,List.getElem?_take_of_lt h5] at h;unfold ahead;rw[cf];exact h
def Down(ops:Array Oper)(L:Nat->Bool):Prop:=∀(k:Nat)(o:Oper)(e:Edge),ops[k]?=some o->L k=true->e∈o.after.toList->Region.binds .any e=true->L e.on=true
theorem vG{ops:Array Oper}{L:Nat->Bool}(hd:Down ops L)(hlt:∀(k:Nat)(o:Oper)(e:Edge),ops[k]?=some o->e∈o.after.toList->Region.binds .any e=true->e.on<k) :
  ∀(k:Nat){i:Nat},ahead (jb ops.toList) i k=true->k<ops.size->L k=true->L i=true:=by
 intro k;induction k using Nat.strongRecOn with
 |_ k ih =>
  intro i h hk hL;have ho  := Array.getElem?_eq_getElem hk;obtain⟨e,h1,h2,h3,h4⟩:=vF (by simp) (fun e h1 h2=>hlt k _ e ho h1 h2) h
  have h5:=hd k _ e ho hL h1 h2
  grind
theorem Ay{ops:Array Oper}{L:Nat->Bool}(hd:Down ops L)(hlt:∀(k:Nat)(o:Oper)(e:Edge),ops[k]?=some o->e∈o.after.toList->Region.binds .any e=true->e.on<k)
  {k i:Nat} {o:Oper} (ho:ops[k]?=some o) (hr:∀e,e∈o.after.toList->Region.binds .any e=true->L e.on=true) (h:ahead (jb ops.toList) i k=true):L i=true:=by
 obtain⟨e,h1,h2,h3,h4⟩:=vF (by grind) (fun e h1 h2=>hlt k _ e ho h1 h2) h
 have h5:=hr e h1 h2;rcases h4 with rfl|h4
 ·omega
 grind [vG]
theorem aY{env env':Env}{x:cR}(h:∀t,t∈x.eV->dg env t=dg env' t):x.ev env=x.ev env':=by
 cases x with
 |tmp t=>exact h t (by simp[cR.eV])
 |ep v=>rfl
theorem gH{env env':Env}:∀ {l:List cR},(∀t,t∈l.flatMap cR.eV->dg env t=dg env' t)->∀x,x∈l->x.ev env=x.ev env':=by grind [aY]
def jV{env env':Env}{n:Nat}{x:Option cR}(h:∀t,t∈ua x->dg env t=dg env' t):bX env n x=bX env' n x:=by
 cases x with
 |none=>rfl
 |some x=>unfold bX; simp only; rw[aY h]
theorem we{env env':Env}:∀ {ps:List (Nat×Nat×cR)} {cs:List ae},(∀p,p∈ps->p.2.2.ev env=p.2.2.ev env')->eZ env cs ps=eZ env' cs ps
 | [],cs,_=>rfl
 |(off,n,x)::r,cs,h=>by
  unfold eZ;rw[h (off,n,x) (by simp)]
  congr 1;funext new;split
  ·exact we fun p hp=>h p (by grind)
  rfl
theorem rh{env env':Env}{sz:Nat}:∀ {ps:List cR},(∀p,p∈ps->p.ev env=p.ev env')->kg env sz ps=kg env' sz ps
 | [],_=>rfl
 |x::r,h=>by
  unfold kg;rw[h x (by simp),rh fun p hp=>h p (by grind)]
theorem xM{env env':Env}{M:aj}{op:eu}(h:∀t,t∈op.eV->dg env t=dg env' t):bC C env M op=bC C env' M op/\op.bA env=op.bA env':=by
 cases op<;>simp only[eu.eV,List.mem_append] at h
 case mv x=>simp[bC,eu.bA,aY h]
 case own n x=>simp[bC,eu.bA,aY h]
 case pick c x y=>grind [bC,eu.bA,aY]
 case iB cs=>simp[bC,eu.bA]
 case box x=>simp[bC,eu.bA,aY h]
 case vR f l =>
  have:(l.map fun x=>(x.ev env).cu)=l.map fun x=>(x.ev env').cu:=List.map_congr_left fun x hx=>by rw[gH h x hx]
  simp only[bC,eu.bA,this,and_self]
 case build z ps=>grind [bC,eu.bA,we,aY]
 case lits n ps=>simp[bC,eu.bA,rh (ps:=ps) (gH h)]
 case wK n ps=>simp[bC,eu.bA,rh (ps:=ps) (gH h)]
 case eT n x=>simp[bC,eu.bA,aY h]
 case cY x=>simp[bC,eu.bA,aY h]
 case store n x y=>simp[bC,eu.bA,aY (x:=x) fun t ht=>h t (.inl ht),aY (x:=y) fun t ht=>h t (.inr ht)]
 case um sz p n x y=>simp[bC,eu.bA,aY (x:=x) fun t ht=>h t (.inl ht),aY (x:=y) fun t ht=>h t (.inr ht)]
 case Rb x=>simp[bC,eu.bA,aY h]
 case bin b x y=>grind [bC,eu.bA,aY]
 case Rk ks n x y=>grind [bC,eu.bA,aY]
 case Wp n x y=>simp[bC,eu.bA,aY (x:=x) fun t ht=>h t (.inl ht),aY (x:=y) fun t ht=>h t (.inr ht)]
 case not x=>simp[bC,eu.bA,aY h]
 case neg x=>simp[bC,eu.bA,aY h]
 case conv k x=>simp[bC,eu.bA,aY h]
 case same x=>simp[bC,eu.bA,aY h]
 case fn f l=>simp only[bC,eu.bA,List.map_congr_left (gH h),and_self]
 case pc x lo hi =>
  simp only[bC,eu.bA,aY (x:=x) fun t ht=>h t (.inl ht),jV (env:=env) (env':=env') (x:=lo) fun t ht=>h t (.inr (.inl ht)),and_true]
  split
  ·rw[jV (x:=hi) fun t ht=>h t (.inr (.inr ht))]
  ·rfl
 case rz n x lo hi mx =>
  simp only[bC,eu.bA,aY (x:=x) fun t ht=>h t (.inl ht),jV (env:=env) (env':=env') (x:=lo) fun t ht=>h t (.inr (.inl ht)),and_true]
  split
  ·rw[jV (x:=hi) fun t ht=>h t (.inr (.inr (.inl ht)))]
   cases mx with
   |none=>rfl
   |some m=>simp only[aY (x:=m) fun t ht=>h t (.inr (.inr (.inr ht)))]
  ·rw[jV (x:=hi) fun t ht=>h t (.inr (.inr (.inl ht)))]
   cases mx with
   |none=>rfl
   |some m=>simp only[aY (x:=m) fun t ht=>h t (.inr (.inr (.inr ht)))]
  ·rfl
 case du n x=>simp[bC,eu.bA,aY h]
 case tC p n x=>simp[bC,eu.bA,aY h]
 case tz p x=>simp[bC,eu.bA,aY h]
 case mY n x y=>simp[bC,eu.bA,aY (x:=x) fun t ht=>h t (.inl ht),aY (x:=y) fun t ht=>h t (.inr ht)]
 case oS m n x y=>simp[bC,eu.bA,aY (x:=x) fun t ht=>h t (.inl ht),aY (x:=y) fun t ht=>h t (.inr ht)]
 case oT x y=>grind [bC,eu.bA,aY]
 case extract x i=>simp[bC,eu.bA,aY h]
 case call f l =>
  have:(l.map fun x=>(x.ev env).cu)=l.map fun x=>(x.ev env').cu:=List.map_congr_left fun x hx=>by rw[gH h x hx]
  simp only[bC,eu.bA,this,and_self]
 case nY f l =>
  have:(l.map fun x=>(x.ev env).cu)=l.map fun x=>(x.ev env').cu:=List.map_congr_left fun x hx=>by rw[gH (fun t ht=>h t (.inr ht)) x hx]
  simp only[bC,eu.bA,this,aY (x:=f) fun t ht=>h t (.inl ht),and_self]
 case uC f l=>simp only[bC,eu.bA,List.map_congr_left (gH h),and_self]
 case nW f l =>
  have:(l.map fun x=>(x.ev env).cu)=l.map fun x=>(x.ev env').cu:=List.map_congr_left fun x hx=>by rw[gH h x hx]
  simp only[bC,eu.bA,this,and_self]
 case tp n z x=>simp[bC,eu.bA,aY h]
 case eE f l =>
  have h1:(l.map fun x=>((x.ev env).ot M).cu)=l.map fun x=>((x.ev env').ot M).cu:=List.map_congr_left fun x hx=>by rw[gH h x hx]
  have h2:l.map (cR.ev env)=l.map (cR.ev env'):=List.map_congr_left (gH h);simp only[bC,eu.bA,h1,h2,and_self]
 case Hn x=>simp[bC,eu.bA,aY h]
 case wJ x=>simp[bC,eu.bA,aY h]
 case append n b x y=>simp[bC,eu.bA,aY (x:=x) fun t ht=>h t (.inl ht),aY (x:=y) fun t ht=>h t (.inr ht)]
 case nD n b x y=>simp[bC,eu.bA,aY (x:=x) fun t ht=>h t (.inl ht),aY (x:=y) fun t ht=>h t (.inr ht)]
 case b2s x=>simp[bC,eu.bA,aY h]
 case mkMap=>simp[bC,eu.bA]
 case look fk z ok x y=>grind [bC,eu.bA,aY]
 case cH fk c x y=>grind [bC,eu.bA,aY]
 case Hm x=>simp[bC,eu.bA,aY h]
 case HT x=>simp[bC,eu.bA,aY h]
 case yB x=>simp[bC,eu.bA,aY h]
 case rm m x y=>simp[bC,eu.bA,aY (x:=x) fun t ht=>h t (.inl ht),aY (x:=y) fun t ht=>h t (.inr ht)]
 case pr a b c x y=>grind [bC,eu.bA,aY]
 case xU a x y=>simp[bC,eu.bA,aY (x:=x) fun t ht=>h t (.inl ht),aY (x:=y) fun t ht=>h t (.inr ht)]
 case Gv a=>simp[bC,eu.bA]
 case Y0 z x=>simp[bC,eu.bA,aY h]
 case Hw z x=>simp[bC,eu.bA,aY h]
 case iface t x=>simp[bC,eu.bA,aY h]
 case raise x=>simp[bC,eu.bA,aY h]
theorem rM{f:Nat}{vs:List ae}{M:aj}{x:ae×aj}(h:ar C f vs M=some x)(hn:vs.flatMap ae.ids=[]):x.2=M/\∀M2,ar C f vs M2=some (x.1,M2):=by
 have hre:∀M,reach M []=[]:=fun M=>rfl
 unfold ar at h;rw[hn,hre] at h;split at h
 ·rename_i hf;obtain⟨B,hB,h⟩:=az h;simp only[dK] at hB;cases hB;split at h
  ·obtain⟨y,hy,h⟩:=az h;split at h
   ·rename_i hc;cases h;have hy2:y.2=[]:=List.eq_nil_of_length_eq_zero hc.1;refine⟨by simp[eW],fun M2=>?_⟩
    unfold ar;rw[hn,hre,if_pos hf];simp only[dK,aI];rw[if_pos (show eG M2 []=[] from rfl),hy,aI,if_pos hc,hy2]
    simp[eW]
   ·cases h
  ·cases h
 ·cases h
theorem Az{op:eu}(hc:op.oU=true){env:Env}{M:aj}{x:ae×aj}(h:bC C env M op=some x)(hn:op.bA env=[]):x.2=M/\∀M2,bC C env M2 op=some (x.1,M2):=by
 cases op<;>simp only[eu.oU,Bool.false_eq_true] at hc
 case call f l =>
  grind [bC,eu.bA,rM]
 case nY f l =>
  simp only[bC,eu.bA] at h hn ⊢;split at h<;>grind [rM]
theorem FT{op:eu}(he:op.Lx=false)(hl:op.Ih=false){env:Env}{M:aj}{x:ae×aj}(h:bC C env M op=some x):x.2=M/\∀M2,bC C env M2 op=some (x.1,M2):=by
 cases op<;>simp only[eu.Lx,eu.Ih,reduceCtorEq] at he hl<;>simp only[bC] at h ⊢
 case pc y lo hi =>
  split at h
  ·rename_i s e;obtain⟨hh,h1,h⟩:=az h;obtain⟨l,h2,h⟩:=az h;obtain⟨hp,h⟩:=bd h;cases h;simp_all
  ·cases h
 case rz n y lo hi mx =>
  split at h
  ·rename_i tk xs e;obtain⟨hw,h⟩:=bd h;obtain⟨hh,h1,h⟩:=az h;obtain⟨l,h2,h⟩:=az h;split at h
   ·obtain⟨hp,h⟩:=bd h;cases h;simp_all
   ·split at h
    ·rename_i k m em;obtain⟨hp,h⟩:=bd h;rcases dW h with ⟨hb,h⟩|⟨hb,h⟩<;>(cases h)
     ·simp_all
     ·exact⟨rfl,fun M2=>by rw[bo hw]; simp only[h1,h2,aI,hb,iW]; exact bo hp⟩
    ·cases h
  ·rename_i id v0 sz' al ah e;obtain⟨hw,h⟩:=bd h;obtain⟨hh,h1,h⟩:=az h;obtain⟨l,h2,h⟩:=az h;split at h
   ·obtain⟨hp,h⟩:=bd h;rcases dW h with ⟨hb,h⟩|⟨hb,h⟩<;>(cases h)
    ·simp_all
    ·exact⟨rfl,fun M2=>by rw[bo hw]; simp only[h1,h2,aI,hb,iW]; exact bo hp⟩
   ·split at h
    ·rename_i k m em;obtain⟨hp,h⟩:=bd h;rcases dW h with ⟨hb,h⟩|⟨hb,h⟩
     ·cases h;simp_all
     ·rcases dW h with ⟨hb2,h⟩|⟨hb2,h⟩<;>(cases h)
      ·exact⟨rfl,fun M2=>by rw[bo hw]; grind [aI,o5,iW,bo]⟩
      ·exact⟨rfl,fun M2=>by rw[bo hw]; grind [aI,iW,bo]⟩
    ·cases h
  ·cases h
 case mY n y i =>
  split at h
  ·obtain⟨hp,h⟩:=bd h;obtain⟨e,h1,h⟩:=az h;split at h
   ·rename_i hw;cases h;simp_all
   ·cases h
  ·obtain⟨hp,h⟩:=bd h;cases h;exact⟨rfl,fun M2=>by rw[bo hp]⟩
  ·cases h
 case oS m n y i =>
  split at h
  ·obtain⟨hp,h⟩:=bd h;cases h;exact⟨rfl,fun M2=>by rw[bo hp]⟩
  ·obtain⟨hp,h⟩:=bd h;cases h;exact⟨rfl,fun M2=>by rw[bo hp]⟩
  ·cases h
 case vR f l =>
  grind
 case oT y i =>
  split at h
  ·obtain⟨hp,h⟩:=bd h;obtain⟨e,h1,h⟩:=az h;cases h;exact⟨rfl,fun M2=>by rw[bo hp,h1,aI]⟩
  ·cases h
 case pick c y z =>
  split at h
  ·rcases dW h with ⟨rfl,h⟩|⟨rfl,h⟩<;>(cases h; exact⟨rfl,fun _=>rfl⟩)
  ·cases h
 case lits n ps =>
  obtain⟨l,h1,h⟩:=az h;cases h;exact⟨rfl,fun M2=>by rw[h1,aI]⟩
 case iface t y =>
  split at h
  ·cases h;exact⟨rfl,fun M2=>rfl⟩
  ·obtain⟨v,hv,h⟩:=az h;cases h;exact⟨rfl,fun M2=>by rw[hv]; rfl⟩
 case Y0 z y =>
  split at h
  ·obtain⟨hp,h⟩:=bd h;cases h;exact⟨rfl,fun M2=>bo hp⟩
  ·cases h
 case raise y =>
  grind
 all_goals first
  |(cases h; exact⟨rfl,fun _=>rfl⟩)
  |(obtain⟨_,ha,h⟩:=az h; cases h; exact⟨rfl,fun _=>by rw[ha]; rfl⟩)
  |(split at h<;>first
    |(cases h; exact⟨rfl,fun _=>rfl⟩)
    |(obtain⟨_,ha,h⟩:=az h; cases h; exact⟨rfl,fun _=>by rw[ha]; rfl⟩)
    |cases h
    |grind)
theorem Ci{M M2:aj}{id:Nat}{b:aM}(hp:M <+: M2\/M2 <+: M)(hid:id<M2.length)(hb:nth M id=some b):nth M2 id=some b:=by
 rw[cf] at hb ⊢;rcases hp with ⟨t,rfl⟩|⟨t,rfl⟩
 ·rw[List.getElem?_append_left (aq hb)]; omega
 grind
theorem B2{op:eu}(hl:op.Ih=true){env:Env}{M:aj}{x:ae×aj}(h:bC C env M op=some x):x.2=M /\
  ∀ {M2:aj} (z:cR),(∀id b,id∈(z.ev env).cX->id<M2.length->nth M id=some b->nth M2 id=some b)->∀ {j:J} {w:World} {v:Value},(op = .cY z\/(∃n,op = .eT n z)\/∃fk zr ok k,op = .look fk zr ok z k)->cC j M2 w (z.ev env) v->bC C env M2 op=some (x.1,M2):=by
 cases op<;>simp only[eu.Ih,Bool.false_eq_true] at hl
 case eT n y =>
  simp only[bC] at h ⊢;split at h
  ·rename_i id off e;split at h
   ·rename_i cs hM;split at h
    ·rename_i hle;cases h;refine⟨rfl,fun {M2} z hp {j w v} hz hr=>?_⟩
     have:z=y:=by rcases hz with hz|⟨n',hz⟩|⟨_,_,_,_,hz⟩<;>cases hz<;>rfl
     subst this;rw[e] at hr;obtain⟨b,hid,_⟩:=hr.ic;rw[hp _ _ (by rw[e]; simp[ae.cX]) hid hM]
     simp only;rw[if_pos hle]
    ·cases h
   ·cases h
  ·grind
  ·rename_i id ver i off e;split at h
   ·rename_i sz v0 xs hM;split at h
    ·rename_i hv0;obtain⟨el,hel,h⟩:=az h;split at h
     ·rename_i hle;cases h;refine⟨rfl,fun {M2} z hp {j w v} hz hr=>?_⟩
      have:z=y:=by rcases hz with hz|⟨n',hz⟩|⟨_,_,_,_,hz⟩<;>cases hz<;>rfl
      subst this;rw[e] at hr;obtain⟨_,hid,_⟩:=hr.jX;rw[hp _ _ (by rw[e]; simp[ae.cX]) hid hM]
      simp only[hel,aI];rw[if_pos hv0,if_pos hle]
     ·cases h
    ·cases h
   ·cases h
  ·cases h
 case cY y =>
  simp only[bC] at h ⊢;split at h
  ·rename_i id off e;split at h
   ·rename_i cs hM;obtain⟨c,hc,h⟩:=az h;cases h;refine⟨rfl,fun {M2} z hp {j w v} hz hr=>?_⟩
    have:z=y:=by rcases hz with hz|⟨n',hz⟩|⟨_,_,_,_,hz⟩<;>cases hz<;>rfl
    subst this;rw[e] at hr;obtain⟨b,hid,_⟩:=hr.ic;rw[hp _ _ (by rw[e]; simp[ae.cX]) hid hM]
    simp only[hc,aI]
   ·cases h
  ·obtain⟨c,hc,h⟩:=az h;cases h;exact⟨rfl,fun {M2} hp {j w v} z hz hr=>by simp only[hc,aI]⟩
  ·rename_i id ver i off e;split at h
   ·rename_i sz v0 xs hM;split at h
    ·rename_i hv0;obtain⟨el,hel,h⟩:=az h;obtain⟨c,hc,h⟩:=az h;cases h;refine⟨rfl,fun {M2} z hp {j w v} hz hr=>?_⟩
     have:z=y:=by rcases hz with hz|⟨n',hz⟩|⟨_,_,_,_,hz⟩<;>cases hz<;>rfl
     subst this;rw[e] at hr;obtain⟨_,hid,_⟩:=hr.jX;rw[hp _ _ (by rw[e]; simp[ae.cX]) hid hM]
     simp only[hel,hc,aI];rw[if_pos hv0]
    ·cases h
   ·cases h
  ·cases h
 case look fk zr ok y k =>
  simp only[bC] at h ⊢;obtain⟨e,he,h⟩:=az h;obtain⟨r,hr',h⟩:=az h;cases h;refine⟨rfl,fun {M2} z hp {j w v} hz hr=>?_⟩
  have:z=y:=by rcases hz with hz|⟨n',hz⟩|⟨_,_,_,_,hz⟩<;>cases hz<;>rfl
  subst this
  have:mapOf M2 (z.ev env)=some e:=by
   unfold mapOf at he ⊢;split at he
   ·rename_i id e0;rw[e0] at hr;obtain⟨b,⟨ks,vs,hm⟩,_⟩:=hr.nh;split at he
    ·rename_i ks' vs' hM;rw[hp _ _ (by rw[e0]; simp[ae.cX]) (aq hm) hM]
     exact he
    ·cases he
   ·exact he
   ·cases he
  rw[this,aI,hr',aI]
end
section
variable {P:Program} {C:bL} {A:xn}
def C2(C:bL)(o:aX)(env:Env)(M:aj)(v:ae)(M':aj):Prop :=
 ((∀t want,o.guard=some (t,want)->dg env t = .bool want)/\ga C o env M=some (v,M')) \/
 (∃t want,o.guard=some (t,want)/\(dg env t = .bool (!want)\/dg env t = .tuple [])/\v = .tuple []/\M'=M)
def gA(env:Env)(l:List aX)(vals:Nat->ae)(L:Nat->Bool):Nat->Env
 |0=>env
 |k+1=>match l[k]? with
  |some o=>if L k then iv (gA env l vals L k) o.dst (vals k) else gA env l vals L k
  |none=>gA env l vals L k
theorem tw(env:Env)(o:aX)(r:List aX)(vals:Nat->ae):∀k,gA env (o::r) vals (fun _=>true) (k+1)=gA (iv env o.dst (vals 0)) r (fun i=>vals (i+1)) (fun _=>true) k
 |0=>rfl
 |k+1=>by
  rw[gA,tw _ o r _ k];rfl
def Uk(l:List aX)(env:Env)(vals:Nat->ae)(mems:Nat->aj)(N:Nat)(x:Out):Prop :=
 (N=l.length/\(∀k,k<N->(vals k).dJ=false)/\x=⟨.normal,gA env l vals (fun _=>true) N,mems N⟩) \/
 ∃n y v,N=n+1/\l[n]?=some y/\y.lets=true/\vals n = .fQ v/\(∀k,k<n->(vals k).dJ=false)/\x=⟨.fQ v,[],mems N⟩
theorem trace:∀ {l:List aX} {env:Env} {M:aj} {x:Out},cm C l env M=some x->∃(N:Nat) (vals:Nat->ae) (mems:Nat->aj),N<=l.length/\mems 0=M /\
  (∀(k:Nat)(o:aX),k<N->l[k]?=some o->C2 C o (gA env l vals (fun _=>true) k) (mems k) (vals k) (mems (k+1)))/\Uk l env vals mems N x
 | [],env,M,x,h=>by
  simp only[cm] at h; injection h with h
  exact⟨0,fun _ => .any,fun _=>M,Nat.le_refl _,rfl,fun k o hk=>by simp,.inl ⟨rfl,fun k hk=>by rfl,h.symm⟩⟩
 |o::r,env,M,x,h=>by
  have key:∀(v:ae)(M':aj),C2 C o env M v M'->v.dJ=false->cm C r (iv env o.dst v) M'=some x->∃(N:Nat) (vals:Nat->ae) (mems:Nat->aj),N<=(o::r).length/\mems 0=M /\
    (∀(k:Nat)(p:aX),k<N->(o::r)[k]?=some p->C2 C p (gA env (o::r) vals (fun _=>true) k) (mems k) (vals k) (mems (k+1)))/\Uk (o::r) env vals mems N x:=by
   intro v M' hs hnp hr;obtain⟨N,vals,mems,h0,h1,h2,h3⟩:=trace hr;refine⟨N+1,fun i=>match i with|0=>v|i+1=>vals i,fun i=>match i with|0=>M|i+1=>mems i,by simpa using h0,rfl,fun k p hk hp=>?_,?_⟩
   ·grind [gA,tw]
   ·have np:∀n,(∀k,k<n->(vals k).dJ=false)->∀k,k<n+1->((fun i=>match i with|0=>v|i+1=>vals i:Nat->ae) k).dJ=false:=by
     grind
    rcases h3 with ⟨e1,e2,e3⟩|⟨n,y,u,e1,e2,e3,e4,e5,e6⟩
    ·refine .inl ⟨by simp[e1],np N e2,?_⟩
     rw[tw]; omega
    ·exact .inr ⟨n+1,y,u,by rw[e1],by simpa using e2,e3,e4,np n e5,e6⟩
  rcases ia h with ⟨y,h1,h2,⟨h3,h4⟩|⟨v,h3,h4,rfl⟩⟩|⟨t,want,h1,h2,h3⟩
  ·exact key y.1 y.2 (.inl ⟨h1,h2⟩) h3 h4
  ·refine⟨1,fun _=>y.1,fun i=>match i with|0=>M|_=>y.2,by simp,rfl,fun k p hk hp=>?_,.inr ⟨0,o,v,rfl,rfl,h3,h4,fun k hk=>by omega,rfl⟩⟩
   have:k=0:=by omega
   subst this;simp at hp; subst hp;exact .inl ⟨h1,h2⟩
  ·exact key (.tuple []) M (.inr ⟨t,want,h1,h2,rfl,rfl⟩) rfl h3
section
variable {env:Env} {l:List aX} {vals:Nat->ae} {L L':Nat->Bool} {t:Nat}
def wr(l:List aX)(k t:Nat):Prop:=∃o,l[k]?=some o/\o.dst=some t
theorem E1(k:Nat)(h:wr l k t)(hL:L k=true):dg (gA env l vals L (k+1)) t=vals k:=by
 obtain⟨o,h1,h2⟩:=h;rw[gA];simp_all [iv,dg]
theorem tx(k:Nat)(h:¬(wr l k t/\L k=true)):dg (gA env l vals L (k+1)) t=dg (gA env l vals L k) t:=by
 rw[gA];split
 ·rename_i o ho;split
  ·rename_i hk;unfold iv;split
   ·rename_i d hd;rw[dg,if_neg];rintro rfl;exact h ⟨⟨o,ho,hd⟩,hk⟩
   rfl
  rfl
 rfl
def mV{i:Nat}:∀n,i<=n->(∀k,i<=k->k<n->¬(wr l k t/\L k=true))->dg (gA env l vals L n) t=dg (gA env l vals L i) t
 |0,hi,_=>by rw[show i=0 by omega]
 |n+1,hi,h=>by
  by_cases he:i=n+1
  ·rw[he]
  ·rw[tx n (h n (by omega) (by simp))]
   exact mV n (by omega) fun k h1 h2=>h k h1 (by omega)
theorem pD:∀n,(∀k,k<n->wr l k t->L k=L' k)->dg (gA env l vals L n) t=dg (gA env l vals L' n) t
 |0,_=>rfl
 |n+1,h=>by
  have ih:=pD n fun k hk=>h k (by omega)
  by_cases hw:wr l n t
  ·cases hL:L n<;>grind [E1,tx]
  grind [tx]
end
def left(L:Nat->Bool):Nat->Nat
 |0=>0
 |k+1=>left L k+if L k then 0 else 1
theorem yv{L:Nat->Bool}:∀ {n},left L n=0->∀k,k<n->L k=true
 |0,_,k,hk=>by omega
 |n+1,h,k,hk=>by
  rw[left] at h
  by_cases he:k=n
  ·grind
  ·exact yv (n:=n) (by omega) k (by omega)
theorem BZ{L L':Nat->Bool}{i:Nat}(hi:L i=false)(hi':L' i=true)(hne:∀k,k≠i->L' k=L k):∀n,left L n=left L' n+if i<n then 1 else 0
 |0=>by rfl
 |n+1=>by
  have ih:=BZ hi hi' hne n;rw[left,left]
  grind
theorem qx{bs:List Nat}{l:List aX}:∀(r:List aX)(k m:Nat)(y:aX),(ij bs l k r)[m]?=some y->∃x,r[m]?=some x/\y.dst=x.dst/\y.op=x.op/\y.guard=x.guard
 | [],k,m,y,h=>by simp_all [ij]
 |x::r,k,m,y,h=>by
  rw[ij] at h;cases m with
  |zero=>grind
  |succ m =>
   obtain⟨z,h1,h2⟩:=qx r _ m y (by simpa using h)
   grind
def qy{bs:List Nat}{l:List aX}:∀(r:List aX)(k:Nat),(ij bs l k r).length=r.length
 | [],_=>rfl
 |x::r,k=>by rw[ij,List.length_cons,qy r _,List.length_cons]
theorem vT{ops:Array Oper}:∀ {r:List Oper} {g:List Bool} {l:List aX},lg P A ops g r=some l->l.length=r.length/\∀(k:Nat)(o:Oper),r[k]?=some o->∃x b,l[k]?=some x/\EP P A ops b o=some x
 | [],g,l,h=>by grind [lg]
 |o::r,g,l,h=>by
  obtain⟨x,hx,h⟩:=aw h;obtain⟨l',hl,h⟩:=aw h;injection h with h; obtain⟨h1,h2⟩:=vT hl
  grind
structure Ord(ops:Array Oper)(l:List aX):Prop where
 len:l.length=ops.size
 Rf:∀(k:Nat)(o:Oper)(e:Edge),ops[k]?=some o->e∈o.after.toList->Region.binds .any e=true->e.on<k
 alone:∀(k:Nat)(y:aX),l[k]?=some y->y.oh=true->y.op.oU=true
 opl:∀(k:Nat)(y:aX),l[k]?=some y->Ec y.op=true
 UE:∀(k i:Nat)(y x:aX),l[k]?=some y->y.lV=true->y.grow=false->l[i]?=some x->x.op.Ih=true->(i<k->ahead (jb ops.toList) i k=true)/\(k<i->ahead (jb ops.toList) k i=true)
 sep:∀(k i:Nat)(y x:aX),l[k]?=some y->y.sep≠[]->l[i]?=some x->x.op.Ih=true->(k<i->ahead (jb ops.toList) k i=true)/\(i<k->ahead (jb ops.toList) i k=true\/∃z,x.op.F3=some z/\z∈y.sep/\aeI l i k z=true)
 meet:∀(i k:Nat)(x y:aX),i<k->l[i]?=some x->l[k]?=some y->meet x y=true->ahead (jb ops.toList) i k=true
 stop:∀(i k:Nat)(y:aX),l[k]?=some y->y.lets=true->i<l.length->(k<i->ahead (jb ops.toList) k i=true)/\(i<k->ahead (jb ops.toList) i k=true\/∀x,l[i]?=some x->x.op.Lx=false)
 eff:∀(i k:Nat)(x y:aX),i<k->l[i]?=some x->l[k]?=some y->x.lV=true->y.lV=true->ahead (jb ops.toList) i k=true\/(uM ops l i=true/\uM ops l k=true)
theorem Zg{ops:Array Oper}{l:List aX}(hlen:l.length=ops.size)(h:zR ops (jb ops.toList) l=true):Ord ops l:=by
 unfold zR at h
 have hk:∀(k:Nat)(y:aX)(o:Oper),l[k]?=some y->ops[k]?=some o->(o.after.toList.all (fun e => !Region.binds .any e||decide (e.on<k))=true/\((!y.oh||y.op.oU)&&Ec y.op)=true/\((!(y.lV && !y.grow)||fenced (jb ops.toList) l k)&&(y.sep.isEmpty||vz (jb ops.toList) l k y.sep))=true/\(!y.lets||Et (jb ops.toList) l k)=true) /\
   ∀(i:Nat)(x:aX),i<k->l[i]?=some x->(!Go.Abs.meet x y||ahead (jb ops.toList) i k)=true/\(!(x.lV&&y.lV)||(ahead (jb ops.toList) i k||(uM ops l i&&uM ops l k)))=true:=by
  intro k y o hy ho;have h1:=List.all_eq_true.1 h k (List.mem_range.2 (aq hy));rw[cf,hy,ho] at h1;rw[Bool.and_eq_true,Bool.and_eq_true,Bool.and_eq_true] at h1;obtain⟨⟨⟨a1,a2⟩,a3⟩,a45⟩:=h1;rw[Bool.and_eq_true] at a45;obtain⟨a5,a4⟩:=a45;refine⟨⟨a1,a2,a3,a5⟩,fun i x hi hx=>?_⟩
  have h2:=List.all_eq_true.1 a4 i (List.mem_range.2 hi);rw[cf,hx] at h2;simpa[Bool.and_eq_true] using h2
 have hop:∀k,k<l.length->∃o,ops[k]?=some o:=fun k hk=>⟨ops[k]'(by omega),Array.getElem?_eq_getElem (by omega)⟩
 refine⟨hlen,fun k o e ho he hb=>?_,fun k y hy hn=>?_,fun k y hy=>?_,fun k i y x hy hE hg hx hl=>?_,fun k i y x hy hsp hx hl=>?_,fun i k x y hi hx hy hm=>?_,fun i k y hy hl hi=>?_,fun i k x y hi hx hy hE hE'=>?_⟩
 ·grind
 ·grind
 ·obtain⟨o,ho⟩:=hop k (aq hy);have:=(hk k y o hy ho).1.2.1;rw[Bool.and_eq_true] at this;exact this.2
 ·obtain⟨o,ho⟩:=hop k (aq hy);have h1:=(Bool.and_eq_true _ _▸(hk k y o hy ho).1.2.2.1:_/\_).1;have h2:fenced (jb ops.toList) l k=true:=by simpa[hE,hg] using h1
  have h3:=List.all_eq_true.1 h2 i (List.mem_range.2 (aq hx));rw[cf,hx] at h3;simp only[hl,Bool.not_true,Bool.false_or] at h3;refine⟨fun hik=>by rw[if_pos hik] at h3; exact h3,fun hki=>?_⟩
  rw[if_neg (by omega)] at h3
  have:¬i=k:=by omega
  simpa[this] using h3
 ·obtain⟨o,ho⟩:=hop k (aq hy);have h1:=(Bool.and_eq_true _ _▸(hk k y o hy ho).1.2.2.1:_/\_).2
  have h2:vz (jb ops.toList) l k y.sep=true:=by
   grind
  have h3:=List.all_eq_true.1 h2 i (List.mem_range.2 (aq hx));rw[cf,hx] at h3;simp only[hl,Bool.not_true,Bool.false_or] at h3;refine⟨fun hki=>?_,fun hik=>?_⟩
  ·have hne:(i==k)=false:=by simp; omega
   rw[hne,if_neg (by omega),Bool.false_or] at h3
   exact h3
  ·have hne:(i==k)=false:=by simp; omega
   rw[hne,if_pos hik,Bool.false_or,Bool.or_eq_true] at h3;rcases h3 with h3|h3
   ·exact .inl h3
   ·right;split at h3
    ·rename_i z hz;rw[Bool.and_eq_true] at h3;exact⟨z,hz,by simpa using h3.1,h3.2⟩
    ·cases h3
 ·obtain⟨o,ho⟩:=hop k (aq hy);have:=((hk k y o hy ho).2 i x hi hx).1;simpa[hm] using this
 ·obtain⟨o,ho⟩:=hop k (aq hy);have h1:=(hk k y o hy ho).1.2.2.2;rw[hl,Bool.not_true,Bool.false_or] at h1;have h2:=List.all_eq_true.1 h1 i (List.mem_range.2 hi);refine⟨fun hki=>?_,fun hik=>?_⟩
  ·have hne:(i==k)=false:=by simp; omega
   rw[hne,if_neg (by omega),Bool.false_or] at h2
   exact h2
  ·have hne:(i==k)=false:=by simp; omega
   rw[hne,if_pos hik,Bool.false_or,Bool.or_eq_true] at h2;refine h2.imp id fun h3 x hx=>?_
   rw[cf,hx] at h3;simpa using h3
 ·obtain⟨o,ho⟩:=hop k (aq hy);have:=((hk k y o hy ho).2 i x hi hx).2;simpa[hE,hE'] using this
structure zi(n:Nat)(mems:Nat->aj)(E A:Nat->Bool)(L:Nat->Bool)(q:Nat)(G:aj):Prop where
 qn:q<=n
 last:q=0\/∃p,q=p+1/\E p=true/\L p=true
 rest:∀k,q<=k->k<n->E k=true->L k=false
 len:G.length=(mems q).length
 at':∀id:Nat,G[id]?=(mems q)[id]?\/(G[id]?=some .nz/\∃k,k<q/\A k=true/\L k=false/\(mems k).length=id)
 un:∀k,k<q->A k=true->L k=false->G[(mems k).length]?=some .nz
theorem zi.full{n:Nat}{mems:Nat->aj}{E A L:Nat->Bool}{q:Nat}{G:aj}(g:zi n mems E A L q G)(h:∀k,k<q->A k=true->L k=true):G=mems q:=by
 apply List.ext_getElem?;intro id;rcases g.at' _ with h1|⟨_,k,h1,h2,h3,_⟩
 ·omega
 grind
theorem cC.Y2{j:J}{M:aj}{w:World}{x:ae}{v:Value}(h:cC j M w x v){id:Nat}(hid:id∈x.cX):M[id]?≠some .nz:=by
 intro hg;cases h with
 |plain h=>cases h<;>simp[ae.cX] at hid
 |c0=>simp_all [ae.cX]
 |own hk=>grind [ae.cX]
 |agg=>grind [ae.cX]
 |tuple=>simp[ae.cX] at hid
 |ptr _ hc=>grind [ae.cX]
 |dq=>simp_all [ae.cX]
 |func=>simp_all [ae.cX]
 |cU hc=>grind [ae.cX]
 |dD hc=>grind [ae.cX]
 |dI=>grind [ae.cX]
 |aW _ _ hM=>simp[ae.cX] at hid; subst hid; cases hM _ hg
 |dk _ _ hM=>simp[ae.cX] at hid; subst hid; cases hM _ hg
 |iM=>simp[ae.cX] at hid
 |dU hc=>grind [ae.cX]
 |any=>simp_all [ae.cX]
def nR{mems:Nat->aj}{i:Nat}:∀n,i<=n->(∀k,i<=k->k<n->mems k <+: mems (k+1))->mems i <+: mems n
 |0,hi,_=>by rw[show i=0 by omega]; simp
 |n+1,hi,h=>by
  by_cases he:i=n+1
  ·rw[he]; simp
  ·exact(nR n (by omega) fun k h1 h2=>h k h1 (by omega)).trans (h n (by omega) (by simp))
def aN.wT{j:J}{M:aj}{w:World}{env env':Env}{a:Act}(h:aN j M w env a)(he:∀t,dg env' t=dg env t):aN j M w env' a:=⟨fun t=>by rw[he t]; exact h.at' t,h.gl⟩
theorem Cn(hmix:P.follows .mixedOrders=true)(hC:im P C){rd:Option Nat}{nd:Nat}{id:Nat}{ops:Array Oper}{l0 l:List aX}(hl0:lg P A ops [] ops.toList=some l0)(hg:tZ ops l0=some l)
  {env:Env} {M:aj} {x:Out} (hx:cm C l env M=some x) {j:J} {w:World} {a:Act} (hr:Rel j M w) (hG:ke j M w) (he:aN j M w env a) (hs:a.tmps.size=A.n) {Q:Exit->Act->World->Prop}
  (hQ:∀a' w' j',Rel j' x.mem w'->aN j' x.mem w' x.env a'->Ext j M w j' x.mem w'->a'.tmps.size=A.n->a'.defers=a.defers->Q (jw x.e) a' w'):(Code.region id ops true).wpIn (Wd rd) nd P Q a w:=by
 obtain⟨c1,c2⟩:=vT hl0;have hlen0:l0.length=ops.size:=by simpa using c1
 unfold tZ at hg;split at hg
 case isFalse=>cases hg
 rename_i hok;injection hg with hg
 rw[hg] at hok;have hlen:l.length=ops.size:=by rw[<-hg,qy]; exact hlen0
 have od:=Zg hlen hok
 have hop:∀(k:Nat)(y:aX),l[k]?=some y->∃o x0 b,ops[k]?=some o/\EP P A ops b o=some x0/\y.dst=x0.dst/\y.op=x0.op/\y.guard=x0.guard:=by
  intro k y hy;rw[<-hg] at hy;obtain⟨x0,h1,h2,h3,h4⟩:=qx _ _ _ _ hy;have hk:k<ops.size:=by rw[<-hlen0]; exact aq h1
  have ho:ops[k]?=some ops[k]:=Array.getElem?_eq_getElem hk;obtain⟨x1,b,h5,h6⟩:=c2 k ops[k] (by simp[hk])
  rw[h1] at h5; cases h5;exact⟨_,x0,b,ho,h6,h2,h3,h4⟩
 obtain⟨N,vals,mems,hN,m0,st,hxe⟩:=trace hx
 let E:Nat->Bool:=fun k=>match l[k]? with|some y=>y.lV|none=>false
 have hE:∀ {k:Nat} {y:aX},l[k]?=some y->E k=y.lV:=fun {k y} h=>by simp only[E,h]
 have hEs:∀ {k:Nat},E k=true->∃y,l[k]?=some y/\y.lV=true:=fun {k} h=>by
  simp only[E] at h;split at h
  ·exact⟨_,by assumption,h⟩
  ·cases h
 -- memory stays at what is no effect,and grows at what may
 have stays:∀k,k<N->E k=false->mems (k+1)=mems k:=by
  intro k hkN hEk;have hk:k<l.length:=by omega
  have hy:=List.getElem?_eq_getElem hk;rw[hE hy] at hEk;rcases st k _ hkN hy with ⟨_,h⟩|⟨_,_,_,_,_,h⟩
  ·rcases jD h with ⟨hn,hi,h1⟩|⟨hn,_,h1⟩|⟨hn,_,_,h1⟩
   ·exact(Az (od.alone k _ hy hn) h1 hi).1
   all_goals
    have hE0:l[k].op.Lx=false:=by simpa[aX.lV,hn] using hEk
    cases hl:l[k].op.Ih with
    |true=>exact(B2 hl h1).1
    |false=>exact(FT hE0 hl h1).1
  ·exact h
 have grows:∀k (y:aX),k<N->l[k]?=some y->y.lV=true->y.grow=true->mems k <+: mems (k+1)\/(y.sep≠[]/\pb (gA env l vals (fun _=>true) k) (mems k) (mems (k+1)) y.sep):=by
  intro k y hkN hy hEy hgr;rcases st k y hkN hy with ⟨_,h⟩|⟨_,_,_,_,_,h⟩
  ·rcases jD h with ⟨hn,_,_⟩|⟨_,hg',_⟩|⟨_,_,hp,_⟩
   ·simp[aX.lV,hn] at hEy
   ·rw[hgr] at hg'; cases hg'
   ·exact hp
  ·rw[h]; exact .inl (List.prefix_refl _)
 let A0:Nat->Bool:=uM ops l
 have hA:∀k,k<N->A0 k=true->∃(y:aX) (o:Oper) (V:Nat->ae) (B:aM),l[k]?=some y/\ops[k]?=some o/\y.guard=none/\E k=true/\vals k=V (mems k).length/\mems (k+1)=mems k++[B]/\(V (mems k).length).dJ=false /\
   ∀ {env':Env} {j:J} {G:aj} {w:World} {a:Act} {p:Nat} {K:Act->World->Prop} {KP:Value->World->Prop},(∀t,t∈y.op.eV->dg env' t=dg (gA env l vals (fun _=>true) k) t)->Rel j G w->ke j G w->aN j G w env' a->G[p]?=some .nz ->
    (∀v w',dn j G w (V p,G.set p B) v w'->K (a.put o.dst v) w')->kY P o a w K KP:=by
  intro k hkN hAk;have hk:k<l.length:=by omega
  obtain⟨y,hy⟩:∃y,l[k]?=some y:=⟨_,List.getElem?_eq_getElem hk⟩;obtain⟨o,ho⟩:∃o,ops[k]?=some o:=⟨_,Array.getElem?_eq_getElem (by omega)⟩
  obtain⟨o',x0,b,ho',hco,f1,f2,f3⟩:=hop k _ hy;rw[ho] at ho'; cases ho';obtain⟨g1,_⟩:=tj hco;rw[<-f2] at g1;simp only[A0,uM,ho,cf,hy,Bool.and_eq_true,Option.isNone_iff_eq_none] at hAk;obtain⟨k2,k3⟩:=hAk
  have h1:bC C (gA env l vals (fun _=>true) k) (mems k) y.op=some (vals k,mems (k+1)):=by
   rcases st k y hkN hy with ⟨_,h⟩|⟨t',want,h,_⟩
   ·rcases jD h with ⟨_,_,h1⟩|⟨_,_,h1⟩|⟨_,_,_,h1⟩<;>exact h1
   ·rw[k3] at h; cases h
  have hnm:y.op.oU=false->y.oh=false:=fun hc=>by
   cases hn:y.oh with
   |false=>rfl
   |true=>have:=od.alone k y hy hn; rw[hc] at this; cases this
  split at k2
  ·rename_i cs hcs;split at k2
   case h_2=>cases k2
   rename_i t hot;have hn:=hnm (by rw[hcs]; rfl)
   rw[hcs] at h1 g1;simp only[bC] at h1;injection h1 with h1
   refine⟨y,o,fun p => .ptr p 0,.cells cs,hy,ho,k3,by rw[hE hy]; simp[aX.lV,hn,hcs,eu.Lx],(congrArg Prod.fst h1).symm,(congrArg Prod.snd h1).symm,rfl,fun {env' j G w a p K KP} _ hr hG he hp hK=>?_⟩
   obtain⟨us,tt,hRC,hRan⟩:=Gp hot g1 a w;exact .inl ⟨_,_,hRan,hK _ _ (Jo hr hp (hRC _ _ _) tt)⟩
  ·rename_i f args hcs;split at k2
   case h_2=>cases k2
   rename_i c hot;split at k2
   case h_2=>cases k2
   rename_i f0 hcal;have hn:=hnm (by rw[hcs]; rfl)
   rw[hcs] at h1 g1;obtain⟨xs,sz,n,hx0,_⟩:=qU hC hot hcal g1 h1;refine⟨y,o,fun p => .slice (.own p) xs,.tick sz n,hy,ho,k3,by rw[hE hy]; simp[aX.lV,hn,hcs,eu.Lx],congrArg Prod.fst hx0,congrArg Prod.snd hx0,rfl,fun {env' j G w a p K KP} hag hr hG he hp hK=>?_⟩
   have h2:bC C env' (mems k) (.nW f args)=some (vals k,mems (k+1)):=by
    rw[(xM (C:=C) (M:=mems k) (op := .nW f args) fun t ht=>hag t (by rw[hcs]; exact ht)).1]
    exact h1
   obtain⟨xs',sz',n',hx1,hrun⟩:=qU hC hot hcal g1 h2;rw[hx0] at hx1;injection hx1 with e1 e2
   injection e1 with _ e1
   have e3:=List.append_cancel_left e2;injection e3 with e3 _
   injection e3 with e3 e4
   subst e1; subst e3; subst e4;exact hrun hr hG he hp hK
  ·cases k2
 have hAE:∀k,k<N->A0 k=true->E k=true:=fun k hk h=>by
  obtain⟨y,o,V,B,_,_,_,h1,_⟩:=hA k hk h;exact h1
 -- where nothing but boxes is made memory grows
 have pref:∀a b,a<=b->b<=N->(∀k,a<=k->k<b->E k=true->A0 k=true)->mems a <+: mems b:=fun a b hab hb hk=>nR b hab fun k h1 h2=>by
  cases hEk:E k with
  |false=>rw[stays k (by omega) hEk]; exact List.prefix_refl _
  |true =>
   obtain⟨y,o,V,B,_,_,_,_,_,h3,_⟩:=hA k (by omega) (hk k h1 h2 hEk)
   rw[h3]; exact List.prefix_append _ _
 have same:∀a b,a<=b->b<=N->(∀k,a<=k->k<b->E k=false)->mems b=mems a:=by
  intro a b hab;induction b with
  |zero=>intro _ _; rw[show a=0 by omega]
  |succ b ih =>
   intro hb hk
   by_cases he:a=b+1
   ·rw[he]
   ·rw[stays b (by omega) (hk b (by omega) (by omega)),ih (by omega) (by omega) fun k h1 h2=>hk k h1 (by omega)]
 -- where a box of that length is made
 have posn:∀a b,a<=b->b<=N->(∀k,a<=k->k<b->E k=true->A0 k=true)->∀id,(mems a).length<=id->id<(mems b).length->∃k,a<=k/\k<b/\A0 k=true/\(mems k).length=id:=by
  intro a b hab;induction b with
  |zero=>intro _ _ id h1 h2; rw[show a=0 by omega] at h1; omega
  |succ b ih =>
   intro hb hk id h1 h2
   by_cases he:a=b+1
   ·rw[he] at h1; omega
   ·cases hEb:E b with
    |false =>
     rw[stays b (by omega) hEb] at h2
     obtain⟨k,g1,g2,g3⟩:=ih (by omega) (by omega) (fun k h1 h2=>hk k h1 (by omega)) id h1 h2
     exact⟨k,g1,by omega,g3⟩
    |true =>
     have hAb:=hk b (by omega) (by omega) hEb
     obtain⟨y,o,V,B,_,_,_,_,_,h3,_⟩:=hA b (by omega) hAb
     rw[h3] at h2;simp only[List.length_append,List.length_cons,List.length_nil] at h2
     by_cases hid:id<(mems b).length
     ·obtain⟨k,g1,g2,g3⟩:=ih (by omega) (by omega) (fun k h1 h2=>hk k h1 (by omega)) id h1 hid
      exact⟨k,g1,by omega,g3⟩
     ·exact⟨b,by omega,by omega,hAb,by omega⟩
 refine wpIn_region_any hmix ?_
 have key:∀(fuel:Nat)(listed:Array Bool)(a1:Act)(w1:World),listed.size=ops.size->left (fun k=>listed.getD k false) l.length=fuel->Down ops (fun k=>listed.getD k false)->(∀k,k<l.length->listed.getD k false=true->k<N/\(vals k).dJ=false) ->
   (∃j1 q G,zi l.length mems E A0 (fun k=>listed.getD k false) q G/\Rel j1 G w1/\aN j1 G w1 (gA env l vals (fun k=>listed.getD k false) l.length) a1 /\
    Ext j M w j1 G w1/\a1.tmps.size=A.n/\a1.defers=a.defers)->wpAnyIn (Wd rd) nd P .any ops Q fuel listed a1 w1:=by
  have ends:∀(listed:Array Bool)(a1:Act)(w1:World),(∀k,k<l.length->listed.getD k false=true) ->
    (∃j1 q G,zi l.length mems E A0 (fun k=>listed.getD k false) q G/\Rel j1 G w1/\aN j1 G w1 (gA env l vals (fun k=>listed.getD k false) l.length) a1 /\
    Ext j M w j1 G w1/\a1.tmps.size=A.n/\a1.defers=a.defers)->(∀k,k<l.length->listed.getD k false=true->k<N/\(vals k).dJ=false)->Q .normal a1 w1:=by
   intro listed a1 w1 hall hI hin;obtain⟨j1,q,G,gp,r1,e1,x1,s1,d1⟩:=hI;rcases hxe with ⟨n1,_,n3⟩|⟨n,y,v,n1,n2,_,n4,_,_⟩
   ·have hm:G=mems l.length:=by
     have hqn:=gp.qn;rw[gp.full fun k hk _=>hall k (by omega),same q l.length gp.qn (by omega) fun k h1 h2=>?_]
     cases hEk:E k with
     |false=>rfl
     |true =>
      have:=gp.rest k h1 h2 hEk;rw[hall k h2] at this; cases this
    rw[hm] at r1 e1 x1;rw[n3,n1] at hQ;exact hQ a1 w1 j1 r1 (e1.wT fun t=>pD _ fun k hk _=>(hall k hk).symm) x1 s1 d1
   ·have hnl:=aq n2;have:=(hin n hnl (hall n hnl)).2;rw[n4] at this; cases this
  intro fuel;induction fuel with
  |zero =>
   intro listed a1 w1 hsz hleft hd hin hI;have hall:=yv hleft;refine⟨?_,ends listed a1 w1 hall hI hin⟩;apply List.eq_nil_iff_forall_not_mem.2;intro i hi;obtain⟨h1,oi,h2,_⟩:=mem_ready.1 hi;have hil:i<l.length:=by rw[hlen]; exact(Array.getElem?_eq_some_iff.1 h2).1
   have h3:=hall i hil;simp only[Array.getD_eq_getD_getElem?] at h1 h3;have:i<listed.size:=by omega
   rw[Array.getElem?_eq_getElem this] at h1 h3;simp at h1 h3;rw[h1] at h3; cases h3
  |succ fuel ih =>
   intro listed a1 w1 hsz hleft hd hin hI;refine⟨fun hnil=>?_,fun i hi=>?_⟩
   ·refine ends listed a1 w1 ?_ hI hin;intro k;induction k using Nat.strongRecOn with
    |_ k ihk =>
     intro hk;cases hL:listed.getD k false with
     |true=>rfl
     |false =>
      exfalso;have hks:k<ops.size:=by omega
      have ho:ops[k]?=some ops[k]:=Array.getElem?_eq_getElem hks
      have:k∈Region.ready .any ops listed:=by
       refine mem_ready.2 ⟨?_,_,ho,fun e he hb=>?_⟩
       ·simp only[Array.getD_eq_getD_getElem?] at hL ⊢;have hkl:k<listed.size:=by omega
        rw[Array.getElem?_eq_getElem hkl] at hL ⊢;simpa using hL
       ·have:=od.Rf k _ e ho (by simpa using he) hb
        exact ihk e.on this (by omega)
      rw[hnil] at this;cases this
   ·obtain⟨hun0,o,ho,hall⟩:=mem_ready.1 hi;obtain⟨j1,q,G,gp,r1,e1,x1,s1,d1⟩:=hI;have his:i<ops.size:=(Array.getElem?_eq_some_iff.1 ho).1;have hil:i<l.length:=by omega
    have hils:i<listed.size:=by omega
    have hLi:listed.getD i false=false:=by
     simp only[Array.getD_eq_getD_getElem?] at hun0 ⊢;rw[Array.getElem?_eq_getElem hils] at hun0 ⊢;simpa using hun0
    have hL'i:(listed.setIfInBounds i true).getD i false=true:=by
     simp only[Array.getD_eq_getD_getElem?,Array.getElem?_setIfInBounds_self,hils,if_true];rfl
    have hL'ne:∀k,k≠i->(listed.setIfInBounds i true).getD k false=listed.getD k false:=fun k hk=>by
     simp only[Array.getD_eq_getD_getElem?,Array.getElem?_setIfInBounds_ne (Ne.symm hk)]
    have hy:=List.getElem?_eq_getElem hil;obtain⟨o',x0,b,ho',hco,f1,f2,f3⟩:=hop i _ hy;rw[ho] at ho'; cases ho';obtain⟨g1,g2,_,g4,g5⟩:=tj hco;rw[<-f2] at g1;rw[<-f1] at g2;rw[<-f3] at g5;generalize hyy:l[i]=y at *;have hall':∀e,e∈o.after.toList->Region.binds .any e=true->listed.getD e.on false=true:=fun e h1 h2=>hall e (by simpa using h1) h2
    have rdy:∀k,ahead (jb ops.toList) k i=true->listed.getD k false=true:=fun k h=>Ay (L:=fun k=>listed.getD k false) hd od.Rf ho hall' h
    have nol:∀k,k<l.length->ahead (jb ops.toList) i k=true->listed.getD k false=false:=fun k hk h=>by
     cases hL:listed.getD k false with
     |false=>rfl
     |true =>
      have:=vG (L:=fun k=>listed.getD k false) hd od.Rf k h (by omega) hL
      rw[hLi] at this; cases this
    have hiN:i<N:=by
     rcases Nat.lt_or_ge i N with h|h
     ·exact h
     rcases hxe with ⟨n1,_,_⟩|⟨n,y',v,n1,n2,n3,n4,_,_⟩
     ·omega
     ·have h5:=rdy n ((od.stop i n y' n2 n3 hil).1 (by omega))
      have:=(hin n (aq n2) h5).2;rw[n4] at this; cases this
    have agree:∀t,t∈y.reads->dg (gA env l vals (fun k=>listed.getD k false) l.length) t=dg (gA env l vals (fun _=>true) i) t:=by
     intro t ht;refine(mV l.length (Nat.le_of_lt hil) fun k h1 h2=>?_).trans (pD i fun k hk hw=>?_)
     ·rintro⟨⟨x',hx',hdx⟩,hLk⟩
      by_cases hki:k=i
      ·subst hki; rw[hLi] at hLk; cases hLk
      ·have hm:meet y x'=true:=by simp[meet,hdx,ht]
       rw[nol k h2 (od.meet i k y x' (by omega) hy hx' hm)] at hLk
       cases hLk
     ·obtain⟨x',hx',hdx⟩:=hw;have hm:meet x' y=true:=by simp[meet,hdx,ht]
      exact rdy k (od.meet k i x' y hk hx' hy hm)
    have newEnv:∀t,dg (gA env l vals (fun k=>(listed.setIfInBounds i true).getD k false) l.length) t=dg (iv (gA env l vals (fun k=>listed.getD k false) l.length) y.dst (vals i)) t:=by
     intro t
     by_cases hdt:y.dst=some t
     ·rw[hdt];simp only[iv,dg,if_true];rw[mV (i:=i+1) l.length (by omega) fun k h1 h2=>?_]
      ·exact E1 i ⟨y,hy,hdt⟩ hL'i
      ·rintro⟨⟨x',hx',hdx⟩,hLk⟩;rw[hL'ne k (by omega)] at hLk
       have hm:meet y x'=true:=by simp[meet,hdt,hdx]
       rw[nol k h2 (od.meet i k y x' (by omega) hy hx' hm)] at hLk
       cases hLk
     ·have e2:dg (iv (gA env l vals (fun k=>listed.getD k false) l.length) y.dst (vals i)) t=dg (gA env l vals (fun k=>listed.getD k false) l.length) t:=by
       unfold iv;split
       ·rename_i d hd';rw[dg,if_neg];rintro rfl;exact hdt hd'
       ·rfl
      rw[e2];refine pD _ fun k _ hw=>hL'ne k ?_
      rintro rfl;obtain⟨x',hx',hdx⟩:=hw;rw[hy] at hx'; cases hx';exact hdt hdx
    have hqN:q<=N:=by
     rcases gp.last with h|⟨p,hp1,hp2,hp3⟩
     ·omega
     ·obtain⟨z0,hz0,_⟩:=hEs hp2;have:=(hin p (aq hz0) hp3).1;omega
    -- effects that are ordered
    have effA:∀a b,a<b->E a=true->E b=true->(A0 a=false\/A0 b=false)->ahead (jb ops.toList) a b=true:=by
     intro a b hab ha hb hn;obtain⟨x',hx',hE'⟩:=hEs ha;obtain⟨y',hy',hE2⟩:=hEs hb;rcases od.eff a b x' y' hab hx' hy' hE' hE2 with h|⟨h1,h2⟩
     ·exact h
     ·rcases hn with hn|hn
      ·rw[show A0 a=true from h1] at hn; cases hn
      ·rw[show A0 b=true from h2] at hn; cases hn
    have inL:∀a b,b<l.length->ahead (jb ops.toList) a b=true->listed.getD b false=true->listed.getD a false=true:=fun a b hb h1 h2=>vG (L:=fun k=>listed.getD k false) hd od.Rf b h1 (by omega) h2
    -- what is between one that is not done and the last that is
    have betw:∀k,k<q->E k=true->A0 k=true->listed.getD k false=false->∀m,k<=m->m<q->E m=true->A0 m=true:=by
     intro k hkq hEk hAk hLk m h1 h2 hEm;cases hAm:A0 m with
     |true=>rfl
     |false =>
      exfalso;rcases gp.last with h|⟨p,hp1,hp2,hp3⟩
      ·omega
      have hqn:=gp.qn
      have hkm:k<m:=by
       rcases Nat.lt_or_ge k m with h|h
       ·exact h
       ·have:k=m:=by omega
        subst this; rw[hAk] at hAm; cases hAm
      have a1:=effA k m hkm hEk hEm (.inr hAm)
      have hLm:listed.getD m false=true:=by
       by_cases hmp:m=p
       ·rw[hmp]; exact hp3
       ·exact inL m p (by omega) (effA m p (by omega) hEm hp2 (.inl hAm)) hp3
      rw[inL k m (by omega) a1 hLm] at hLk; cases hLk
    have gC:E i=false->zi l.length mems E A0 (fun k=>(listed.setIfInBounds i true).getD k false) q G:=by
     intro hEi;have hne:∀k,E k=true->(listed.setIfInBounds i true).getD k false=listed.getD k false:=fun k hk=>hL'ne k (by rintro rfl; rw[hEi] at hk; cases hk)
     refine⟨gp.qn,gp.last.imp (fun h=>h) fun⟨p,h1,h2,h3⟩=>⟨p,h1,h2,by simp only[hne p h2]; exact h3⟩,fun k h1 h2 h3=>by simp only[hne k h3]; exact gp.rest k h1 h2 h3,gp.len,fun id=>?_,fun k h1 h2 h3=>?_⟩
     ·rcases gp.at' id with h|⟨h,k,h1,h2,h3,h4⟩
      ·exact .inl h
      ·exact .inr ⟨h,k,h1,h2,by simp only[hne k (hAE k (by omega) h2)]; exact h3,h4⟩
     ·simp only[hne k (hAE k (by omega) h2)] at h3
      exact gp.un k h1 h2 h3
    have gB:E i=true->A0 i=false->G=mems i/\zi l.length mems E A0 (fun k=>(listed.setIfInBounds i true).getD k false) (i+1) (mems (i+1)):=by
     intro hEi hAi
     have hqi:q<=i:=by
      rcases gp.last with h|⟨p,hp1,hp2,hp3⟩
      ·omega
      ·have hqn:=gp.qn;rcases Nat.lt_or_ge i p with h|h
       ·rw[inL i p (by omega) (effA i p h hEi hp2 (.inl hAi)) hp3] at hLi; cases hLi
       ·by_cases hip:i=p
        ·subst hip; simp only[hLi] at hp3; cases hp3
        ·omega
     have done:∀k,k<i->E k=true->listed.getD k false=true:=fun k hk hEk=>rdy k (effA k i hk hEk hEi (.inr hAi))
     refine⟨?_,by omega,.inr ⟨i,rfl,hEi,hL'i⟩,fun k h1 h2 h3=>by simp only[hL'ne k (show k≠i by omega)]; exact gp.rest k (by omega) h2 h3,rfl,fun id => .inl rfl,fun k h1 h2 h3=>?_⟩
     ·rw[gp.full fun k hk hAk=>done k (by omega) (hAE k (by omega) hAk)]
      refine(same q i hqi (by omega) fun k h1 h2=>?_).symm
      cases hEk:E k with
      |false=>rfl
      |true =>
       have:=gp.rest k h1 (by omega) hEk
       simp only[done k h2 hEk] at this; cases this
     ·have hki:k≠i:=by rintro rfl; rw[hAi] at h2; cases h2
      simp only[hL'ne k hki,done k (by omega) (hAE k (by omega) h2)] at h3
      cases h3
    have down':Down ops (fun k=>(listed.setIfInBounds i true).getD k false):=by
     intro k p e hp hL he' hb
     have hsome:listed.getD e.on false=true:=by
      by_cases hki:k=i
      ·subst hki;rw[ho] at hp; cases hp;exact hall' e he' hb
      ·exact hd k p e hp (by show listed.getD k false=true; rw[<-hL'ne k hki]; exact hL) he' hb
     show(listed.setIfInBounds i true).getD e.on false=true
     by_cases hei:e.on=i
     ·rw[hei]; exact hL'i
     ·rw[hL'ne _ hei]; exact hsome
    have left':left (fun k=>(listed.setIfInBounds i true).getD k false) l.length=fuel:=by
     have:=BZ (L:=fun k=>listed.getD k false) (L':=fun k=>(listed.setIfInBounds i true).getD k false) (i:=i) hLi hL'i (fun k hk=>hL'ne k hk) l.length
     rw[if_pos hil] at this;omega
    have hin':(vals i).dJ=false->∀k,k<l.length->(listed.setIfInBounds i true).getD k false=true->k<N/\(vals k).dJ=false:=by
     intro hnp k hk hL
     by_cases hki:k=i
     ·rw[hki]; exact⟨hiN,hnp⟩
     ·rw[hL'ne k hki] at hL; exact hin k hk hL
    have hgslot:∀t want,y.guard=some (t,want)->t∈y.reads:=fun t want h=>by simp[aX.reads,h]
    have hopslot:∀t,t∈y.op.eV->t∈y.reads:=fun t h=>by simp[aX.reads,h]
    unfold wpOpIn;rw[ho];simp only;rcases st i y hiN hy with ⟨hgd,hstep⟩|⟨t,want,hgt,hgv,hv0,hm0⟩
    ·rw[if_pos (rB e1 s1 g5 fun t want h=>by rw[agree t (hgslot t want h)]; exact hgd t want h)]
     cases hAi:A0 i with
     |true =>
      obtain⟨y',o',V,B,n1,n2,n3,hEi,n6,n7,npan,hruns⟩:=hA i hiN hAi;rw[hy] at n1; cases n1;rw[ho] at n2; cases n2;have hag:∀t,t∈y.op.eV->dg (gA env l vals (fun k=>listed.getD k false) l.length) t=dg (gA env l vals (fun _=>true) i) t:=fun t ht=>agree t (hopslot t ht)
      have fin:∀q' G' G1 j1' p,zi l.length mems E A0 (fun k=>(listed.setIfInBounds i true).getD k false) q' G'->Rel j1' G1 w1->Ext j1 G w1 j1' G1 w1->G1[p]?=some .nz->p=(mems i).length->G'=G1.set p B ->
        o.wpIn (Wd rd) nd P a1 w1 (wpAnyIn (Wd rd) nd P .any ops Q fuel (listed.setIfInBounds i true)) Q:=by
       intro q' G' G1 j1' p hG' hr1 hx1 hp hpe hGe;refine kY.wpIn (KP:=fun _ _=>False) (sm g1) (hruns hag hr1 ((hG.mono x1).mono hx1) (e1.mono hx1) hp ?_) fun u w' h=>h.elim
       rintro v w' ⟨j',p1,p2,p3⟩;rw[<-hGe] at p1 p2 p3;simp only at p1 p2 p3;refine ih (listed.setIfInBounds i true) _ _ (by simpa using hsz) left' down' (hin' (by rw[n6]; exact npan)) ⟨j',q',G',hG',p1,?_,x1.trans (hx1.trans p2),by rw[o9]; exact s1,by rw[put_defers]; exact d1⟩
       refine aN.wT ?_ newEnv;rw[g2,n6,<-hpe];exact(e1.mono (hx1.trans p2)).put s1 g4 p3
      rcases Nat.lt_or_ge i q with hiq|hqi
      ·-- its place is there
       have hu:=gp.un i hiq hAi hLi;have hpi:=pref (i+1) q (by omega) hqN fun k h1 h2=>betw i hiq hEi hAi hLi k (by omega) h2
       have hat:(mems q)[(mems i).length]?=some B:=by
        obtain⟨t',ht'⟩:=hpi;rw[<-ht',n7,List.append_assoc,List.getElem?_append_right (Nat.le_refl _)];simp
       refine fin q (G.set (mems i).length B) G j1 (mems i).length ⟨gp.qn,?_,fun k h1 h2 h3=>by simp only[hL'ne k (show k≠i by omega)]; exact gp.rest k h1 h2 h3,by simpa using gp.len,fun id=>?_,fun k h1 h2 h3=>?_⟩ r1 (Ext.refl _ _ _) hu rfl rfl
       ·refine gp.last.imp (fun h=>h) fun⟨p,h1,h2,h3⟩=>⟨p,h1,h2,?_⟩
        have hpi:p≠i:=by rintro rfl; simp only[hLi] at h3; cases h3
        simp only[hL'ne p hpi]; exact h3
       ·by_cases hid:(mems i).length=id
        ·subst hid;rw[br (aq hu)];exact .inl hat.symm
        ·rw[aU hid];rcases gp.at' id with h|⟨h,k,h1,h2,h3,h4⟩
         ·exact .inl h
         ·have hki:k≠i:=by rintro rfl; exact hid h4
          refine .inr ⟨h,k,h1,h2,?_,h4⟩;simp only[hL'ne k hki]; exact h3
       ·have hki:k≠i:=by rintro rfl; simp only[hL'i] at h3; cases h3
        simp only[hL'ne k hki] at h3
        have hne:(mems i).length≠(mems k).length:=by
         rcases Nat.lt_or_ge k i with h|h
         ·obtain⟨_,_,_,_,_,_,_,hEk,_,m7,_⟩:=hA k (by omega) h2
          have:=(pref (k+1) i (by omega) (by omega) fun m g1 g2=>betw k h1 hEk h2 h3 m (by omega) (by omega)).length_le
          rw[m7] at this;simp at this; omega
         ·have:=(pref (i+1) k (by omega) (by omega) fun m g1 g2=>betw i hiq hEi hAi hLi m (by omega) (by omega)).length_le
          rw[n7] at this;simp at this; omega
        rw[aU hne];exact gp.un k h1 h2 h3
      ·-- behind all that is made
       have allA:∀k,q<=k->k<i->E k=true->A0 k=true:=fun k h1 h2 h3=>by
        cases hAk:A0 k with
        |true=>rfl
        |false =>
         have:=gp.rest k h1 (by omega) h3
         simp only[rdy k (effA k i h2 h3 hEi (.inl hAk))] at this; cases this
       have hpi:=pref q i hqi (by omega) allA
       have hle:=hpi.length_le;have hln:=gp.len;have hsum:G.length+((mems i).length-(mems q).length)=(mems i).length:=by omega
       obtain⟨j1',hr1,hx1⟩:=ue r1 ((mems i).length-(mems q).length+1);have hgl:(G++List.replicate ((mems i).length-(mems q).length) aM.nz).length=(mems i).length:=by simp; omega
       have hG1:G++List.replicate ((mems i).length-(mems q).length+1) aM.nz=(G++List.replicate ((mems i).length-(mems q).length) aM.nz)++[aM.nz]:=by rw[List.replicate_succ',<-List.append_assoc]
       have hg1:(G++List.replicate ((mems i).length-(mems q).length+1) aM.nz)[(mems i).length]?=some .nz:=by
        rw[List.getElem?_append_right (by omega),List.getElem?_replicate,if_pos (by omega)]
       have hset:∀(A:aj)(m:Nat),A.length=m->A++[B]=(A++[aM.nz]).set m B:=fun A m h=>by subst h; simp
       have hg2:G++List.replicate ((mems i).length-(mems q).length) aM.nz++[B]=(G++List.replicate ((mems i).length-(mems q).length+1) aM.nz).set (mems i).length B:=by
        rw[hG1]; exact hset _ _ hgl
       refine fin (i+1) (G++List.replicate ((mems i).length-(mems q).length) aM.nz++[B]) _ j1' (mems i).length ⟨by omega,.inr ⟨i,rfl,hEi,hL'i⟩,fun k h1 h2 h3=>by simp only[hL'ne k (show k≠i by omega)]; exact gp.rest k (by omega) h2 h3,by rw[n7]; simp; omega,fun id=>?_,fun k h1 h2 h3=>?_⟩ hr1 hx1 hg1 rfl hg2
       ·rcases Nat.lt_or_ge id G.length with h|h
        ·have e1:(G++List.replicate ((mems i).length-(mems q).length) aM.nz++[B])[id]?=G[id]?:=by
          rw[List.append_assoc,List.getElem?_append_left h]
         have e2:(mems (i+1))[id]?=(mems q)[id]?:=by
          obtain⟨t',ht'⟩:=hpi;rw[n7,<-ht',List.append_assoc,List.getElem?_append_left (by omega)]
         rw[e1,e2];rcases gp.at' id with h|⟨h,k,h1,h2,h3,h4⟩
         ·exact .inl h
         ·exact .inr ⟨h,k,by omega,h2,by simp only[hL'ne k (show k≠i by omega)]; exact h3,h4⟩
        ·rcases Nat.lt_or_ge id (mems i).length with h'|h'
         ·refine .inr ⟨?_,?_⟩
          ·rw[List.getElem?_append_left (by simp; omega),List.getElem?_append_right h,List.getElem?_replicate,if_pos (by omega)]
          ·obtain⟨k,k1,k2,k3,k4⟩:=posn q i hqi (by omega) allA id (by omega) h'
           exact⟨k,by omega,k3,by simp only[hL'ne k (show k≠i by omega)]; exact gp.rest k k1 (by omega) (hAE k (by omega) k3),k4⟩
         ·left;rw[n7,List.getElem?_append_right (by simp; omega),List.getElem?_append_right h']
          congr 1;simp; omega
       ·have hki:k≠i:=by rintro rfl; simp only[hL'i] at h3; cases h3
        simp only[hL'ne k hki] at h3;rcases Nat.lt_or_ge k q with h|h
        ·have hu:=gp.un k h h2 h3;rw[List.append_assoc,List.getElem?_append_left (aq hu)];exact hu
        ·obtain⟨_,_,_,_,_,_,_,hEk,_,m7,_⟩:=hA k (by omega) h2
         have b1:=(pref (k+1) i (by omega) (by omega) fun m g1 g2=>allA m (by omega) g2).length_le
         have b2:=(pref q k h (by omega) fun m g1 g2=>allA m g1 (by omega)).length_le
         rw[m7] at b1;simp at b1;rw[List.getElem?_append_left (by simp; omega),List.getElem?_append_right (by omega),List.getElem?_replicate,if_pos (by omega)]
     |false =>
     have hex:∃q' G',bC C (gA env l vals (fun k=>listed.getD k false) l.length) G y.op=some (vals i,G')/\zi l.length mems E A0 (fun k=>(listed.setIfInBounds i true).getD k false) q' G'/\(y.lets=true->G'=mems (i+1)):=by
      have pan0:E i=false->y.lets=true->G=mems (i+1):=by
       intro hEi hlt
       have hqi:q<=i:=by
        rcases gp.last with h|⟨p,hp1,hp2,hp3⟩
        ·omega
        ·have hqn:=gp.qn;rcases Nat.lt_or_ge i p with h|h
         ·rw[inL i p (by omega) ((od.stop p i y hy hlt (by omega)).1 h) hp3] at hLi; cases hLi
         ·by_cases hip:i=p
          ·subst hip; simp only[hLi] at hp3; cases hp3
          ·omega
       have done:∀k,k<i->E k=true->listed.getD k false=true:=fun k hk hEk=>by
        obtain⟨x',hx',hE'⟩:=hEs hEk;rcases(od.stop k i y hy hlt (by omega)).2 hk with h4|h4
        ·exact rdy k h4
        ·have:=h4 x' hx';simp[aX.lV,this] at hE'
       rw[stays i hiN hEi,gp.full fun k hk hAk=>done k (by omega) (hAE k (by omega) hAk)]
       refine(same q i hqi (by omega) fun k h1 h2=>?_).symm
       cases hEk:E k with
       |false=>rfl
       |true =>
        have:=gp.rest k h1 (by omega) hEk
        simp only[done k h2 hEk] at this; cases this
      obtain⟨q1,q2⟩:=xM (C:=C) (M:=G) (op:=y.op) fun t ht=>agree t (hopslot t ht)
      rw[q1];rcases jD hstep with ⟨hn,hids,h1⟩|⟨hn,hgr,h1⟩|⟨hn,hgr,hp,h1⟩
      ·have hEi:E i=false:=by rw[hE hy]; simp[aX.lV,hn]
       exact⟨q,G,(Az (od.alone i y hy hn) h1 hids).2 _,gC hEi,pan0 hEi⟩
      all_goals
       cases hEo:y.op.Lx with
       |true =>
        have hEi:E i=true:=by rw[hE hy]; simp[aX.lV,hn,hEo]
        obtain⟨k1,k2⟩:=gB hEi hAi;exact⟨i+1,mems (i+1),by rw[k1]; exact h1,k2,fun _=>rfl⟩
       |false =>
        have hEi:E i=false:=by rw[hE hy]; simp[aX.lV,hEo]
        refine⟨q,G,?_,gC hEi,pan0 hEi⟩;cases hlo:y.op.Ih with
        |false=>exact(FT hEo hlo h1).2 _
        |true =>
         -- a load: the memory of the moment and that of the text agree at its box
         have hz:∃z,(y.op = .cY z\/(∃n,y.op = .eT n z)\/∃fk zr ok k,y.op = .look fk zr ok z k)/\∀t,t∈z.eV->t∈y.op.eV:=by
          generalize y.op=op at hlo;cases op<;>simp only[eu.Ih,Bool.false_eq_true] at hlo
          case eT n z=>exact⟨z,.inr (.inl ⟨n,rfl⟩),fun t h=>h⟩
          case look fk zr ok z k=>exact⟨z,.inr (.inr ⟨fk,zr,ok,k,rfl⟩),fun t h=>by simp[eu.eV,h]⟩
          case cY z=>exact⟨z,.inl rfl,fun t h=>h⟩
         obtain⟨z,hz1,hz2⟩:=hz
         have hrep:∃v,cC j1 G w1 (z.ev (gA env l vals (fun _=>true) i)) v:=by
          rw[<-aY (x:=z) fun t ht=>agree t (hopslot t (hz2 t ht))]
          cases z with
          |tmp t=>exact⟨_,e1.at' t⟩
          |ep c =>
           have:=od.opl i y hy;rcases hz1 with hz1|⟨n,hz1⟩|⟨_,_,_,_,hz1⟩<;>(rw[hz1] at this; cases this)
         obtain⟨v,hv⟩:=hrep
         have hsame:∀id b,id∈(z.ev (gA env l vals (fun _=>true) i)).cX->id<G.length->nth (mems i) id=some b->nth G id=some b:=by
          intro id bx hidz hidl hbx;have hq3:=gp.rest;have hq4:=gp.last;have hqn:=gp.qn;rw[gp.len] at hidl
          have hG0:nth G id=nth (mems q) id:=by
           rw[cf,cf];rcases gp.at' id with h|⟨h,_⟩
           ·exact h
           ·exact absurd h (hv.Y2 hidz)
          rw[hG0];have hni:E i=false:=by rw[hE hy]; simp[aX.lV,hEo]
          by_cases hqi:q<=i
          ·refine Ci (.inr (nR i hqi fun k h2 h3=>?_)) hidl hbx
           cases hEk:E k with
           |false=>rw[stays k (by omega) hEk]; exact List.prefix_refl _
           |true =>
            obtain⟨y',hz1',hz2'⟩:=hEs hEk
            have hunl:¬listed.getD k false=true:=by
             have h5:=hq3 k h2 (by omega) hEk
             rw[h5]; simp
            cases hzg:y'.grow with
            |false=>exact absurd (rdy k ((od.UE k i y' y hz1' hz2' hzg hy hlo).2 h3)) hunl
            |true =>
             rcases grows k y' (by omega) hz1' hz2' hzg with hg'|⟨hsp,_⟩
             ·exact hg'
             ·exact absurd (rdy k ((od.sep k i y' y hz1' hsp hy hlo).1 h3)) hunl
          ·have chain:∀n,i<=n->n<=q->nth (mems n) id=some bx:=by
            intro n;induction n with
            |zero=>intro h0 _; rw[show 0=i by omega]; exact hbx
            |succ n ihn =>
             intro h0 h0'
             by_cases he:i=n+1
             ·rw[<-he]; exact hbx
             ·have hb':=ihn (by omega) (by omega)
              cases hEk:E n with
              |false=>rw[stays n (by omega) hEk]; exact hb'
              |true =>
               obtain⟨y',hz1',hz2'⟩:=hEs hEk;cases hAn:A0 n with
               |true =>
                obtain⟨_,_,_,_,_,_,_,_,_,m7,_⟩:=hA n (by omega) hAn
                rw[cf] at hb' ⊢;rw[m7,List.getElem?_append_left (aq hb')];exact hb'
               |false =>
               have hkni:n≠i:=by rintro rfl; rw[hEk] at hni; cases hni
               have hdone:listed.getD n false=true:=by
                rcases hq4 with h0|⟨p,hp1,hp2,hp3⟩
                ·omega
                ·by_cases hkp:n=p
                 ·subst hkp; exact hp3
                 ·exact inL n p (by omega) (effA n p (by omega) hEk hp2 (.inl hAn)) hp3
               have hnol:ahead (jb ops.toList) i n=true->False:=fun ha=>by
                have:=nol n (by omega) ha
                rw[this] at hdone; cases hdone
               cases hzg:y'.grow with
               |false=>exact absurd ((od.UE n i y' y hz1' hz2' hzg hy hlo).1 (by omega)) hnol
               |true =>
                rcases grows n y' (by omega) hz1' hz2' hzg with hg'|⟨hsp,hsa⟩
                ·obtain⟨t,ht⟩:=hg';rw[cf] at hb' ⊢;rw[<-ht,List.getElem?_append_left (aq hb')];exact hb'
                ·rcases(od.sep n i y' y hz1' hsp hy hlo).2 (by omega) with ha|⟨zs,hzs,hmem,hnw⟩
                 ·exact(hnol ha).elim
                 ·have hslot:z = .tmp zs:=by
                   rcases hz1 with hz1|⟨m,hz1⟩|⟨_,_,_,_,hz1⟩<;>(rw[hz1] at hzs; cases z<;>simp[eu.F3] at hzs; rw[hzs])
                  subst hslot
                  have hsame0:dg (gA env l vals (fun _=>true) n) zs=dg (gA env l vals (fun _=>true) i) zs:=by
                   refine mV n (by omega) fun p hp1 hp2=>?_
                   rintro⟨⟨x',hx',hdx⟩,_⟩;have:=List.all_eq_true.1 hnw p (List.mem_range.2 hp2);rw[cf,hx'] at this;simp[hdx,Nat.not_lt.2 hp1] at this
                  have hat:∀ {sl:List Nat},pb (gA env l vals (fun _=>true) n) (mems n) (mems (n+1)) sl->zs∈sl->nth (mems (n+1)) id=nth (mems n) id:=by
                   intro sl;induction sl with
                   |nil=>intro _ h; cases h
                   |cons z0 r0 ih0 =>
                    intro hs hm;rcases List.mem_cons.1 hm with rfl|hm
                    ·have h6:=hs.1;rw[hsame0] at h6;simp only[cR.ev] at hidz;split at h6
                     ·rename_i id' off' he';rw[he'] at hidz;simp[ae.cX] at hidz;subst hidz;exact h6
                     ·exact h6.elim
                    ·exact ih0 hs.2 hm
                  rw[hat hsa hmem]; exact hb'
           exact chain q (by omega) (Nat.le_refl _)
         exact(B2 hlo h1).2 z hsame hz1 hv
     obtain⟨q',G',haop,hG',hpan⟩:=hex;refine kY.wpIn (KP:=fun u w'=>Aq j1 G w1 (vals i,G') u w') (sm g1) (wU hC g1 haop r1 (hG.mono x1) e1 ?_ fun u w' h=>h) ?_
     ·rintro v w' ⟨j',p1,p2,p3⟩
      have hnp:(vals i).dJ=false:=by
       cases hvi:vals i<;>first|rfl|(rw[hvi] at p3; exact p3.Eb.elim)
      refine ih (listed.setIfInBounds i true) _ w' (by simpa using hsz) left' down' (hin' hnp) ⟨j',q',G',hG',p1,?_,x1.trans p2,by rw[o9]; exact s1,by rw[put_defers]; exact d1⟩
      refine aN.wT ?_ newEnv;rw[g2];exact(e1.mono p2).put s1 g4 p3
     ·rintro u w' ⟨hu,j',p1,p2⟩;simp only at hu;rcases hxe with ⟨n1,n2,_⟩|⟨n,y',v,n1,n2,n3,n4,n5,n6⟩
      ·have:=n2 i hiN; rw[hu] at this; cases this
      ·have hin0:i=n:=by
        rcases Nat.lt_or_ge i n with h|h
        ·have:=n5 i h; rw[hu] at this; cases this
        ·omega
       subst hin0;rw[hy] at n2; cases n2;rw[hu] at n4; cases n4;have hmem:G'=mems N:=by rw[hpan n3,n1]
       rw[hmem] at p1 p2;rw[n6] at hQ;exact hQ a1 w' j' p1 (e1.nil p2) (x1.trans p2) s1 d1
    ·rw[if_neg (by rw[yU e1 s1 g5 hgt (by rw[agree t (hgslot t want hgt)]; exact hgv)]; simp)]
     have hmem:∃q',zi l.length mems E A0 (fun k=>(listed.setIfInBounds i true).getD k false) q' G:=by
      cases hEi:E i with
      |true =>
       have hAi:A0 i=false:=by
        cases hAi:A0 i with
        |false=>rfl
        |true =>
         obtain⟨y',_,_,_,n1,_,n5,_⟩:=hA i hiN hAi;rw[hy] at n1; cases n1;rw[n5] at hgt; cases hgt
       obtain⟨k1,k2⟩:=gB hEi hAi;rw[hm0,<-k1] at k2;exact⟨_,k2⟩
      |false=>exact⟨_,gC hEi⟩
     obtain⟨q',hG'⟩:=hmem;refine⟨fun _ _=>trivial,?_⟩
     refine ih (listed.setIfInBounds i true) _ w1 (by simpa using hsz) left' down' (hin' (by rw[hv0]; rfl)) ⟨j1,q',G,hG',r1,?_,x1,by rw[o9]; exact s1,by rw[put_defers]; exact d1⟩
     refine aN.wT ?_ newEnv;rw[g2,hv0];exact e1.put s1 g4 (.tuple (vs := #[]) rfl fun i c v h=>by simp at h)
 have q:Quiet w { w with drawn:=w.drawn+1 }:=⟨Nat.le_refl _,rfl,rfl,rfl⟩
 have hrep:∀k,(Array.replicate ops.size false).getD k false=false:=fun k=>by
  simp only[Array.getD_eq_getD_getElem?,Array.getElem?_replicate];split<;>rfl
 have hleft:left (fun k=>(Array.replicate ops.size false).getD k false) l.length=ops.size:=by
  have:∀n,left (fun k=>(Array.replicate ops.size false).getD k false) n=n:=by
   intro n;induction n with
   |zero=>rfl
   |succ n ihn=>rw[left,ihn,hrep n]; rfl
  rw[this,hlen]
 refine key ops.size _ a _ (by simp) hleft (fun k o e _ hL=>by rw[show(fun k=>(Array.replicate ops.size false).getD k false) k=false from hrep k] at hL; cases hL) (fun k _ hL=>by rw[hrep k] at hL; cases hL) ⟨j,0,M,⟨Nat.zero_le _,.inl rfl,fun k _ _ _=>hrep k,by rw[m0],fun id => .inl (by rw[m0]),fun k h=>by omega⟩,?_,?_,?_,hs,rfl⟩
 ·exact hr.grow q.size rfl rfl rfl fun _ _=>rfl
 ·refine aN.wT (aN.mono he (Ext.grow q.size rfl rfl rfl fun _ _=>rfl)) fun t=>?_
  exact mV (i:=0) l.length (Nat.zero_le _) fun k _ _ hc=>by have h2:=hc.2; rw[hrep k] at h2; cases h2
 ·exact Ext.grow q.size rfl rfl rfl fun _ _=>rfl
end
end
end Go.Abs
