import Derived.Test.YtcbopkblmebjiaaGreatDoorFduF
set_option linter.unusedSimpArgs false
set_option linter.unusedVariables false
set_option linter.unusedSectionVars false
set_option linter.defProp false
namespace Go.Proofs.YtcbopkblmebjiaaGreatDoor
open Go Go.Abs
section
attribute [local irreducible] fP fi kD gK dp kr aq aL ct bI
def UQ{asks:List Int}{f:vX}{i:Nat}{x:qu}(hx:f.eh[i]?=some x)(hl:asks.length<=1000){A G D:cA}{k:List K}{r:Option (ag×aK)}
  (hA:∀B M,cA.back B M A=A) (hG:∀C M,cA.back C M G=G) (hD:∀B M,cA.back B M D=D)
  (hk:∀z,kr (aq iM) [.tmp 6] 0 k ⟨.exit 2,(7,.bool true)::(8,.ptr 1 0)::(9,lM asks)::(10,.ptr 2 0)::(12,.int .i64 i)::(13,.bool (asks.any fun g=>g==x.group))::z,[A,.cells (bC f),G,D]⟩=r) :
  fP (aq iM) [.tmp 6] 0 k (.loop [7,8,9,10,12,13,14] ahk) [(7,.bool true),(8,.ptr 1 0),(9,lM asks),(10,.ptr 2 0),(12,.int .i64 i),(13,.bool false),(14,.int .i64 0)] [A,.cells (bC f),G,D]=r:=by
 have g0:((i:Int)<0)=False:=by simp
 simp only[bC] at hk ⊢;refine gA (xs:=asks) (by omega) (fun j (b:Bool)=>b=(asks.take j).any fun g=>g==x.group) (fun _ (_:Bool)=>()) (fun b j=>[(7,.bool true),(8,.ptr 1 0),(9,lM asks),(10,.ptr 2 0),(12,.int .i64 i),(13,.bool b),(14,.int .i64 j)]) (fun _=>[A,.cells [bH f.pieces,jQ f.eh,.int .i64 f.next,.int .i64 f.ai],G,D]) (fun _=>r) (fun b hb=>?_) (fun pre y post b hh hz cr hw h0 hm hb hi=>?_) false rfl
 ·rw[cQ] at hb;subst hb;simp only[E4,bf,EW,seval];exact hk _
 ·have ht:((asks.take (pre.length+1)).any fun g=>g==x.group)=(b||(y==x.group)):=by rw[dz,hz,List.any_append,<-hb]; simp
  have i1:=hi _ ht.symm;cases b
  ·rw[da] at i1;simp only[E4,hx,g0,cr,hz,hw,h0,hA,hG,hD,jH,oq,ml,pg,mj,bg,EW,seval];exact i1
  ·rw[dH] at i1;simp only[E4,hx,g0,cr,hz,hw,h0,hA,hG,hD,EW,seval];exact i1
def UR{asks:List Int}{c:Bool}{f g:vX}{i:Nat}{x:qu}(hx:f.eh[i]?=some x)(hl:g.eh.length<=1000)(hs:∀y,y∈g.eh->Small ⟨y.ae,0,0⟩){A D:cA}{k:List K}{r:Option (ag×aK)}
  (hA:∀B M,cA.back B M A=A) (hD:∀B M,cA.back B M D=D)
  (hk:∀z,kr (aq iM) [.tmp 6] 0 k ⟨.exit 4,(7,.bool true)::(8,.ptr 1 0)::(9,lM asks)::(10,.ptr 2 0)::(12,.int .i64 i)::(13,.bool c)::(15,.bool (g.eh.any fun y=>y.group==x.group&&decide (y.ae=x.ae)))::z,[A,.cells (bC f),.cells (bC g),D]⟩=r) :
  fP (aq iM) [.tmp 6] 0 k (.loop [7,8,9,10,12,13,15,16] ahl) [(7,.bool true),(8,.ptr 1 0),(9,lM asks),(10,.ptr 2 0),(12,.int .i64 i),(13,.bool c),(15,.bool false),(16,.int .i64 0)] [A,.cells (bC f),.cells (bC g),D]=r:=by
 have g0:((i:Int)<0)=False:=by simp
 simp only[bC] at hk ⊢;refine gA (xs:=g.eh) (by omega) (fun j (b:Bool)=>b=(g.eh.take j).any fun y=>y.group==x.group&&decide (y.ae=x.ae)) (fun _ (_:Bool)=>()) (fun b j=>[(7,.bool true),(8,.ptr 1 0),(9,lM asks),(10,.ptr 2 0),(12,.int .i64 i),(13,.bool c),(15,.bool b),(16,.int .i64 j)]) (fun _=>[A,.cells [bH f.pieces,jQ f.eh,.int .i64 f.next,.int .i64 f.ai],.cells [bH g.pieces,jQ g.eh,.int .i64 g.next,.int .i64 g.ai],D]) (fun _=>r) (fun b hb=>?_) (fun pre y post b hh hz cr hw h0 hm hb hi=>?_) false rfl
 ·rw[cQ] at hb;subst hb;simp only[E4,bf,EW,seval];exact hk _
 ·have ht:((g.eh.take (pre.length+1)).any fun y=>y.group==x.group&&decide (y.ae=x.ae))=(b||(y.group==x.group&&decide (y.ae=x.ae))):=by rw[dz,hz,List.any_append,<-hb]; simp
  have i1:=hi _ ht.symm;have q:=fun M=>lG (k22 y.ae x.ae (hs y hm).ae (hs y hm).aM M)
  cases b
  ·rw[da] at i1;cases h1:y.group==x.group
   ·rw[h1,cd] at i1;simp only[E4,hx,g0,cr,hz,hw,h0,hA,hD,h1,jH,oq,ml,bg,EW,seval];exact i1
   ·rw[h1,bP] at i1;simp only[E4,hx,g0,cr,hz,hw,h0,hA,hD,h1,q,jH,oq,ml,bg,EW,seval];exact i1
  ·rw[dH] at i1;simp only[E4,hx,g0,cr,hz,hw,h0,hA,hD,EW,seval];exact i1
set_option maxHeartbeats 4000000 in
set_option maxRecDepth 100000 in
def HW(n:UInt8)(xs:List kc)(o:oS):aq iM 4 [mF n,oM xs,ua o] []=some (.bool true,[]):=by
 refine aI ?_;have q1:=cP vy;have q2:=fun M=>lG (Uq xs M)
 have q3:=fun M=>lG (k13 o M)
 simp only[dK] at q3;cases h1:sE xs<;>rw[h1] at q2
 case true=>simp only[fn4,E4,mF,ua,dK,q1,q2,sd,EW,seval]
 cases h2:zi o<;>rw[h2] at q3
 case true=>simp only[fn4,E4,mF,ua,dK,q1,q2,q3,sd,EW,seval]
 cases h5:o.kind==5
 case true=>simp only[fn4,E4,mF,ua,dK,q1,q2,q3,h5,sd,EW,seval]
 cases h3:o.kind==3
 case true=>simp only[fn4,E4,mF,ua,dK,q1,q2,q3,h5,h3,sd,EW,seval]
 have hk:o.kind≠3/\o.kind≠5:=⟨by simpa using h3,by simpa using h5⟩
 obtain⟨hn,hs⟩:=sj h1;have ho:=Gf h2;have q4:=fun M=>cO (Y7 (c14 n hn hs)) M
 have hf:=FI.made (qZ n) xs;generalize uj (pU n) xs=x at *;have q5:=fun M=>lF (hf.asks ho hk M)
 change ∀M,aL (aq iM) 21 [.agg (bC (cX x)),_] M=_ at q5;have q6:=VI hf ho;have hf2:=hf.za o;have hal:=fun y hy ha=>alone hf (o:=o) hk (x:=y) hy ha
 have hsm:=hf2.small;have hl1:(cX x).eh.length<=8:=hf.eh;have hl2:(cX (za x o).1).eh.length<=8:=hf2.eh;have hE:cX x=bl x.1 x.2:=rfl;have hE2:cX (za x o).1=bl x.1 (mS x.1 x.2 o).1:=rfl;rw[<-hE,<-hE2] at hal;change ∀y,y∈(cX (za x o).1).eh->_ at hsm
 obtain⟨hna,hla⟩:0<(xR x.1 o.aR).length/\(xR x.1 o.aR).length<=8:=by
  refine⟨?_,bh (fK _ _) (by simp)⟩
  exact MR hf.prt o.aR
 have hgr:∀y,y∈(cX x).eh->0<=y.group/\y.group<8:=fun y hy=>by obtain⟨_,_,h1,h2⟩:=wO hy; exact⟨h1,h2⟩
 have hma:=fun g=>Iq (l:=x.1) (s:=o.aR) (g:=g)
 generalize xR x.1 o.aR=asks at *;generalize (za x o).2=a at *;generalize cX (za x o).1=g at *;generalize cX x=f at *;have hpos:decide ((0:Int)<(asks.length:Int))=true:=by simp; omega
 simp only[bC,dK,eA,mF] at q4 q5 q6;simp only[fn4,E4,mF,ua,dK,q1,q2,q3,q4,q5,q6,h3,h5,sd,EW,seval];have aa:=fun {i y A G D k r} hx hA hG hD hk=>UQ (asks:=asks) (f:=f) (i:=i) (x:=y) hx (by omega) (A:=A) (G:=G) (D:=D) (k:=k) (r:=r) hA hG hD hk
 have ab:=fun {c i y A D k r} hx hA hD hk=>UR (asks:=asks) (c:=c) (f:=f) (g:=g) (i:=i) (x:=y) hx (by omega) hsm (A:=A) (D:=D) (k:=k) (r:=r) hA hD hk
 simp only[bC] at aa ab
 refine cW (gA (xs:=f.eh) (by omega) (fun _ (_:Unit)=>True) (fun _ (_:Unit)=>()) (fun _ i=>[(7,.bool true),(8,.ptr 1 0),(9,lM asks),(10,.ptr 2 0),(12,.int .i64 i)])
  (fun _=>[.cells [.int .i64 o.kind,.int .i64 o.jw,.str o.aR,.str o.rp,.int .i64 o.n,.int .i64 o.m,.int .i64 o.handle,jo o.data],.cells [bH f.pieces,jQ f.eh,.int .i64 f.next,.int .i64 f.ai],.cells [bH g.pieces,jQ g.eh,.int .i64 g.next,.int .i64 g.ai],.cells [.int .i64 a.err,.int .i64 a.au,.int .i64 a.kind,.int .i64 a.n,.int .i64 a.m,fL a.names,jo a.data]])
  (fun _=>some (.bool true,[])) (fun _ _=>?_) (fun pre y post _ hh hz cr hw h0 hm _ hi=>?_) () trivial) rfl
 ·simp only[E4,bf,hpos,EW,seval]
 ·have i1:=hi () trivial;simp only[E4,cr,EW,seval];refine aa hz (fun _ _=>rfl) (fun _ _=>rfl) (fun _ _=>rfl) (fun z=>?_)
  simp only[E4,EW,seval];refine ab hz (fun _ _=>rfl) (fun _ _=>rfl) (fun z=>?_)
  have hor:(asks.any fun g=>g==y.group)=true\/(g.eh.any fun z=>z.group==y.group&&decide (z.ae=y.ae))=true:=by
   cases hc:asks.any fun g=>g==y.group
   ·right;obtain⟨g0,g8⟩:=hgr y hm
    have:wm x.1 o.aR y.group=false:=by
     rw[<-Bool.not_eq_true];intro hq;have:=(hma y.group g0 g8).2 hq;have h2:=List.any_eq_false.1 hc _ this;simp at h2
    obtain⟨w,w1,w2,w3⟩:=hal y hm this;exact List.any_eq_true.2 ⟨w,w1,by simp[w2,w3]⟩
   ·exact .inl rfl
  generalize (asks.any fun g=>g==y.group)=b1 at hor ⊢
  generalize (g.eh.any fun z=>z.group==y.group&&decide (z.ae=y.ae))=b2 at hor ⊢
  cases b1<;>cases b2
  ·rcases hor with h|h<;>cases h
  all_goals simp only[E4,hw,EW,seval]; exact i1
end
end Go.Proofs.YtcbopkblmebjiaaGreatDoor
