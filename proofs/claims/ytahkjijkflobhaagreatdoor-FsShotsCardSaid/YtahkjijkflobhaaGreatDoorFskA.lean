import Derived.Test.YtahkjijkflobhaaGreatDoorFsuG
set_option linter.unusedSimpArgs false
set_option linter.unusedVariables false
set_option linter.unusedSectionVars false
set_option linter.defProp false
open Go.Proofs.Tryz
namespace Go.Proofs.YtahkjijkflobhaaGreatDoor
open Go Go.Abs
def zh(s:gh)(a:Int)(n:Node):Prop:=(∃(j:Nat) (c:Int),s.now.ae[j]?=some n/\s.since[j]?=some c/\c<=a)\/∃p,p∈s.dz/\p.node=n/\p.jw<=a/\a<p.pT
theorem I3(a:Int)(k:Int):∀(l:List pj)(m:AM Node),
  (∀n,dx (l.foldl (jy a) m) k=some n->(∃p,p∈l/\p.node=n/\p.jw<=a/\a<p.pT/\n.an=k)\/dx m k=some n) /\
  ((dx m k).isSome=true\/(∃p,p∈l/\p.jw<=a/\a<p.pT/\p.node.an=k)->(dx (l.foldl (jy a) m) k).isSome=true)
 | [],m=>⟨fun n h => .inr h,fun h=>by
   grind⟩
 |p::r,m=>by
  obtain⟨h1,h2⟩:=I3 a k r (jy a m p);rw[dZ];refine⟨fun n hn=>?_,fun h=>h2 ?_⟩
  ·rcases h1 n hn with ⟨q,q1,q2⟩|h
   ·grind
   ·unfold jy at h;split at h
    ·rename_i hc;simp only[bn,bg] at hc;rw[gZ] at h
     grind
    ·exact .inr h
  ·unfold jy;rcases h with h|⟨q,q1,q2,q3,q4⟩
   ·grind [gZ]
   ·rcases bC.1 q1 with rfl|q1
    ·simp_all [gZ]
    grind
theorem IQ(a:Int)(k:Int):∀(l:List Node)(ys:List Int)(m:AM Node),
  (∀n,dx (oj a l ys m) k=some n->(∃(j:Nat) (c:Int),l[j]?=some n/\ys[j]?=some c/\c<=a/\n.an=k)\/dx m k=some n) /\
  ((dx m k).isSome=true\/(∃(j:Nat) (n:Node) (c:Int),l[j]?=some n/\ys[j]?=some c/\c<=a/\n.an=k)->(dx (oj a l ys m) k).isSome=true)
 | [],ys,m=>by
  grind [oj]
 |x::l,[],m=>by
  grind [oj]
 |x::l,y::ys,m=>by
  obtain⟨h1,h2⟩:=IQ a k l ys (if decide (y<=a) then lR m x.an x else m)
  rw[oj];refine⟨fun n hn=>?_,fun h=>h2 ?_⟩
  ·rcases h1 n hn with ⟨j,c,q1,q2,q3⟩|h
   ·exact .inl ⟨j+1,c,by simpa using q1,by simpa using q2,q3⟩
   ·split at h
    ·rename_i hc;rw[gZ] at h;split at h
     ·rename_i hk;injection h with h
      exact .inl ⟨0,y,by simp[h],rfl,fA hc,by rw[<-h,hk]⟩
     ·exact .inr h
    ·exact .inr h
  ·rcases h with h|⟨j,n,c,q1,q2,q3,q4⟩
   ·left; split
    ·rw[gZ]; split
     ·rfl
     ·exact h
    ·exact h
   ·cases j with
    |zero =>
     simp_all [eX,gZ]
    |succ j=>exact .inr ⟨j,n,c,by simpa using q1,by simpa using q2,q3,q4⟩
theorem WH{s:gh}{a:Int}(hu:∀n m,zh s a n->zh s a m->n.an=m.an->n=m)(k:Int)(n:Node):dx (sf s a) k=some n↔zh s a n/\n.an=k:=by
 obtain⟨p1,p2⟩:=I3 a k s.dz [];obtain⟨n1,n2⟩:=IQ a k s.now.ae s.since _
 have sound:∀n,dx (sf s a) k=some n->zh s a n/\n.an=k:=fun n h=>by
  rcases n1 n h with ⟨j,c,h1,h2,h3,h4⟩|h
  ·exact⟨.inl ⟨j,c,h1,h2,h3⟩,h4⟩
  ·rcases p1 n h with ⟨p,q1,q2,q3,q4,q5⟩|h
   ·exact⟨.inr ⟨p,q1,q2,q3,q4⟩,q5⟩
   ·cases h
 refine⟨sound n,fun⟨hv,hk⟩=>?_⟩
 have:(dx (sf s a) k).isSome=true:=by
  refine n2 ?_;rcases hv with ⟨j,c,h1,h2,h3⟩|⟨p,h1,h2,h3,h4⟩
  ·exact .inr ⟨j,n,c,h1,h2,h3,hk⟩
  grind
 grind [Option.isSome_iff_exists,sound]
structure wM(K:Nat)(s:gh):Prop where
 tick:0<=s.tick/\s.tick<=K
 next:1<=s.next/\s.next<=K+1
 since:∀c,c∈s.since->0<=c/\c<=s.tick
 past:∀p,p∈s.dz->0<=p.jw/\p.jw<p.pT/\p.pT<=s.tick/\vx s.cf p.jw p.pT=true
 jv:s.dz.Pairwise fun q p=>(q.pT<p.pT\/q.pT=p.pT/\q.node.an<p.node.an)/\(q.node.an=p.node.an->q.pT<=p.jw)
 after:∀p,p∈s.dz->∀(j:Nat)(n:Node)(c:Int),s.now.ae[j]?=some n->s.since[j]?=some c->n.an=p.node.an->p.pT<=c
 Es:∀x,x∈s.cf->1<=x.id/\x.id<s.next/\0<=x.at'/\x.at'<=s.tick
 wo:s.cf.Pairwise fun x y=>x.id<y.id/\x.at'<=y.at'
 whole:∀x,x∈s.cf->(∃n,zh s x.at' n/\n.an=x.an/\n.kind=2)/\∀n e,zh s x.at' n->e∈n.aM->∃m,zh s x.at' m/\m.an=e.an
theorem Lj{α:Type}{R:α->α->Prop}:∀ {l:List α},l.Pairwise R->∀ {p q:α},p∈l->q∈l->p=q\/R p q\/R q p
 | [],_,_,_,h,_=>by grind
 |x::l,hw,p,q,hp,hq=>by
  obtain⟨h1,h2⟩:=cv.1 hw;rcases bC.1 hp with rfl|hp'<;>rcases bC.1 hq with rfl|hq'
  ·simp
  ·grind
  ·grind
  ·exact Lj h2 hp' hq'
section
variable {K:Nat} {s:gh} (h:wM K s) (hr:mG s.now.ae)
include h hr
theorem wM.uniq{a:Int}{n m:Node}(hn:zh s a n)(hm:zh s a m)(e:n.an=m.an):n=m:=by
 rcases hn with ⟨j,c,h1,h2,h3⟩|⟨p,h1,h2,h3,h4⟩<;>rcases hm with ⟨j',c',g1,g2,g3⟩|⟨q,g1,g2,g3,g4⟩
 ·have:=zK hr h1 g1 e
  grind
 ·have:=h.after q g1 j n c h1 h2 (by rw[e,g2]); omega
 ·have:=h.after p h1 _ m c' g1 g2 (by rw[h2,e]); omega
 ·rcases Lj h.jv h1 g1 with hpq|⟨_,hpq⟩|⟨_,hpq⟩
  ·rw[<-h2,<-g2,hpq]
  ·have:=hpq (by rw[h2,g2,e]); omega
  grind
theorem wM.all(a k:Int)(n:Node):dx (sf s a) k=some n↔zh s a n/\n.an=k:=WH (fun _ _ h1 h2 e=>h.uniq hr h1 h2 e) k n
end
theorem chg{t:Tree}(ht:mG t.ae)(n:Node):(decide (Wh t.ae n.an<0) || !decide (n=aX t.ae n.an))=true↔find t.ae n.an≠some n:=by
 rcases zp ht n.an with ⟨_,h2,_,h4⟩|⟨_,h2,h3⟩
 ·grind
 grind
theorem tN{t:Tree}(ht:mG t.ae){tk:List jm}{T:Int}:∀(l:List Node)(y:List Int)(p:pj),p∈ja t tk T l y↔∃(j:Nat) (n:Node) (c:Int),l[j]?=some n/\y[j]?=some c/\p=⟨c,T,n⟩/\find t.ae n.an≠some n/\vx tk c T=true
 | [],y,p=>by simp[ja]
 |n::r,[],p=>by simp[ja]
 |n::r,x::y,p=>by
  rw[ja,bm,tN ht r y p];constructor
  ·rintro(hp|⟨j,m,c,h1,h2,h3⟩)
   ·split at hp
    ·rename_i hc;rw[bn,chg ht] at hc;exact⟨0,n,x,rfl,rfl,bM.1 hp,hc⟩
    ·cases hp
   ·exact⟨j+1,m,c,by simpa using h1,by grind,h3⟩
  ·rintro⟨j,m,c,h1,h2,h3,h4⟩;cases j with
   |zero =>
    left;simp only[fy,eX] at h1 h2;subst h1 h2;rw[bc (by rw[bn,chg ht]; exact h4)]
    grind
   |succ j=>grind
theorem I2{t:Tree}(ht:mG t.ae){tk:List jm}{T:Int}:∀(l:List Node)(y:List Int),mG l->(ja t tk T l y).Pairwise fun q p=>(q.pT<p.pT\/q.pT=p.pT/\q.node.an<p.node.an)/\(q.node.an=p.node.an->q.pT<=p.jw)
 | [],y,_=>by simp[ja]
 |n::r,[],_=>by simp[ja]
 |n::r,x::y,hl=>by
  obtain⟨h1,h2⟩:=cv.1 hl;rw[ja,dJ];refine⟨by split<;>simp,I2 ht r y h2,fun p hp q hq=>?_⟩
  obtain⟨j,m,c,g1,g2,rfl,_⟩:=(tN ht r y q).1 hq
  grind
def Ar.mono{P Q:Int->Prop}{s u:gh}(h:Ar P s u)(hp:∀d,P d->Q d):Ar Q s u:=by
 rcases h with h|h|h|⟨d,h1,h2⟩
 ·exact .inl h
 ·exact .inr (.inl h)
 ·exact .inr (.inr (.inl h))
 ·exact .inr (.inr (.inr ⟨d,hp d h1,h2⟩))
section
variable {K:Nat} {s:gh} (h:wM K s) (hK:K<=100000) (hr:Rt s.now) (hl:s.since.length=s.now.ae.length)
include h hK hr hl
theorem wM.MM{t:Tree}(ht:mG t.ae){x:jm}(hx:x∈s.cf)(n:Node):zh (ki s t) x.at' n↔zh s x.at' n:=by
 obtain⟨x1,x2,x3,x4⟩:=h.Es x hx;have hT:kR (s.tick+1)=s.tick+1:=gn (by have:=h.tick; omega) (by have:=h.tick; omega)
 have hs:=hr.jo.jv;unfold ki;split
 ·rfl
 rw[hT];unfold zh;simp only[bm,tN ht];constructor
 ·rintro(⟨j,c,h1,h2,h3⟩|⟨p,h1|⟨j,m,c,g1,g2,rfl,_⟩,h2,h3,h4⟩)
  ·rw[bf,h1] at h2;simp only[eP,eX] at h2;rcases xk hs hl (s.tick+1) n with ⟨i,i1,i2⟩|⟨_,i2⟩<;>grind
  ·exact .inr ⟨p,h1,h2,h3,h4⟩
  ·simp only at h2 h3;subst h2;exact .inl ⟨j,c,g1,g2,h3⟩
 ·rintro(⟨j,c,h1,h2,h3⟩|⟨p,h1,h2⟩)
  ·by_cases e:find t.ae n.an=some n
   ·obtain⟨i,hi⟩:=bE (bP e).1;refine .inl ⟨i,c,hi,?_,h3⟩;rw[bf,hi,eP];rcases xk hs hl (s.tick+1) n with ⟨j',i1,i2⟩|⟨i1,_⟩
    ·have:=zK hs h1 i1 rfl;subst this;rw[h2] at i2; exact i2.symm
    ·exact absurd ((fC hs).2 ⟨aQ h1,rfl⟩) i1
   ·refine .inr ⟨⟨c,s.tick+1,n⟩,.inr ⟨j,n,c,h1,h2,rfl,e,?_⟩,rfl,h3,by simp only; omega⟩
    exact gN.2 ⟨x,hx,by simp[tW]; omega⟩
  ·exact .inr ⟨p,.inl h1,h2⟩
theorem wM.put{t:Tree}(ht:Rt t):wM (K+200) (ki s t):=by
 have hT:kR (s.tick+1)=s.tick+1:=gn (by have:=h.tick; omega) (by have:=h.tick; omega)
 have hs:=hr.jo.jv;have ha:=ht.jo.jv;have hv:=fun {x}=>h.MM hK hr hl ha (x:=x)
 obtain⟨t1,t2⟩:=h.tick;obtain⟨n1,n2⟩:=h.next
 unfold ki at hv ⊢;split
 ·exact⟨⟨t1,by omega⟩,⟨n1,by omega⟩,h.since,h.past,h.jv,h.after,h.Es,h.wo,h.whole⟩
 rename_i hc;rw[aH hc] at hv;rw[hT] at hv ⊢;refine⟨⟨by simp only; omega,by simp only; omega⟩,⟨n1,by simp only; omega⟩,fun c hc=>?_,fun p hp=>?_,?_,fun p hp j n c h1 h2 e=>?_,fun x hx=>?_,h.wo,fun x hx=>?_⟩
 ·obtain⟨n,_,rfl⟩:=dj.1 hc;rcases xk hs hl (s.tick+1) n with ⟨j,_,i2⟩|⟨_,i2⟩
  ·have:=h.since _ (aQ i2);simp only; omega
  grind
 ·rcases bm.1 hp with hp|hp
  ·obtain⟨g1,g2,g3,g4⟩:=h.past p hp
   grind
  ·obtain⟨j,n,c,g1,g2,rfl,_,g3⟩:=(tN ha _ _ p).1 hp;have:=h.since c (aQ g2)
   grind
 ·rw[dJ];refine⟨h.jv,I2 ha _ _ hs,fun q hq p hp=>?_⟩
  obtain⟨j,n,c,g1,g2,rfl,_,_⟩:=(tN ha _ _ p).1 hp;have:=(h.past q hq).2.2.1;exact⟨.inl (by simp only; omega),fun e=>h.after q hq j n c g1 g2 e.symm⟩
 ·simp only at h1 h2;rw[bf,h1,eP] at h2;injection h2 with h2
  rcases xk hs hl (s.tick+1) n with ⟨i,i1,i2⟩|⟨_,i2⟩
  ·rw[h2] at i2;rcases bm.1 hp with hp|hp
   ·exact h.after p hp i n c i1 i2 e
   ·exfalso;obtain⟨j',m,c',g1,g2,rfl,g3,_⟩:=(tN ha _ _ p).1 hp;have:=zK hs i1 g1 e;subst this;rw[i1] at g1; injection g1 with g1
    subst g1;exact g3 ((fC ha).2 ⟨aQ h1,rfl⟩)
  ·have:p.pT<=s.tick+1:=by
    rcases bm.1 hp with hp|hp
    ·have:=(h.past p hp).2.2.1; omega
    ·obtain⟨j',m,c',g1,g2,rfl,_⟩:=(tN ha _ _ p).1 hp;simp[]
   omega
 ·obtain⟨g1,g2,g3,g4⟩:=h.Es x hx
  grind
 ·obtain⟨⟨n,w1,w2⟩,w3⟩:=h.whole x hx
  grind
omit hK in
theorem wM.M7(n:Node):zh s s.tick n↔n∈s.now.ae:=by
 constructor
 ·rintro(⟨j,c,h1,_⟩|⟨p,h1,_,_,h4⟩)
  ·exact aQ h1
  ·have:=(h.past p h1).2.2.1; omega
 ·intro hn;obtain⟨j,hj⟩:=bE hn;have cz:=(aq.1 hj).1;have hc:s.since[j]?=some (s.since[j]'(by omega)):=ai _
  exact .inl ⟨j,_,hj,hc,(h.since _ (aQ hc)).2⟩
omit hK hl in
theorem wM.drop(d:Int):wM (K+200) (nV s d).1/\∀x,x∈s.cf->x.id≠d->x∈(nV s d).1.cf/\∀n,zh (nV s d).1 x.at' n↔zh s x.at' n:=by
 obtain⟨t1,t2⟩:=h.tick;obtain⟨n1,n2⟩:=h.next
 have h0:wM (K+200) s:=⟨⟨t1,by omega⟩,⟨n1,by omega⟩,h.since,h.past,h.jv,h.after,h.Es,h.wo,h.whole⟩
 unfold nV;split
 ·exact⟨h0,fun x hx _=>⟨hx,fun n=>Iff.rfl⟩⟩
 have hk:∀x,x∈s.cf.filter (kJ d)->x∈s.cf:=fun x hx=>(cm.1 hx).1
 have hv:∀x,x∈s.cf.filter (kJ d)->∀n,zh ⟨s.now,s.tick,s.since,s.dz.filter (ri (s.cf.filter (kJ d))),s.cf.filter (kJ d),s.next⟩ x.at' n↔zh s x.at' n:=fun x hx n=>by
  unfold zh;simp only[cm (p:=ri _)];constructor
  ·rintro(h1|⟨p,⟨h1,_⟩,h2⟩)
   ·exact .inl h1
   ·exact .inr ⟨p,h1,h2⟩
  ·rintro(h1|⟨p,h1,h2,h3,h4⟩)
   ·exact .inl h1
   ·exact .inr ⟨p,⟨h1,gN.2 ⟨x,hx,by simp[tW]; omega⟩⟩,h2,h3,h4⟩
 refine⟨⟨⟨t1,by simp only; omega⟩,⟨n1,by simp only; omega⟩,h.since,fun p hp=>?_,h.jv.filter _,fun p hp=>h.after p (cm.1 hp).1,fun x hx=>h.Es x (hk x hx),h.wo.filter _,fun x hx=>?_⟩,fun x hx hd=>?_⟩
 ·obtain⟨p1,p2⟩:=cm.1 hp;obtain⟨g1,g2,g3,_⟩:=h.past p p1;exact⟨g1,g2,g3,p2⟩
 ·obtain⟨⟨n,w1,w2⟩,w3⟩:=h.whole x (hk x hx);refine⟨⟨n,(hv x hx n).2 w1,w2⟩,fun n e g1 g2=>?_⟩
  obtain⟨m,m1,m2⟩:=w3 n e ((hv x hx n).1 g1) g2;exact⟨m,(hv x hx m).2 m1,m2⟩
 ·have hm:x∈s.cf.filter (kJ d):=cm.2 ⟨hx,by simp[kJ,hd]⟩
  exact⟨hm,hv x hm⟩
theorem wM.take(i:Int):wM (K+200) (takeN s i).1/\∀x,x∈s.cf->x∈(takeN s i).1.cf/\∀n,zh (takeN s i).1 x.at' n↔zh s x.at' n:=by
 obtain⟨t1,t2⟩:=h.tick;obtain⟨n1,n2⟩:=h.next
 have h0:wM (K+200) s:=⟨⟨t1,by omega⟩,⟨n1,by omega⟩,h.since,h.past,h.jv,h.after,h.Es,h.wo,h.whole⟩
 have hN:kR (s.next+1)=s.next+1:=gn (by omega) (by omega)
 unfold takeN;split
 ·exact⟨h0,fun x hx=>⟨hx,fun n=>Iff.rfl⟩⟩
 rename_i c1;split
 ·exact⟨h0,fun x hx=>⟨hx,fun n=>Iff.rfl⟩⟩
 rename_i c2;split
 ·exact⟨h0,fun x hx=>⟨hx,fun n=>Iff.rfl⟩⟩
 rw[hN];have hmem:∀x,x∈s.cf++[⟨s.next,i,s.tick⟩]↔x∈s.cf\/x=⟨s.next,i,s.tick⟩:=fun x=>by simp
 refine⟨⟨⟨t1,by simp only; omega⟩,⟨by simp only; omega,by simp only; omega⟩,h.since,fun p hp=>?_,h.jv,h.after,fun x hx=>?_,?_,fun x hx=>?_⟩,fun x hx=>⟨dq _ hx,fun n=>Iff.rfl⟩⟩
 ·obtain⟨g1,g2,g3,g4⟩:=h.past p hp;obtain⟨x,x1,x2⟩:=gN.1 g4;exact⟨g1,g2,g3,gN.2 ⟨x,dq _ x1,x2⟩⟩
 ·rcases(hmem x).1 hx with hx|rfl
  ·obtain⟨g1,g2,g3⟩:=h.Es x hx;exact⟨g1,by simp only; omega,g3⟩
  ·exact⟨n1,by simp only; omega,t1,cp _⟩
 ·rw[dJ];refine⟨h.wo,by simp,fun x hx y hy=>?_⟩
  rw[bM.1 hy];obtain⟨_,g2,_,g4⟩:=h.Es x hx;exact⟨g2,g4⟩
 ·rcases(hmem x).1 hx with hx|rfl
  ·exact h.whole x hx
  ·obtain⟨n,hn⟩:∃n,find s.now.ae i=some n:=ct.1 (by simpa[Option.isSome_iff_ne_none] using c1)
   have hnn:aX s.now.ae i=n:=by simp[aX,hn]
   have hv:∀n,zh ⟨s.now,s.tick,s.since,s.dz,s.cf++[⟨s.next,i,s.tick⟩],s.next+1⟩ s.tick n↔n∈s.now.ae:=h.M7 hr hl
   refine⟨⟨n,(hv n).2 (bP hn).1,(bP hn).2,by rw[hnn] at c2; simpa using c2⟩,fun m e g1 g2=>?_⟩
   have g1:=(hv m).1 g1;obtain⟨cE,hg⟩:=hr;obtain⟨_,_,_,_,q,q1,_⟩:=hg.Au _ _ e ((fC hg.jo.jv).2 ⟨g1,rfl⟩) g2;exact⟨q,(hv q).2 (bP q1).1,(bP q1).2⟩
theorem wM.step{P:Int->Prop}{u:gh}(hu:Ar P s u):wM (K+200) u/\∀x,x∈s.cf->¬P x.id->x∈u.cf/\∀n,zh u x.at' n↔zh s x.at' n:=by
 obtain⟨t1,t2⟩:=h.tick;obtain⟨n1,n2⟩:=h.next
 rcases hu with rfl|⟨t,ht,rfl⟩|⟨i,rfl⟩|⟨d,hd,rfl⟩
 ·exact⟨⟨⟨t1,by omega⟩,⟨n1,by omega⟩,h.since,h.past,h.jv,h.after,h.Es,h.wo,h.whole⟩,fun x hx _=>⟨hx,fun n=>Iff.rfl⟩⟩
 ·refine⟨h.put hK hr hl ht,fun x hx _=>⟨?_,h.MM hK hr hl ht.jo.jv hx⟩⟩
  unfold ki;split<;>exact hx
 ·exact⟨(h.take hK hr hl i).1,fun x hx _=>(h.take hK hr hl i).2 x hx⟩
 ·exact⟨(h.drop hr d).1,fun x hx hp=>(h.drop hr d).2 x hx fun e=>hp (by rw[e]; exact hd)⟩
end
def y9(P:Int->Prop){f:aa}{t:Tree}(ht:Rt t)(Q:List cF):Ar P f.s (gz f t Q).1.s:=by
 unfold gz;split
 ·exact .inl rfl
 split
 ·exact .inl rfl
 ·exact .inr (.inl ⟨_,vg _ _ _ ht,rfl⟩)
def H7(P:Int->Prop){f:aa}(hf:uo f)(o:jk)(i:Int)(d:Bytes):Ar P f.s (pK f o i d).1.s:=by
 have hr:=y9 P (f:=f) (hf.rt.put i d) f.cq;unfold pK;simp only[];split
 ·exact .inl rfl
 split<;>exact hr
def Drp(o:jk)(d:Int):Prop:=o.kind=16/\d=o.n
def Wc{K:Nat}{f:aa}{o:jk}(hf:uo f)(hk:dx pV o.kind=some K):Ar (Drp o) f.s (ma K f o).1.s:=by
 have h0:Ar (Drp o) f.s f.s := .inl rfl;have hr:=hf.rt;have hp {t:Tree} (ht:Rt t):=y9 (Drp o) (f:=f) ht f.cq;have hm:=vo _ _ _ hk;simp only[pV,bC,Prod.mk.injEq,List.not_mem_nil,or_false] at hm;rcases hm with ⟨_,rfl⟩|⟨_,rfl⟩|⟨_,rfl⟩|⟨_,rfl⟩|⟨_,rfl⟩|⟨_,rfl⟩|⟨_,rfl⟩|⟨_,rfl⟩|⟨_,rfl⟩|⟨_,rfl⟩|⟨_,rfl⟩|⟨_,rfl⟩|⟨_,rfl⟩|⟨_,rfl⟩|⟨_,rfl⟩|⟨e,rfl⟩|⟨_,rfl⟩
 ·show Ar _ f.s (wj f o).1.s
  unfold wj; split<;>exact h0
 ·show Ar _ f.s (yo f o).1.s
  have hr:=hp (hr.add (iK f.s.now o.da).1 (iK f.s.now o.da).2.1 o.n);unfold yo; simp only[]; repeat' split
  all_goals first|exact h0|exact hr
 ·show Ar _ f.s (yn f o).1.s
  have hr:=hp (hr.ln (aX f.s.now.ae (fY f.s.now o.da).1).an (iK f.s.now o.tZ).1 (iK f.s.now o.tZ).2.1);unfold yn; simp only[]; repeat' split
  all_goals first|exact h0|exact hr
 ·show Ar _ f.s (py f o).1.s
  have hr:=hp (hr.un (iK f.s.now o.da).1 (iK f.s.now o.da).2.1);unfold py; simp only[]; repeat' split
  all_goals first|exact h0|exact hr
 ·show Ar _ f.s (pw f o).1.s
  have hr:=hp (hr.mv (iK f.s.now o.da).1 (iK f.s.now o.da).2.1 (iK f.s.now o.tZ).1 (iK f.s.now o.tZ).2.1);unfold pw; simp only[]; repeat' split
  all_goals first|exact h0|exact hr
 ·show Ar _ f.s (BN f o).1.s
  unfold BN; simp only[]; repeat' split
  all_goals exact h0
 ·show Ar _ f.s (wq f o).1.s
  unfold wq; simp only[]; split<;>exact h0
 ·show Ar _ f.s (vr f o).1.s
  unfold vr; simp only[]; repeat' split
  all_goals exact h0
 ·show Ar _ f.s (sg f o).1.s
  unfold sg; simp only[]; split
  ·exact h0
  ·exact .inr (.inl ⟨_,hr.close _ _ _,rfl⟩)
 ·show Ar _ f.s (xi f o).1.s
  unfold xi; repeat' split
  all_goals exact h0
 ·show Ar _ f.s (uR f o).1.s
  unfold uR; repeat' split
  all_goals first|exact h0|exact H7 _ hf o _ _
 ·show Ar _ f.s (Ee f o).1.s
  unfold Ee; split
  ·exact h0
  ·exact H7 _ hf o _ _
 ·show Ar _ f.s (uO f o).1.s
  have hr:=y9 (Drp o) (f:=f) hr (tP f.s.now f.cq (aX f.s.now.ae (fY f.s.now o.da).1).an o.n o.m).1;unfold uO; simp only[]; repeat' split
  all_goals first|exact h0|exact hr
 ·show Ar _ f.s (su f o).1.s
  unfold su; simp only[]; repeat' split
  all_goals first|exact h0|exact .inr (.inr (.inl ⟨_,rfl⟩))
 ·show Ar _ f.s (qP f o).1.s
  unfold qP; simp only[]; repeat' split
  all_goals exact h0
 ·show Ar _ f.s (wc f o).1.s
  unfold wc; simp only[]; split
  ·exact h0
  ·exact .inr (.inr (.inr ⟨_,⟨e,rfl⟩,rfl⟩))
 ·show Ar _ f.s (wT f o).1.s
  unfold wT BE; simp only[];exact .inr (.inl ⟨_,hr.gone _ _ _,rfl⟩)
def W8{f:aa}{o:jk}(hf:uo f):Ar (Drp o) f.s (lN f o).1.s:=by
 unfold lN;split
 ·exact .inl rfl
 ·rename_i K hk;split
  ·split
   ·exact Wc hf hk
   ·exact .inl rfl
  ·exact .inl rfl
def asy:wM 0 f0.s :=
 ⟨⟨by decide,by decide⟩,⟨by decide,by decide⟩,fun c hc=>by revert c; decide,fun p hp=>(by cases hp),.nil,fun p hp=>(by cases hp),fun x hx=>(by cases hx),.nil,fun x hx=>(by cases hx)⟩
def wM.mono{K L:Nat}{s:gh}(h:wM K s)(hl:K<=L):wM L s :=
 ⟨⟨h.tick.1,by have:=h.tick; omega⟩,⟨h.next.1,by have:=h.next; omega⟩,h.since,h.past,h.jv,h.after,h.Es,h.wo,h.whole⟩
def Chn.ok{K:Nat}{f:aa}(h:Chn K f):K<=100000->wM K f.s:=by
 induction h with
 |new=>intro _; exact asy
 |step _ hb hs ih=>intro hK; exact((ih (by omega)).step (by omega) hb.ok.rt hb.ok.len hs).1
def wM.do{K:Nat}{f:aa}(h:wM K f.s)(hK:K<=100000)(hf:uo f)(o:jk):wM (K+200) (lN f o).1.s/\∀x,x∈f.s.cf->¬Drp o x.id->x∈(lN f o).1.s.cf/\∀n,zh (lN f o).1.s x.at' n↔zh f.s x.at' n:=h.step hK hf.rt hf.len (W8 hf)
def B3{a b:AM Node}(h:∀k,dx a k=dx b k):∀(f:Nat)(an:Int)(st:VS),fU a f an st=fU b f an st
 |0,_,_=>rfl
 |f+1,an,st=>by
  have ih:=B3 h f;simp only[fU,h,ih]
def V7{K L:Nat}{s u:gh}(hs:wM K s)(hu:wM L u)(rs:Rt s.now)(ru:Rt u.now){x:jm}(h:∀n,zh u x.at' n↔zh s x.at' n):uc u x=uc s x:=by
 have:∀k,dx (sf u x.at') k=dx (sf s x.at') k:=fun k=>Option.ext fun n=>by
  rw[hu.all ru.jo.jv,hs.all rs.jo.jv,h]
 exact B3 this _ _ _
def wM.O9{K:Nat}{s:gh}(hs:wM K s){x:jm}(hx:x∈s.cf):s.cf.find? (fun y=>y.id==x.id)=some x:=by
 cases hf:s.cf.find? (fun y=>y.id==x.id) with
 |none=>exact absurd (df.1 hf x hx) (by simp)
 |some y =>
  have hy:=fI hf;have he:y.id=x.id:=by simpa using nF hf
  rcases Lj hs.wo hy hx with h|h|h
  ·rw[h]
  ·have:=h.1; omega
  ·have:=h.1; omega
def wM.P3{K:Nat}{s:gh}(hs:wM K s){x:jm}(hx:x∈s.cf):rL s x.id=(x.an,rT s x,0):=by
 unfold rL;rw[hs.O9 hx]
structure Wg(all:AM Node)(a b:VS):Prop where
 IL:missing all b.1<=missing all a.1
 met:∀k,(dx a.1 k).isSome=true->(dx b.1 k).isSome=true
 out:∀n,n∈a.2->n∈b.2
 new:∀k,(dx b.1 k).isSome=true->(dx a.1 k).isSome=true\/∃n,dx all k=some n/\n∈b.2
 clo:∀n,n∈b.2->n∈a.2\/∀e,e∈n.aM->(dx b.1 e.an).isSome=true
def Wg.refl{all:AM Node}{a:VS}:Wg all a a:=⟨aC _,fun _ h=>h,fun _ h=>h,fun _ h => .inl h,fun _ h => .inl h⟩
theorem Wg.trans{all:AM Node}{a b c:VS}(h:Wg all a b)(g:Wg all b c):Wg all a c :=
 ⟨aW g.IL h.IL,fun k hk=>g.met k (h.met k hk),fun n hn=>g.out n (h.out n hn),fun k hk=>by
  rcases g.new k hk with h1|h1
  ·rcases h.new k h1 with h2|⟨n,n1,n2⟩
   ·exact .inl h2
   ·exact .inr ⟨n,n1,g.out n n2⟩
  ·exact .inr h1,fun n hn=>by
  rcases g.clo n hn with h1|h1
  ·rcases h.clo n h1 with h2|h2
   ·exact .inl h2
   ·exact .inr fun e he=>g.met _ (h2 e he)
  ·exact .inr h1⟩
def FQ{all:AM Node}(hc:∀k n e,dx all k=some n->e∈n.aM->(dx all e.an).isSome=true):∀(f:Nat)(an:Int)(st:VS),missing all st.1<f->(dx all an).isSome=true ->
  (fU all f an st).1=true/\(dx (fU all f an st).2.1 an).isSome=true/\Wg all st (fU all f an st).2
 |0,_,_,h,_=>absurd h (ka _)
 |f+1,an,st,h,hs=>by
  rw[fU];split
  ·rename_i h1; exact⟨rfl,h1,Wg.refl⟩
  rename_i h1;obtain⟨n,hn⟩:=ct.1 hs;rw[hn];simp only[bZ,c8,af,aw,bh];have h0:dx st.1 an=none:=by simpa using h1
  have cz:=yW hn h0
  have key:∀(l:List fp)(w:Bool×VS),(∀e,e∈l->e∈n.aM)->w.1=true->missing all w.2.1<f ->
    (l.foldl (fun w e=>((fU all f e.an w.2).1&&w.1,(fU all f e.an w.2).2)) w).1=true/\Wg all w.2 (l.foldl (fun w e=>((fU all f e.an w.2).1&&w.1,(fU all f e.an w.2).2)) w).2/\∀e,e∈l->(dx (l.foldl (fun w e=>((fU all f e.an w.2).1&&w.1,(fU all f e.an w.2).2)) w).2.1 e.an).isSome=true:=by
   intro l;induction l with
   |nil=>intro w _ hw _; exact⟨hw,Wg.refl,fun e he=>by cases he⟩
   |cons e r ih =>
    intro w hl hw hm;rw[dZ];obtain⟨v1,v2,v3⟩:=FQ hc f e.an w.2 hm (hc _ _ e hn (hl e aV));obtain⟨g1,g2,g3⟩:=ih ((fU all f e.an w.2).1&&w.1,(fU all f e.an w.2).2) (fun x hx=>hl x (aO _ hx)) (by simp[v1,hw]) (Nat.lt_of_le_of_lt v3.IL hm)
    refine⟨g1,v3.trans g2,fun x hx=>?_⟩
    rcases bC.1 hx with rfl|hx
    ·exact g2.met _ v2
    ·exact g3 x hx
  obtain⟨g1,g2,g3⟩:=key n.aM (true,(lR st.1 an (),st.2++[n])) (fun _ h=>h) rfl (by simp only; omega)
  have hi:∀k,(dx (lR st.1 an ()) k).isSome=true↔k=an\/(dx st.1 k).isSome=true:=fun k=>by
   rw[gZ]; split<;>simp[*]
  refine⟨g1,g2.met an ((hi an).2 (.inl rfl)),⟨by have:=g2.IL; simp only at this; omega,fun k hk=>g2.met k ((hi k).2 (.inr hk)),fun m hm=>g2.out m (dq _ hm),fun k hk=>?_,fun m hm=>?_⟩⟩
  ·rcases g2.new k hk with h2|h2
   ·rcases(hi k).1 h2 with rfl|h2
    ·exact .inr ⟨n,hn,g2.out n (by simp)⟩
    ·exact .inl h2
   ·exact .inr h2
  ·rcases g2.clo m hm with h2|h2
   ·rcases bm.1 h2 with h2|h2
    ·exact .inl h2
    ·rw[bM.1 h2]; exact .inr g3
   ·exact .inr h2
def Co(x y:Node):∀l:List Node,y=x\/y∈l->y∈Cc x l
 | [],h=>by simpa[Cc] using h
 |z::r,h=>by
  simp only[Cc];split
  ·simpa using h
  ·rcases h with h|h
   ·exact aO _ (Co x y r (.inl h))
   ·rcases bC.1 h with h|h
    ·simp[h]
    ·exact aO _ (Co x y r (.inr h))
def DV(y:Node):∀l:List Node,y∈l->y∈Ai l
 |x::r,h=>by
  rcases bC.1 h with h|h
  ·exact Co x y _ (.inl h)
  ·exact Co x y _ (.inr (DV y r h))
structure Had(s:gh)(x:jm):Prop where
 whole:(uc s x).1=true
 root:∃n,n∈rT s x/\n.an=x.an/\n.kind=2
 vis:∀n,n∈rT s x->zh s x.at' n
 clo:∀n e,n∈rT s x->e∈n.aM->∃m,m∈rT s x/\m.an=e.an
def wM.had{K:Nat}{f:aa}(h:wM K f.s)(hf:uo f){x:jm}(hx:x∈f.s.cf):Had f.s x:=by
 have ha:=h.all hf.rt.jo.jv x.at';obtain⟨⟨r,r1,r2,r3⟩,w⟩:=h.whole x hx
 have hc:∀k n e,dx (sf f.s x.at') k=some n->e∈n.aM->(dx (sf f.s x.at') e.an).isSome=true:=fun k n e h1 h2=>by
  obtain⟨m,m1,m2⟩:=w n e ((ha k n).1 h1).1 h2;rw[(ha e.an m).2 ⟨m1,m2⟩]; rfl
 obtain⟨_,hl⟩:=hf.all x.at';have hr:=(ha x.an r).2 ⟨r1,r2⟩;obtain⟨v1,v2,v3⟩:=FQ hc 200001 x.an ([],[]) (by have:=tJ (sf f.s x.at') []; simp only; omega) (by rw[hr]; rfl)
 have hv:∀n,n∈(uc f.s x).2.2->zh f.s x.at' n:=Bq (fun k n hk=>((ha k n).1 hk).1) 200001 x.an ([],[]) (fun n hn=>by cases hn)
 have new:∀k,(dx (uc f.s x).2.1 k).isSome=true->∃n,dx (sf f.s x.at') k=some n/\n∈(uc f.s x).2.2:=fun k hk=>(v3.new k hk).resolve_left (by simp[dx])
 refine⟨v1,?_,fun n hn=>hv n (vm n _ hn),fun n e hn he=>?_⟩
 ·obtain⟨n,n1,n2⟩:=new x.an v2;rw[hr] at n1; cases n1;exact⟨r,DV r _ n2,r2,r3⟩
 ·obtain⟨m,m1,m2⟩:=new e.an ((v3.clo n (vm n _ hn)).resolve_left (by simp) e he)
  exact⟨m,DV m _ m2,((ha _ m).1 m1).2⟩
def Ey:∀(l:List Node)(m:AM Node)(k:Int)(n:Node),dx (fa l m) k=some n->(n∈l/\n.an=k)\/dx m k=some n
 | [],m,k,n,h => .inr h
 |x::r,m,k,n,h=>by
  have h':dx (fa r (lR m x.an x)) k=some n:=h;rcases Ey r _ k n h' with h|h
  ·exact .inl ⟨aO _ h.1,h.2⟩
  ·rw[gZ] at h;split at h
   ·rename_i hk;injection h with h
    exact .inl ⟨by simp[h],by rw[<-h,hk]⟩
   ·exact .inr h
def yB:∀(l:List Node)(m:AM Node)(k:Int),(∃n,n∈l/\n.an=k)\/(dx m k).isSome=true->(dx (fa l m) k).isSome=true
 | [],m,k,h=>h.resolve_left (by simp)
 |x::r,m,k,h=>by
  show(dx (fa r (lR m x.an x)) k).isSome=true
  refine yB r _ k ?_;rw[gZ];rcases h with ⟨n,h1,h2⟩|h
  ·rcases bC.1 h1 with rfl|h1
   ·right; rw[bc h2.symm]; rfl
   ·exact .inl ⟨n,h1,h2⟩
  ·right; split
   ·rfl
   ·exact h
def I5{t:Tree}{all:AM Node}(h1:∀k n,dx all k=some n->find t.ae k=some n)(h2:∀k n e,dx all k=some n->e∈n.aM->(dx all e.an).isSome=true) :
  ∀(p:List Bytes)(i:Int)(n:Node),(∀s,s∈p->eh s=true)->dx all i=some n->(ik all p (some n)).2=0->∃j m,Way t.ae i p j/\dx all j=some m/\(ik all p (some n)).1=some m
 | [],i,n,_,hn,_=>⟨i,n,rfl,hn,rfl⟩
 |s::r,i,n,hp,hn,h0=>by
  rw[ik] at h0 ⊢;simp only[bh] at h0 ⊢;split at h0
  ·cases h0
  ·rename_i hk;rw[aH hk];split at h0
   ·cases h0
   ·rename_i e he;have hm:=fI he;obtain⟨m,hm'⟩:=ct.1 (h2 i n e hn hm);rw[hm'] at h0;obtain⟨j,m',j1,j2,j3⟩:=I5 h1 h2 r e.an m (fun x hx=>hp x (aO _ hx)) hm' h0
    refine⟨j,m',⟨n,e,h1 i n hn,by simpa using hk,hp s aV,he,j1⟩,j2,?_⟩
    rw[hm'];exact j3
def je(n:Int)(p:Bytes):jk:=⟨15,0,p,[],n,0,0,[]⟩
def MF(n:Int):jk:=⟨16,0,[],[],n,0,0,[]⟩
def xI(f:aa)(n:Int)(p:Bytes):lN f (je n p)=(f,if (qP f (je n p)).2.2=0 then (qP f (je n p)).2.1 else gk (qP f (je n p)).2.2):=by
 rw[yj (K:=75) rfl (cp 0) (show(0:Int)<16 by omega),show ma 75 f (je n p)=qP f (je n p) from rfl]
 have:(qP f (je n p)).1=f:=by
  unfold qP; simp only[]; repeat' split
  all_goals rfl
 rw[this];split<;>rfl
def O1{f g:aa}{n:Int}(h:rL g.s n=rL f.s n)(p:Bytes):(lN g (je n p)).2=(lN f (je n p)).2:=by
 have:(qP g (je n p)).2=(qP f (je n p)).2:=by
  unfold qP;simp only[show(je n p).n=n from rfl,h]
  repeat' split
  all_goals rfl
 rw[xI,xI,this]
def O0{K:Nat}{f:aa}(hf:uo f)(h:wM K f.s){p b:Bytes}{x:jm}(hx:x∈f.s.cf)(hat:x.at'=f.s.tick)(hw:fY f.s.now p=(x.an,0))(h0:(lN f (je x.id b)).2.err=0) :
  (Ci f.s.now (iz p b)).err=0/\(Ci f.s.now (iz p b)).an=(lN f (je x.id b)).2.an/\(Ci f.s.now (iz p b)).kind=(lN f (je x.id b)).2.kind/\(Ci f.s.now (iz p b)).n=(lN f (je x.id b)).2.n/\(Ci f.s.now (iz p b)).m=(lN f (je x.id b)).2.m:=by
 rw[xI] at h0 ⊢;simp only at h0 ⊢;obtain⟨_,⟨r,r1,r2,r3⟩,hv,hc⟩:=h.had hf hx;have hs:=hf.rt.jo.jv;have hall:∀k n,dx (fa (rT f.s x) []) k=some n->n∈rT f.s x/\n.an=k:=fun k n hk=>(Ey _ _ k n hk).resolve_right (by simp[dx])
 have hfi:∀k n,dx (fa (rT f.s x) []) k=some n->find f.s.now.ae k=some n:=fun k n hk=>by
  obtain⟨k1,k2⟩:=hall k n hk;have:=hv n k1;rw[hat] at this;exact(fC hs).2 ⟨(h.M7 hf.rt hf.len n).1 this,k2⟩
 have hcl:∀k n e,dx (fa (rT f.s x) []) k=some n->e∈n.aM->(dx (fa (rT f.s x) []) e.an).isSome=true:=fun k n e hk he=>yB _ _ _ (.inl (hc n e (hall k n hk).1 he))
 obtain⟨r',hr'⟩:=ct.1 (yB (rT f.s x) [] x.an (.inl ⟨r,r1,r2⟩));have hp:=mj b;obtain⟨L,w1,w2⟩:=p8.1 hw;unfold qP at h0 ⊢;simp only[show(je x.id b).n=x.id from rfl,show(je x.id b).da=b from rfl,h.P3 hx,hr',ak,af,aw] at h0 ⊢
 cases hb:(dW b).2 != 0
 case true =>
  rw[hb] at h0;simp only[aE] at h0;split at h0
  ·rename_i hz; simp[hz] at hb
  ·rename_i hz; exact absurd h0 hz
 have hb0:(dW b).2=0:=by simpa using hb
 rw[hb] at h0;simp only[af,aw] at h0 ⊢;cases hq:(ik (fa (rT f.s x) []) (dW b).1 (some r')).2 != 0
 case true =>
  rw[hq] at h0;simp only[aE] at h0;split at h0
  ·rename_i hz; simp[hz] at hq
  ·rename_i hz; exact absurd h0 hz
 obtain⟨j,m,j1,j2,j3⟩:=I5 hfi hcl (dW b).1 x.an r' hp.1 hr' (by simpa using hq)
 rw[j3];simp only[af,aw,aE,bh];have hway:Way f.s.now.ae 1 (L++(dW b).1) j:=lk.2 ⟨_,pz.1 w2,j1⟩;obtain⟨cE,hg⟩:=hf.rt;have dQ:=hg.M8 hway;have hL:=(mj p).1;rw[w1] at hL
 have hsp:dW (iz p b)=(L++(dW b).1,0):=by
  unfold iz;rw[vz w1,vz (Prod.ext rfl hb0:dW b=((dW b).1,0))];exact xX (fun s hs=>(bm.1 hs).elim (hL s) (hp.1 s)) dQ
 rw[DZ hsp hway];have:aX f.s.now.ae j=m:=by simp[aX,hfi j m j2]
 rw[this];exact⟨rfl,rfl,rfl,rfl,rfl⟩
def NU{f:aa}{x:jm}(hx:x∈f.s.cf)(p:Bytes):(lN f (MF x.id)).2.err=0/\(lN (lN f (MF x.id)).1 (je x.id p)).2.err=100:=by
 have hd:nV f.s x.id=(⟨f.s.now,f.s.tick,f.s.since,f.s.dz.filter (ri (f.s.cf.filter (kJ x.id))),f.s.cf.filter (kJ x.id),f.s.next⟩,0):=by
  unfold nV;rw[aH];intro hc;have hc:(f.s.cf.filter (kJ x.id)).length=f.s.cf.length:=by have:=eM.1 hc; omega
  have:=fQ.1 (List.filter_sublist.eq_of_length hc) x hx;simp[kJ] at this
 have e:lN f (MF x.id)=(⟨⟨f.s.now,f.s.tick,f.s.since,f.s.dz.filter (ri (f.s.cf.filter (kJ x.id))),f.s.cf.filter (kJ x.id),f.s.next⟩,f.holds,f.cq⟩,fL):=by
  rw[yj (K:=76) rfl (cp 0) (show(0:Int)<16 by omega),show ma 76 f (MF x.id)=wc f (MF x.id) from rfl]
  unfold wc;simp only[show(MF x.id).n=x.id from rfl,hd,ak,af,aw,aE]
 rw[e];refine⟨rfl,?_⟩;rw[xI]
 have:rL ⟨f.s.now,f.s.tick,f.s.since,f.s.dz.filter (ri (f.s.cf.filter (kJ x.id))),f.s.cf.filter (kJ x.id),f.s.next⟩ x.id=(0,[],100):=by
  unfold rL;rw[df.2 fun y hy=>by have:=(cm.1 hy).2; simpa[kJ] using this]
 unfold qP;simp only[show(je x.id p).n=x.id from rfl,this]
 rfl
def Er(p:Bytes):jk:=⟨14,0,p,[],0,0,0,[]⟩
def Pg{f:aa}(p:Bytes)(h0:(lN f (Er p)).2.err=0):∃i,fY f.s.now p=(i,0)/\(lN f (Er p)).1.s.now=f.s.now/\(lN f (Er p)).1.s.tick=f.s.tick/\⟨(lN f (Er p)).2.n,(aX f.s.now.ae i).an,f.s.tick⟩∈(lN f (Er p)).1.s.cf:=by
 have e:lN f (Er p)=if (su f (Er p)).2.2=0 then ((su f (Er p)).1,(su f (Er p)).2.1) else (f,gk (su f (Er p)).2.2):=by
  rw[yj (K:=74) rfl (cp 0) (show(0:Int)<16 by omega)]; rfl
 rw[e] at h0 ⊢
 by_cases hz:(su f (Er p)).2.2=0
 case neg=>rw[aH hz] at h0; exact absurd h0 hz
 rw[bc hz];clear h0 e;unfold su at hz ⊢;simp only[show(Er p).da=p from rfl] at hz ⊢
 split at hz
 ·rename_i hc; simp only at hz; rw[hz] at hc; cases hc
 rename_i c1;rw[aH c1];unfold takeN at hz ⊢;split at hz
 ·simp at hz
 rename_i c2;split at hz
 ·simp at hz
 rename_i c3;split at hz
 ·simp at hz
 rename_i c4;rw[aH c2,aH c3,aH c4];refine⟨(fY f.s.now p).1,Prod.ext rfl (by simpa using c1),rfl,rfl,?_⟩
 exact eL _ aV
structure Aw(K:Nat)(x:jm)(l:List Node)(f:aa):Prop where
 fb:FB K f
 sok:wM K f.s
 mem:x∈f.s.cf
 had:rT f.s x=l
def Aw.step{K:Nat}{x:jm}{l:List Node}{f:aa}(h:Aw K x l f)(hK:K<=80000){o:jk}(hd:¬Drp o x.id):Aw (K+200) x l (lN f o).1:=by
 obtain⟨s1,s2⟩:=h.sok.do (by omega) h.fb.ok o
 obtain⟨m1,m2⟩:=s2 x h.mem hd;have hf:=pC h.fb (by omega) o
 refine⟨hf,s1,m1,?_⟩;have:=V7 h.sok s1 h.fb.ok.rt hf.ok.rt m2;unfold rT;rw[this];exact h.had
def Aw.mono{K L:Nat}{x:jm}{l:List Node}{f:aa}(h:Aw K x l f)(hl:K<=L):Aw L x l f:=⟨h.fb.mono hl,h.sok.mono hl,h.mem,h.had⟩
def Aw.asu{K:Nat}{x:jm}{l:List Node}{f g:aa}{L:Nat}(h:Aw K x l f)(hg:Aw L x l g)(p:Bytes):(lN g (je x.id p)).2=(lN f (je x.id p)).2 :=
 O1 (by rw[h.sok.P3 h.mem,hg.sok.P3 hg.mem,h.had,hg.had]) p
section
attribute [local irreducible] eV fZ je gK eo kr ar aU cA bH
set_option maxRecDepth 100000 in
def Ub(xs:List jk)(p:Bytes)(ys:List jk)(b:Bytes):ar tb 6 [C6 xs,.str p,C6 ys,.str b] []=some (.bool true,[]):=by
 refine az ?_;have q10:=cP Gx;have q11:=fun M=>lE (Pz xs M)
 have q12:=fun M=>lE (Pz ys M)
 cases hg:wY xs<;>rw[hg] at q11
 case true=>simp only[fn6,E6,q10,q11,uT,EW,seval]
 cases hgy:wY ys<;>rw[hgy] at q12
 case true=>simp only[fn6,E6,q10,q11,q12,uT,EW,seval]
 cases g1:decide (1000<(p.length:Int))
 case true=>simp only[fn6,E6,q10,q11,q12,g1,uT,EW,seval]
 cases g2:decide (1000<(b.length:Int))
 case true=>simp only[fn6,E6,q10,q11,q12,g1,g2,uT,EW,seval]
 have l1:p.length<=1000:=by have:=of_decide_eq_false g1; omega
 have l2:b.length<=1000:=by have:=of_decide_eq_false g2; omega
 obtain⟨hn,ho⟩:=zI hg;obtain⟨hny,hoy⟩:=zI hgy;obtain⟨f,qa,hf,_,K,hK,hch⟩:=c13 xs hn ho;have hs:wM 10000 f.s:=(hch.ok (by omega)).mono hK
 have q13:=fun M=>lE (cO qa M)
 have d1:=fun M=>uU f (Er p) hf.ok ⟨by simp only[Er]; omega,by simp[Er],by simp[Er]⟩ M
 have hT:=Pg (f:=f) p;have hf1:=pC hf (by omega) (Er p)
 have hs1:=(hs.do (by omega) hf.ok (Er p)).1
 generalize lN f (Er p)=X at d1 hT hf1 hs1;obtain⟨g,a⟩:=X;simp only at d1 hT hf1 hs1;cases h1:a.err != 0
 case true =>
  simp only[ck,eA,cQ,Er,cR,a8] at q13 d1;simp only[fn6,E6,q10,q11,q12,g1,g2,q13,d1,h1,uT,EW,seval]
 obtain⟨i,t1,t2,t3,t4⟩:=hT (by simpa using h1)
 have hi:(aX f.s.now.ae i).an=i:=by
  obtain⟨L,w1,w2⟩:=p8.1 t1;obtain⟨cE,hv⟩:=hf.ok.rt;obtain⟨r,r1,r2,_⟩:=hv.root;obtain⟨m,m1,_⟩:=hv.Cy (pz.1 w2) r1 (ry r2);simp[aX,m1,(bP m1).2]
 rw[hi] at t4;have hL:=fun h0=>O0 hf1.ok hs1 (b:=b) t4 t3.symm (by rw[t2]; exact t1) h0
 have hI:Aw 10200 ⟨a.n,i,f.s.tick⟩ _ g:=⟨hf1,hs1,t4,rfl⟩;generalize rT g.s ⟨a.n,i,f.s.tick⟩=l at hI;simp only at hL;have oK:wL (je a.n b):=⟨by simp only[je]; omega,by simp[je],by simp[je]⟩
 have d2:=fun M=>uU g (je a.n b) hf1.ok oK M
 have d3:=fun M=>uU g (yc 7 (iz p b) []) hf1.ok ⟨aW (w7 p b) (by omega),by simp[yc],by simp[yc]⟩ M
 have j1:=fun M=>lE (cO (c19 p b (by omega) (by omega)) M)
 rw[Gn] at d3;have a2:=LR hf1.ok (je a.n b);have sa:=fun M=>lE (cO (c17 (lN g (je a.n b)).2 (by have:=a2.names; omega) (by have:=a2.data; omega)) M)
 have hP:=fun {L g'} (hg:Aw L ⟨a.n,i,f.s.tick⟩ l g')=>hI.asu hg b
 simp only at hP;have e2:(lN g (je a.n b)).1=g:=by rw[xI]
 generalize lN g (je a.n b)=W at d2 hL sa hP e2;obtain⟨g',V8⟩:=W;simp only at d2 hL sa hP e2;rw[e2] at d2;generalize Ci g.s.now (iz p b)=live at d3 hL;generalize iz p b=pb at j1 d3;have d4:=fun {L h} (hg:Aw L ⟨a.n,i,f.s.tick⟩ l h) M=>uU h (je a.n b) hg.fb.ok oK M
 have oD:wL (MF a.n):=⟨by simp[MF],by simp[MF],by simp[MF]⟩
 simp only[ck,eA,cQ,Er,je,yc,cR,a8] at q13 d1 d2 d3 sa;simp only[fn6,E6,q10,q11,q12,g1,g2,q13,d1,d2,d3,j1,h1,uT,EW,seval];cases w0:V8.err==0
 case' false=>simp only[E6,w0,uT,EW,seval]
 case' true =>
  obtain⟨v1,v2,v3,v4,v5⟩:=hL (by simpa using w0)
  have n1:(live.err != 0)=false:=by simp[v1]
  have n2:(live.an != V8.an)=false:=by simp[v2]
  have n3:(live.kind != V8.kind)=false:=by simp[v3]
  have n4:(live.n != V8.n)=false:=by simp[v4]
  have n5:(live.m != V8.m)=false:=by simp[v5]
  simp only[E6,w0,n1,n2,n3,n4,n5,uT,EW,seval]
 all_goals
  refine LX (gH (xs:=ys) (by omega) (fun m h=>Aw (10200+200*m) ⟨a.n,i,f.s.tick⟩ l h) (fun h k=>[(2,C6 ys),(3,.str b),(9,.bool true),(10,b9 0),(11,b9 1),(13,b9 3),(16,aF k)]) (fun h=>[bT (ck h),bT (cQ a),bT (ck g),bT (cQ V8),bT (ck g),bT (cQ live)]) _ (fun h hh=>?_) (fun pre o post h e hx cz hw h0 hm hh hi=>?_) g hI)
  ·have d5:=fun M=>uU h (MF a.n) hh.fb.ok oD M
   obtain⟨r1,r2⟩:=NU hh.mem b;have hf5:=pC hh.fb (by omega) (MF a.n)
   simp only at r1 r2;generalize lN h (MF a.n)=Y at d5 r1 r2 hf5;obtain⟨y,ya⟩:=Y;simp only at d5 r1 r2 hf5;have d6:=fun M=>uU y (je a.n b) hf5.ok oK M
   generalize lN y (je a.n b)=Z at d6 r2;obtain⟨z,za⟩:=Z;simp only[ck,eA,cQ,MF,je,cR,a8] at d5 d6 r2;have r1':(ya.err==0)=true:=by simp[r1]
   have r2':(za.err==100)=true:=by simp[r2]
   refine⟨_,rfl,?_⟩;simp only[ck,cQ];simp only[E6,bw,d5,d6,r1',r2',uT,EW,seval]
  ·have hp:=(aq.1 hx).1;have skip:=hi h (hh.mono (by omega))
   have go:=fun hd=>hi (lN h o).1 (hh.step (by omega) hd)
   have q1:=fun M=>uU h o hh.fb.ok (hoy o hm) M
   have q2:=fun hd M=>d4 (hh.step (by omega) (o:=o) hd) M
   have q3:=fun hd=>hP (hh.step (by omega) (o:=o) hd)
   rw[xI] at q2 q3;generalize lN h o=Y at q1 q2 q3 go;obtain⟨y,ya⟩:=Y;simp only at q1 q2 q3 go;cases k1:o.kind==16<;>cases k2:o.n==a.n
   case' true.true =>
    simp only[ck,cQ] at skip ⊢;simp only[E6,cz,hx,hw,h0,k1,k2,eA,uT,EW,seval];exact skip
   all_goals
    have hd:¬Drp o a.n:=fun h=>by simp[h.1,h.2] at k1 k2
    have q2:=q2 hd;rw[q3 hd] at q2;have go:=go hd;simp only[ck,eA,cQ,je,cR,a8] at q1 q2 go ⊢;simp only[E6,cz,hx,hw,h0,k1,k2,q1,q2,sa,eA,uT,EW,seval];exact go
end
end Go.Proofs.YtahkjijkflobhaaGreatDoor
