/- Texts of the plain laws, put together. Own work. -/
import Derived.Test.YtpmgpcklieincaaGreatDoorDefs
import Derived.KernelRfl
import Derived.IntWalk
namespace Go.Proofs.YtpmgpcklieincaaGreatDoor
structure Vd (ι:Type) where
 ev:(ι->Prop)->Prop
 all:∀ {p:ι->Prop},(∀ i,p i)->ev p
 two:∀ {p q r:ι->Prop},ev p->ev q->(∀ i,p i->q i->r i)->ev r
theorem Vd.mono {ι:Type}(F:Vd ι){p q:ι->Prop}(h:F.ev p)(hi:∀ i,p i->q i):F.ev q:=F.two h h λi a _=>hi i a
def Yy {ι:Type}(F:Vd ι)(f:ι->Rat)(l h:Rat):Prop:=∀ e:Rat,0<e->F.ev λi=>l-e<=f i∧f i<=h+e
theorem qfl {x y A B:Rat}(h1:-A<=x)(h2:x<=A)(h3:-B<=y)(h4:y<=B):-(A*B)<=x*y∧x*y<=A*B:=by
 have a1:=Rat.mul_nonneg (a:=A-x) (b:=B+y) (by grind) (by grind)
 have a2:=Rat.mul_nonneg (a:=A+x) (b:=B-y) (by grind) (by grind)
 have a3:=Rat.mul_nonneg (a:=A+x) (b:=B+y) (by grind) (by grind)
 have a4:=Rat.mul_nonneg (a:=A-x) (b:=B-y) (by grind) (by grind)
 constructor <;> grind
theorem Zu {x y z:Rat}(h:x<=y)(hz:0<=z):x*z<=y*z:=Rat.mul_le_mul_of_nonneg_right h hz
theorem qh5 {a b c d L H u v:Rat}(hL:L<=a*c∧L<=a*d∧L<=b*c∧L<=b*d)(hH:a*c<=H∧a*d<=H∧b*c<=H∧b*d<=H)(h1:a<=u)(h2:u<=b)(h3:c<=v)(h4:v<=d):L<=u*v∧u*v<=H:=by
 have cmp:∀ x p q:Rat,p<=q->(x*p<=x*q∨x*q<=x*p) ∧ ∀ y,p<=y->y<=q->(x*p<=x*y∧x*y<=x*q∨x*q<=x*y∧x*y<=x*p):=by
  intro x p q hpq
  rcases Rat.le_total (a:=0) (b:=x) with hx | hx
  ·have f:=Zu hpq hx
   refine ⟨.inl (by grind),λy h1 h2=>.inl ?_⟩
   have f1:=Zu h1 hx; have f2:=Zu h2 hx
   constructor <;> grind
  ·have hx':0 <= -x:=by grind
   have f:=Zu hpq hx'
   refine ⟨.inr (by grind),λy h1 h2=>.inr ?_⟩
   have f1:=Zu h1 hx'; have f2:=Zu h2 hx'
   constructor <;> grind
 have e1:=(cmp a c d (by grind)).2 v h3 h4
 have e2:=(cmp b c d (by grind)).2 v h3 h4
 have e3:=(cmp v a b (by grind)).2 u h1 h2
 constructor <;> grind
section
variable {ι:Type} {F:Vd ι} {f g q:ι->Rat} {a b c d L H:Rat}
theorem qc9 {x l h e:Rat}(hlh:l<=h)(he:0<=e)(h1:l-e<=x)(h2:x<=h+e):∃ u,l<=u∧u<=h ∧ -e<=x-u∧x-u<=e:=by
 by_cases c1:x<l
 ·exact ⟨l,by grind,by grind,by grind,by grind⟩
 ·by_cases c2:h<x
  ·exact ⟨h,by grind,by grind,by grind,by grind⟩
  ·exact ⟨x,by grind,by grind,by grind,by grind⟩
theorem qb1 (a b c d:Rat):∃ M:Rat,1<=M∧(-M<=a∧a<=M)∧(-M<=b∧b<=M)∧(-M<=c∧c<=M)∧(-M<=d∧d<=M):=by
 have h:∀ x:Rat,∃ m:Rat,0<=m ∧ -m<=x∧x<=m:=by
  intro x
  rcases Rat.le_total (a:=0) (b:=x) with hx | hx
  ·exact ⟨x,by grind,by grind,by grind⟩
  ·exact ⟨-x,by grind,by grind,by grind⟩
 obtain ⟨p,h1⟩:=h a
 obtain ⟨q,h2⟩:=h b
 obtain ⟨r,h3⟩:=h c
 obtain ⟨s,h4⟩:=h d
 exact ⟨1+p+q+r+s,by grind,by grind,by grind,by grind,by grind⟩
theorem qc4 {x y:Rat}(hx:0<x)(hy:0<y):∃ z:Rat,0<z∧z<=x∧z<=y:=by
 rcases Rat.le_total (a:=x) (b:=y) with h | h
 ·exact ⟨x,hx,Rat.le_refl,h⟩
 ·exact ⟨y,hy,h,Rat.le_refl⟩
theorem ZW {x y:Rat}(hx:0<x)(hy:0<y):0<x/y∧x/y*y=x:=by
 constructor
 ·rw [Rat.div_def]; exact Rat.mul_pos hx (Rat.inv_pos.2 hy)
 ·grind
theorem Yy.wide (h:Yy F f a b)(h1:c<=a)(h2:b<=d):Yy F f c d:=λe he=>F.mono (h e he) λi hi=>by constructor <;> grind
theorem Yy.congr (h:Yy F f a b)(he:F.ev λi=>g i=f i):Yy F g a b:=λe h0=>F.two (h e h0) he λi h1 h2=>by constructor <;> grind
theorem Yy.const (h1:a<=c)(h2:c<=b):Yy F (λ_=>c) a b:=λe he=>F.all λi=>by constructor <;> grind
theorem Yy.neg (h:Yy F f a b):Yy F (λi=>-f i) (-b) (-a):=λe he=>F.mono (h e he) λi hi=>by constructor <;> grind
theorem Yy.add (h:Yy F f a b)(k:Yy F g c d):Yy F (λi=>f i+g i) (a+c) (b+d):=λe he=>by
 have h2:0<e/2:=by grind
 exact F.two (h _ h2) (k _ h2) λi h1 h2=>by constructor <;> grind
theorem Yy.sub (h:Yy F f a b)(k:Yy F g c d):Yy F (λi=>f i-g i) (a-d) (b-c) :=
 (((h.add k.neg).congr (F.all λi=>by grind)).wide (by grind) (by grind))
theorem Yy.mul (hab:a<=b)(hcd:c<=d)(h:Yy F f a b)(k:Yy F g c d)(hin:∀ u v,a<=u->u<=b->c<=v->v<=d->L<=u*v∧u*v<=H):Yy F (λi=>f i*g i) L H:=λe he=>by
 obtain ⟨M,hM,ha,hb,hc,hd⟩:=qb1 a b c d
 obtain ⟨p1,p2⟩:=ZW (x:=e) (y:=2*M+1) he (by grind)
 obtain ⟨t,t0,t1,t2⟩:=qc4 (x:=1) (y:=e/(2*M+1)) (by decide) p1
 refine F.two (h t t0) (k t t0) λi h1 h2=>?_
 obtain ⟨u,u1,u2,u3,u4⟩:=qc9 hab (by grind) h1.1 h1.2
 obtain ⟨v,v1,v2,v3,v4⟩:=qc9 hcd (by grind) h2.1 h2.2
 have i1:=hin u v u1 u2 v1 v2
 have j1:=qfl (x:=f i-u) (y:=g i) (A:=t) (B:=M+1) u3 u4 (by grind) (by grind)
 have j2:=qfl (x:=g i-v) (y:=u) (A:=t) (B:=M) v3 v4 (by grind) (by grind)
 have j3:=Zu t2 (z:=2*M+1) (by grind)
 constructor <;> grind
theorem qgz {x z:Rat}(hx:0<x)(h:1<=x*z):x⁻¹<=z:=by
 have i1:0<x⁻¹:=Rat.inv_pos.2 hx
 have h2:=Zu h (z:=x⁻¹) (by grind)
 have e:x*z*x⁻¹=z:=by grind
 grind
theorem qdG {x z:Rat}(hx:0<x)(h:x*z<=1):z<=x⁻¹:=by
 have i1:0<x⁻¹:=Rat.inv_pos.2 hx
 have h2:=Zu h (z:=x⁻¹) (by grind)
 have e:x*z*x⁻¹=z:=by grind
 grind
theorem qbK {x y:Rat}(hx:0<x)(h:x<=y):y⁻¹<=x⁻¹:=by
 have hy:0<y:=by grind
 have i1:0<y⁻¹:=Rat.inv_pos.2 hy
 refine qdG hx ?_
 have h2:=Zu h (z:=y⁻¹) (by grind)
 have e:y*y⁻¹=1:=by grind
 grind
theorem qih {x c e t:Rat}(hc:0<c)(he:0<e)(h1:t*(c⁻¹+e)<=c*e)(h2:2*t<=c)(hx:c-t<=x):0<x∧x⁻¹<=c⁻¹+e:=by
 have hx0:0<x:=by grind
 refine ⟨hx0,qgz hx0 ?_⟩
 have i0:0<c⁻¹:=Rat.inv_pos.2 hc
 have e1:c*c⁻¹=1:=by grind
 have:=Zu hx (z:=c⁻¹+e) (by grind)
 grind
theorem qhY {x c d e t:Rat}(hc:0<c)(hcd:c<=d)(he:0<e)(ht:0<t)(h1:t*(c⁻¹+e)<=c*e)(hx0:0<x)(hx:x<=d+t):d⁻¹-e<=x⁻¹:=by
 have i1:0<x⁻¹:=Rat.inv_pos.2 hx0
 by_cases h0:d⁻¹-e<=0
 ·grind
 ·have hd:0<d:=by grind
  refine qdG hx0 ?_
  have e1:d*d⁻¹=1:=by grind
  have k2:=Zu (qbK hc hcd) (z:=t) (by grind)
  have k3:=Zu hcd (z:=e) (by grind)
  have k4:=Rat.mul_nonneg (a:=t) (b:=e) (by grind) (by grind)
  have:=Zu hx (z:=d⁻¹-e) (by grind)
  grind
theorem Yy.inv (hc:0<c)(hcd:c<=d)(k:Yy F g c d):Yy F (λi=>(g i)⁻¹) d⁻¹ c⁻¹:=λe he=>by
 have i0:0<c⁻¹:=Rat.inv_pos.2 hc
 obtain ⟨p1,p2⟩:=ZW (x:=c*e) (y:=c⁻¹+e) (Rat.mul_pos hc he) (by grind)
 obtain ⟨t,t0,t1,t2⟩:=qc4 (x:=c/2) (y:=c*e/(c⁻¹+e)) (by grind) p1
 have t3:t*(c⁻¹+e)<=c*e:=by have:=Zu t2 (z:=c⁻¹+e) (by grind); grind
 refine F.mono (k t t0) λi h=>?_
 obtain ⟨h1,h2⟩:=qih hc he t3 (by grind) h.1
 exact ⟨qhY hc hcd he t0 t3 h1 h.2,h2⟩
theorem Yy.div0 (hab:a<=b)(hc:0<c)(hcd:c<=d)(h:Yy F f a b)(k:Yy F g c d)(hin:∀ u v,a<=u->u<=b->c<=v->v<=d->L<=u/v∧u/v<=H):Yy F (λi=>f i/g i) L H:=by
 have hd:0<d:=by grind
 have i2:0<d⁻¹:=Rat.inv_pos.2 hd
 have i3:0<c⁻¹:=Rat.inv_pos.2 hc
 refine (Yy.mul hab (qbK hc hcd) h (k.inv hc hcd) (L:=L) (H:=H) λu w h1 h2 h3 h4=>?_).congr (F.all λi=>Rat.div_def ..)
 have hw:0<w:=by grind
 have:=hin u w⁻¹ h1 h2 (by have:=qbK hw h4; rwa [Rat.inv_inv] at this) (by have:=qbK i2 h3; rwa [Rat.inv_inv] at this)
 rwa [Rat.div_def,Rat.inv_inv] at this
theorem Yy.div (hab:a<=b)(hc:0<c∨d<0)(hcd:c<=d)(h:Yy F f a b)(k:Yy F g c d)(hin:∀ u v,a<=u->u<=b->c<=v->v<=d->L<=u/v∧u/v<=H):Yy F (λi=>f i/g i) L H:=by
 rcases hc with hc | hc
 ·exact Yy.div0 hab hc hcd h k hin
 ·have e:∀ x y:Rat,-x / -y=x/y:=λx y=>by
   by_cases hy:y=0
   ·subst hy; simp [Rat.div_def]
   ·grind
  refine (Yy.div0 (a:=-b) (b:=-a) (c:=-d) (d:=-c) (by grind) (by grind) (by grind) h.neg k.neg (L:=L) (H:=H) λu v h1 h2 h3 h4=>?_).congr (F.all λi=>(e _ _).symm)
  have:=hin (-u) (-v) (by grind) (by grind) (by grind) (by grind)
  rwa [e] at this
theorem Yy.root {x:ι->Rat}{s t:Rat}(hs:0<=s)(ht:0<=t)(h1:s*s<=a)(h2:b<=t*t)(hx:Yy F x a b)(h0:∀ i,0<=q i)(hz:Yy F (λi=>q i*q i-x i) 0 0):Yy F q s t:=λe he=>by
 have e2:0<e*e:=Rat.mul_pos he he
 refine F.two (hx (e*e/2) (by grind)) (hz (e*e/2) (by grind)) λi i1 i2=>?_
 have:=h0 i
 have k1:=Rat.mul_nonneg hs (by grind:0<=e)
 have k2:=Rat.mul_nonneg ht (by grind:0<=e)
 constructor
 ·by_cases c:s-e<=q i
  ·exact c
  ·have m:=qfl (x:=q i) (y:=q i) (A:=s-e) (B:=s-e) (by grind) (by grind) (by grind) (by grind)
   have m2:=Rat.mul_pos (a:=s-e-q i) (b:=s-e+q i) (by grind) (by grind)
   have m3:=Rat.mul_pos (a:=s-e-q i) (b:=e) (by grind) (by grind)
   have m4:=Rat.mul_nonneg (a:=q i) (b:=e) (by grind) (by grind)
   grind
 ·by_cases c:q i<=t+e
  ·exact c
  ·have m2:=Rat.mul_pos (a:=q i-(t+e)) (b:=q i+(t+e)) (by grind) (by grind)
   grind
end
end Go.Proofs.YtpmgpcklieincaaGreatDoor
namespace Go.Proofs.YtpmgpcklieincaaGreatDoor
def dd (d:Rat)(f:Nat->Rat):Nat->Nat->Rat
 | 0,n=>f n
 | k+1,n=>(dd d f k (n+1)-dd d f k n)/(d*((k+1:Nat):Rat))
def sm (f:Nat->Rat):Nat->Rat
 | 0=>0
 | k+1=>sm f k+f k
theorem qgP {c x y:Rat}(hc:0<c)(h:c*x=c*y):x=y:=by
 have e:c⁻¹*c=1:=by grind
 have e1:c⁻¹*(c*x)=x:=by grind
 have e2:c⁻¹*(c*y)=y:=by grind
 rw [<- e1,h,e2]
theorem Vx (k:Nat):0<((k+1:Nat):Rat):=by
 have:((0:Nat):Rat)<((k+1:Nat):Rat):=Rat.natCast_lt_natCast.2 (Nat.succ_pos k)
 exact this
section
variable {d:Rat} {f g y v:Nat->Rat}
theorem JF (hd:0<d)(f:Nat->Rat)(k n:Nat):dd d f k (n+1)=dd d f k n+d*((k+1:Nat):Rat)*dd d f (k+1) n:=by
 have h:=Rat.mul_pos hd (Vx k)
 rw [dd]
 generalize d*((k+1:Nat):Rat)=c at h
 grind
theorem V5 (hd:0<d){f:Nat->Rat}{k n:Nat}{r:Rat}(h:dd d f k (n+1)=dd d f k n+d*((k+1:Nat):Rat)*r):dd d f (k+1) n=r:=by
 have h3:=Rat.mul_pos hd (Vx k)
 rw [JF hd f k n] at h
 exact qgP h3 (by grind)
theorem WE:∀ (k n:Nat),(∀ m,n<=m->m<=n+k->f m=g m)->dd d f k n=dd d g k n
 | 0,n,h=>h n (Nat.le_refl _) (Nat.le_refl _)
 | k+1,n,h=>by
  rw [dd,dd,WE k (n+1) λm h1 h2=>h m (by omega) (by omega),WE k n λm h1 h2=>h m (by omega) (by omega)]
theorem qaA (hd:0<d):∀ (k n:Nat),dd d (λn=>f n+g n) k n=dd d f k n+dd d g k n
 | 0,n=>rfl
 | k+1,n=>V5 hd (by rw [qaA hd k,qaA hd k,JF hd f,JF hd g]; grind)
theorem WS (hd:0<d):∀ (k n:Nat),dd d (λn=>-f n) k n = -dd d f k n
 | 0,n=>rfl
 | k+1,n=>V5 hd (by rw [WS hd k,WS hd k,JF hd f]; grind)
theorem qhN (hd:0<d)(k n:Nat):dd d (λn=>f n-g n) k n=dd d f k n-dd d g k n:=by
 have:(λn=>f n-g n)=λn=>f n + -g n:=by funext n; grind
 rw [this,qaA hd,WS hd]; grind
theorem qaK (hd:0<d)(c:Rat):∀ (k n:Nat),dd d (λ_=>c) (k+1) n=0
 | 0,n=>V5 hd (by rw [dd,dd]; grind)
 | k+1,n=>V5 hd (by rw [qaK hd c k,qaK hd c k]; grind)
theorem qaE (hd:0<d)(n:Nat):dd d (λn=>(n:Rat)*d) 1 n=1:=V5 hd (by rw [dd,dd]; grind)
theorem qb8 (hd:0<d):∀ (k n:Nat),dd d (λn=>(n:Rat)*d) (k+2) n=0
 | 0,n=>V5 hd (by rw [qaE hd,qaE hd]; grind)
 | k+1,n=>V5 hd (by rw [qb8 hd k,qb8 hd k]; grind)
theorem W4 (hd:0<d):∀ (k n:Nat),dd d (λn=>f n*g n) k n=sm (λi=>dd d f i n*dd d g (k-i) (n+i)) (k+1)
 | 0,n=>by simp [dd,sm,Rat.zero_add]
 | k+1,n=>by
  refine V5 hd ?_
  rw [W4 hd k,W4 hd k]
  have key:∀ j,j<=k+1->sm (λi=>dd d f i (n+1)*dd d g (k-i) (n+1+i)) j=sm (λi=>dd d f i n*dd d g (k-i) (n+i)) j+d*(((k+1:Nat):Rat)*sm (λi=>dd d f i n*dd d g (k+1-i) (n+i)) j+(j:Rat)*(dd d f j n*dd d g (k+1-j) (n+j))):=by
   intro j
   induction j with
   | zero=>intro _; simp [sm]; grind
   | succ j ih =>
    intro hj
    simp only [sm]
    rw [ih (by omega),JF hd f j n]
    obtain ⟨r,rfl⟩:∃ r,k=j+r:=⟨k-j,by omega⟩
    have e1:j+r-j=r:=by omega
    have e2:j+r+1-j=r+1:=by omega
    have e3:j+r+1-(j+1)=r:=by omega
    have e4:n+1+j=n+j+1:=by omega
    have e5:n+(j+1)=n+j+1:=by omega
    rw [e1,e2,e3,e4,e5,JF hd g r (n+j)]
    grind
  rw [key (k+1) (Nat.le_refl _)]
  simp only [sm]
  grind
theorem qbW (hd:0<d)(h:∀ n,y (n+1)=y n+d*v n):∀ (k n:Nat),dd d y (k+1) n=dd d v k n/((k+1:Nat):Rat)
 | 0,n=>V5 hd (by simp only [dd]; rw [h]; grind)
 | k+1,n=>V5 hd (by
  have:=Vx k
  have:=Vx (k+1)
  rw [qbW hd h k,qbW hd h k,JF hd v]; grind)
theorem qaU (hd:0<d){e:Nat->Rat}{t:Rat}(ht:0<=t):∀ (k n:Nat),(∀ m,n<=m->m<=n+k -> -t<=e m∧e m<=t) -> -(t*(2/d) ^ k)<=dd d e k n∧dd d e k n<=t*(2/d) ^ k
 | 0,n,h=>by have:=h n (Nat.le_refl _) (Nat.le_refl _); simp only [dd]; grind
 | k+1,n,h=>by
  have c:=Vx k
  have c1:(1:Rat)<=((k+1:Nat):Rat):=by
   have:=Rat.natCast_le_natCast.2 (show 1<=k+1 by omega)
   exact this
  have e1:=JF hd e k n
  have i1:=qaU hd ht k n λm h1 h2=>h m h1 (by omega)
  have i2:=qaU hd ht k (n+1) λm h1 h2=>h m (by omega) (by omega)
  have dp:0<2/d:=(ZW (by decide) hd).1
  have dq:2/d*d=2:=(ZW (by decide) hd).2
  generalize hb:t*(2/d) ^ k=b at i1 i2
  have hb0:0<=b:=by grind
  have e2:t*(2/d) ^ (k+1)=b*(2/d):=by rw [<- hb,Rat.pow_succ]; grind
  rw [e2]
  generalize dd d e (k+1) n=w at e1
  have h1:-(2*b)<=d*w*((k+1:Nat):Rat)∧d*w*((k+1:Nat):Rat)<=2*b:=by constructor <;> grind
  have h2:-(2*b)<=d*w∧d*w<=2*b:=by
   generalize d*w=z at h1
   rcases Rat.le_total (a:=0) (b:=z) with hz | hz
   ·have:=Zu c1 hz; constructor <;> grind
   ·have:=Zu c1 (z:=-z) (by grind); constructor <;> grind
  have e3:b*(2/d)*d=2*b:=by grind
  constructor
  ·by_cases hw:-(b*(2/d))<=w
   ·exact hw
   ·have:=Rat.mul_pos (a:=-(b*(2/d))-w) (b:=d) (by grind) hd
    grind
  ·by_cases hw:w<=b*(2/d)
   ·exact hw
   ·have:=Rat.mul_pos (a:=w-(b*(2/d))) (b:=d) (by grind) hd
    grind
end
end Go.Proofs.YtpmgpcklieincaaGreatDoor
namespace Go.Proofs.YtpmgpcklieincaaGreatDoor
def nB (d:Rat):Nat->Nat->Rat
 | 0,_=>1
 | j+1,m=>((m:Rat)*d-(j:Rat)*d)*nB d j m
section
variable {d:Rat}
theorem qal:∀ j,nB d (j+1) 0=0
 | 0=>by simp only [nB]; grind
 | j+1=>by rw [nB,qal j]; grind
theorem qav:∀ j m,nB d (j+1) (m+1)=nB d (j+1) m+d*((j+1:Nat):Rat)*nB d j m
 | 0,m=>by simp only [nB]; grind
 | j+1,m=>by
  have e:=qav j m
  have e2:nB d (j+1) m=((m:Rat)*d-(j:Rat)*d)*nB d j m:=rfl
  have e3:nB d (j+2) m=((m:Rat)*d-((j+1:Nat):Rat)*d)*nB d (j+1) m:=rfl
  have e4:nB d (j+2) (m+1)=(((m+1:Nat):Rat)*d-((j+1:Nat):Rat)*d)*nB d (j+1) (m+1):=rfl
  rw [e4,e3,e,e2]
  generalize nB d j m=x
  have:((j+1:Nat):Rat)=(j:Rat)+1:=by grind
  have:((m+1:Nat):Rat)=(m:Rat)+1:=by grind
  grind
theorem qcV (hd:0<d):∀ j m,0<=nB d j m
 | 0,_=>by simp only [nB]; decide
 | j+1,0=>by rw [qal]; exact Rat.le_refl
 | j+1,m+1=>by
  have h1:=qcV hd (j+1) m
  have h2:=Rat.mul_nonneg (Rat.mul_nonneg (Rat.le_of_lt hd) (Rat.le_of_lt (Vx j))) (qcV hd j m)
  rw [qav]; grind
theorem qdo (c:Nat->Rat):∀ J,sm (λj=>c j*nB d j 0) (J+1)=c 0
 | 0=>by simp only [sm,nB]; grind
 | J+1=>by
  rw [sm,qdo c J,qal]; grind
theorem qdF (c:Nat->Rat)(m:Nat):∀ J,sm (λj=>c j*nB d j (m+1)) (J+1)=sm (λj=>c j*nB d j m) (J+1)+d*sm (λj=>((j+1:Nat):Rat)*c (j+1)*nB d j m) J
 | 0=>by simp only [sm,nB]; grind
 | J+1=>by
  have e:=qdF c m J
  have s:∀ (f:Nat->Rat) k,sm f (k+1)=sm f k+f k:=λ_ _=>rfl
  rw [s _ (J+1),e,s _ (J+1),s (λj=>((j+1:Nat):Rat)*c (j+1)*nB d j m) J,qav]
  generalize sm (λj=>c j*nB d j m) (J+1)=p
  generalize sm (λj=>((j+1:Nat):Rat)*c (j+1)*nB d j m) J=q
  grind
theorem qcK {f g:Nat->Rat}:∀ J,(∀ j,j<J->f j=g j)->sm f J=sm g J
 | 0,_=>rfl
 | J+1,h=>by rw [sm,sm,qcK J λj hj=>h j (by omega),h J (by omega)]
theorem WY (hd:0<d)(a:Nat):∀ (K M:Nat) (y:Nat->Rat) (hi:Rat),(∀ i,i+K<=M->dd d y K (a+i)<=hi) -> ∀ m,m<=M->y (a+m)<=sm (λj=>dd d y j a*nB d j m) K+hi*nB d K m
 | 0,M,y,hi,h,m,hm=>by
  have:=h m hm
  simp only [dd] at this
  simp only [sm,nB]; grind
 | K+1,M,y,hi,h,m,hm=>by
  have hz:∀ n,y (n+1)=y n+d*dd d y 1 n:=λn=>by
   have:=JF hd y 0 n
   simp only [dd] at this ⊢
   grind
  have hc:∀ j n,dd d (dd d y 1) j n=((j+1:Nat):Rat)*dd d y (j+1) n:=λj n=>by
   have e:=qbW hd hz j n
   have:=Vx j
   rw [e]; grind
  induction m with
  | zero=>rw [qdo,qal]; simp only [dd]; grind
  | succ m ih =>
   have i1:=ih (by omega)
   have i2:=WY hd a K (M-1) (dd d y 1) (((K+1:Nat):Rat)*hi) (λi hi=>by
    rw [hc]
    have:=Zu (h i (by omega)) (Rat.le_of_lt (Vx K))
    grind) m (by omega)
   have e1:sm (λj=>dd d (dd d y 1) j a*nB d j m) K=sm (λj=>((j+1:Nat):Rat)*dd d y (j+1) a*nB d j m) K:=qcK K λj _=>by rw [hc]
   rw [e1] at i2
   rw [qdF,qav,<- Nat.add_assoc,hz (a+m)]
   have:=Zu i2 (Rat.le_of_lt hd)
   grind
theorem qex (hd:0<d)(a K M:Nat)(y:Nat->Rat)(lo:Rat)(h:∀ i,i+K<=M->lo<=dd d y K (a+i))(m:Nat)(hm:m<=M):sm (λj=>dd d y j a*nB d j m) K+lo*nB d K m<=y (a+m):=by
 have:=WY hd a K M (λn=>-y n) (-lo) (λi hi=>by
  rw [WS hd]; have:=h i hi; grind) m hm
 have e:∀ J,sm (λj=>dd d (λn=>-y n) j a*nB d j m) J = -sm (λj=>dd d y j a*nB d j m) J:=by
  intro J
  induction J with
  | zero=>simp only [sm]; grind
  | succ J ih=>rw [sm,sm,ih,WS hd]; grind
 rw [e] at this
 grind
def rmd (d:Rat)(y:Nat->Rat)(a K m:Nat):Rat:=if nB d K m=0 then dd d y K a else (y (a+m)-sm (λj=>dd d y j a*nB d j m) K)/nB d K m
theorem qfB (hd:0<d){a K M:Nat}{y:Nat->Rat}{lo hi:Rat}(h:∀ i,i+K<=M->lo<=dd d y K (a+i)∧dd d y K (a+i)<=hi)(hK:K<=M){m:Nat}(hm:m<=M) :
  (lo<=rmd d y a K m∧rmd d y a K m<=hi)∧y (a+m)=sm (λj=>dd d y j a*nB d j m) K+rmd d y a K m*nB d K m:=by
 have h1:=WY hd a K M y hi (λi hi=>(h i hi).2) m hm
 have h2:=qex hd a K M y lo (λi hi=>(h i hi).1) m hm
 have h3:=qcV hd K m
 have h4:=h 0 (by omega)
 unfold rmd
 generalize nB d K m=B at h1 h2 h3
 generalize sm (λj=>dd d y j a*nB d j m) K=P at h1 h2
 by_cases c:B=0
 ·subst c
  rw [if_pos rfl]
  exact ⟨h4,by grind⟩
 ·rw [if_neg c]
  have hB:0<B:=by grind
  have e:(y (a+m)-P)/B*B=y (a+m)-P:=(by grind)
  generalize (y (a+m)-P)/B=q at e
  refine ⟨⟨?_,?_⟩,by grind⟩
  ·by_cases w:lo<=q
   ·exact w
   ·have:=Rat.mul_pos (a:=lo-q) (b:=B) (by grind) hB
    grind
  ·by_cases w:q<=hi
   ·exact w
   ·have:=Rat.mul_pos (a:=q-hi) (b:=B) (by grind) hB
    grind
def hn (d s:Rat)(c:Nat->Rat)(R:Rat):Nat->Nat->Rat
 | 0,_=>R
 | r+1,j=>hn d s c R r (j+1)*(s-(j:Rat)*d)+c j
theorem qg0 (c:Nat->Rat)(R:Rat)(m:Nat):∀ r j,sm (λj=>c j*nB d j m) j+nB d j m*hn d ((m:Rat)*d) c R r j=sm (λj=>c j*nB d j m) (j+r)+R*nB d (j+r) m
 | 0,j=>by simp only [hn]; rw [Nat.add_zero]; grind
 | r+1,j=>by
  have e:=qg0 c R m r (j+1)
  rw [show j+1+r=j+(r+1) by omega] at e
  rw [<- e,hn,sm,nB]; grind
theorem qeB (c:Nat->Rat)(R:Rat)(m K:Nat):sm (λj=>c j*nB d j m) K+R*nB d K m=hn d ((m:Rat)*d) c R K 0:=by
 have e:=qg0 (d:=d) c R m K 0
 rw [Nat.zero_add] at e
 rw [<- e,sm,nB]; grind
end
end Go.Proofs.YtpmgpcklieincaaGreatDoor
set_option maxRecDepth 10000
set_option linter.unusedVariables false
set_option linter.unusedSimpArgs false
namespace Go.Proofs.YtpmgpcklieincaaGreatDoor
open Go
theorem Zy {x:Int}(h1:-9223372036854775808<=x)(h2:x<=9223372036854775807):qc x=x:=by
 exact Go.IntWalk.i64_in x ⟨h1,h2⟩
theorem qcz {a b B:Int}(hb:0<b)(h1:-B<=a)(h2:a<=B):-B<=a/b∧a/b<=B:=by
 have hB:0<=B:=by omega
 constructor
 ·rw [Int.le_ediv_iff_mul_le hb]
  have:B*1<=B*b:=Int.mul_le_mul_of_nonneg_left (by omega) hB
  have e:-B*b = -(B*b):=Int.neg_mul ..
  omega
 ·apply Int.ediv_le_of_le_mul hb
  have:B*1<=B*b:=Int.mul_le_mul_of_nonneg_left (by omega) hB
  omega
def Y5 (a b:Int):Int:=-((-a)/b)
theorem JE {a b c:Int}(hb:0<b):Y5 a b<=c↔a<=c*b:=by
 unfold Y5
 have:-c<=(-a)/b ↔ -c*b <= -a:=Int.le_ediv_iff_mul_le hb
 rw [Int.neg_mul] at this
 omega
theorem J2 {a b c:Int}(hb:0<b):c<=a/b↔c*b<=a:=Int.le_ediv_iff_mul_le hb
theorem tdm (a b:Int)(hb:0<b):(Int.tmod a b<0->Int.tdiv a b-1=a/b∧Int.tmod a b+b=a % b)∧(¬ Int.tmod a b<0->Int.tdiv a b=a/b∧Int.tmod a b=a % b):=by
 have h1:=Int.mul_tdiv_add_tmod a b
 have h2:=Int.tmod_lt_of_pos a hb
 have h3:-b<Int.tmod a b:=by
  have:=Int.tmod_lt_of_pos (-a) hb
  rw [Int.neg_tmod] at this
  omega
 have e:=λq r=>Int.ediv_emod_unique (a:=a) (b:=b) (r:=r) (q:=q) hb
 constructor
 ·intro h
  have:=(e (Int.tdiv a b-1) (Int.tmod a b+b)).2 ⟨by rw [Int.mul_sub]; omega,by omega,by omega⟩
  exact ⟨this.1.symm,this.2.symm⟩
 ·intro h
  have:=(e (Int.tdiv a b) (Int.tmod a b)).2 ⟨by omega,by omega,by omega⟩
  exact ⟨this.1.symm,this.2.symm⟩
theorem qgX {a b:Int}(hb:0<b):Y5 a b=a/b+mn (a % b) 1:=by
 have h1:=Int.mul_ediv_add_emod a b
 have h2:=Int.emod_nonneg a (by omega:b≠0)
 have h3:=Int.emod_lt_of_pos a hb
 have h5:mn (a % b) 1=0∧a % b=0∨mn (a % b) 1=1∧1<=a % b:=by unfold mn; split <;> omega
 apply Int.le_antisymm
 ·rw [JE hb,Int.add_mul,Int.mul_comm (a/b) b]
  rcases h5 with ⟨h5,h6⟩ | ⟨h5,h6⟩ <;> rw [h5] <;> omega
 ·rcases h5 with ⟨h5,h6⟩ | ⟨h5,h6⟩ <;> rw [h5]
  ·have:=(JE (a:=a) (c:=Y5 a b) hb).1 (Int.le_refl _)
   have h7:a/b<=Y5 a b:=by
    apply Int.ediv_le_of_le_mul hb this
   omega
  ·have h8:¬ Y5 a b<=a/b:=by
    rw [JE hb,Int.mul_comm]
    omega
   omega
theorem Wo {a b:Int}(hb:0<b)(ha1:-4611686018427387904<=a)(ha2:a<=4611686018427387904)(hb2:b<=4611686018427387904):Xq a b=some (a/b,Y5 a b):=by
 have hq:=qcz hb ha1 ha2
 obtain ⟨t1,t2⟩:=tdm a b hb
 have h2:=Int.emod_nonneg a (by omega:b≠0)
 have h3:=Int.emod_lt_of_pos a hb
 have hc:=qgX (a:=a) hb
 have hm:0<=mn (a % b) 1∧mn (a % b) 1<=1:=by unfold mn; split <;> omega
 unfold Xq Zh
 rw [if_pos (by omega),if_pos (by omega)]
 by_cases h:Int.tmod a b<0
 ·obtain ⟨e1,e2⟩:=t1 h
  have e3:qc (Int.tdiv a b)=Int.tdiv a b:=Zy (by omega) (by omega)
  have e4:qc (Int.tdiv a b-1)=a/b:=by rw [e1]; exact Zy (by omega) (by omega)
  have e5:qc (Int.tmod a b+b)=a % b:=by rw [e2]; exact Zy (by omega) (by omega)
  simp only [h,decide_true,if_true,Option.bind_some,e3,e4,e5]
  rw [Zy (by omega) (by omega),<- hc]
 ·obtain ⟨e1,e2⟩:=t2 h
  have e3:qc (Int.tdiv a b)=a/b:=by rw [e1]; exact Zy (by omega) (by omega)
  have h':¬ a % b<0:=by omega
  simp only [e2,h',decide_false,Bool.false_eq_true,if_false,Option.bind_some,e3]
  rw [Zy (by omega) (by omega),<- hc]
theorem V8 {a b:Int}(hb:0<b)(ha1:-4611686018427387904<=a)(ha2:a<=4611686018427387904)(hb2:b<=4611686018427387904):XX a b=some (a/b,Y5 a b):=by
 unfold XX
 rw [if_neg (by simp; omega)]
 simp only [Option.bind_some,Wo hb ha1 ha2 hb2]
theorem qde {a b:Int}(hb:b<0)(ha1:-4611686018427387904<=a)(ha2:a<=4611686018427387904)(hb2:-4611686018427387904<=b):XX a b=some ((-a)/(-b),Y5 (-a) (-b)):=by
 unfold XX
 rw [if_pos (by simp; omega)]
 have e1:qc (0-a) = -a:=by rw [Zy (by omega) (by omega)]; omega
 have e2:qc (0-b) = -b:=by rw [Zy (by omega) (by omega)]; omega
 simp only [Option.bind_some,e1,e2,Wo (a:=-a) (b:=-b) (by omega) (by omega) (by omega) (by omega)]
def W8 (x:Int):Prop:=-2147483648<=x∧x<=2147483648
theorem qcW {x y A B:Int}(hx:-A<=x∧x<=A)(hy:-B<=y∧y<=B):-(A*B)<=x*y∧x*y<=A*B:=by
 have hA:0<=A:=by omega
 have hB:0<=B:=by omega
 have h1:x.natAbs*y.natAbs<=A.natAbs*B.natAbs:=Nat.mul_le_mul (by omega) (by omega)
 have h2:((x*y).natAbs:Int)<=A*B:=by
  rw [Int.natAbs_mul]
  have:((A.natAbs*B.natAbs:Nat):Int)=A*B:=by
   rw [Int.natCast_mul,Int.natAbs_of_nonneg hA,Int.natAbs_of_nonneg hB]
  omega
 omega
theorem WV {x y:Int}(hx:W8 x)(hy:W8 y):Qb x y=some (x*y/65536,Y5 (x*y) 65536):=by
 have:=qcW (A:=2147483648) (B:=2147483648) hx hy
 unfold Qb
 rw [Zy (by omega) (by omega),V8 (by omega) (by omega) (by omega) (by omega)]
 rfl
theorem qao {x y:Int}(hx:W8 x)(hy:W8 y)(h:0<y):Q1 x y=some (x*65536/y,Y5 (x*65536) y,0):=by
 unfold W8 at hx hy
 unfold Q1
 rw [if_neg (by simp; omega),Zy (by omega) (by omega),V8 (by omega) (by omega) (by omega) (by omega)]
 rfl
theorem qas {x y:Int}(hx:W8 x)(hy:W8 y)(h:y<0):Q1 x y=some ((-x)*65536/(-y),Y5 ((-x)*65536) (-y),0):=by
 unfold W8 at hx hy
 unfold Q1
 rw [if_neg (by simp; omega),Zy (by omega) (by omega),qde (by omega) (by omega) (by omega) (by omega),Int.neg_mul]
 rfl
def Zd:qb:=⟨-2147483648,2147483648⟩
def Y2 (a:qb):Prop:=-2147483648<a.Lo∧a.Lo<=a.Hi∧a.Hi<2147483648
def Ok (a:qb):Prop:=a=Zd∨Y2 a
def nw (x y:Int):qb:=if x <= -2147483648∨y>=2147483648∨x>=2147483648∨y <= -2147483648 then Zd else ⟨x,y⟩
theorem Y2.wlo {a:qb}(h:Y2 a):W8 a.Lo:=by unfold Y2 at h; unfold W8; omega
theorem Y2.whi {a:qb}(h:Y2 a):W8 a.Hi:=by unfold Y2 at h; unfold W8; omega
theorem qaB {a:qb}:qN a=some (decide (a=Zd)):=by
 simp only [qN,QG,Option.bind_some,Option.some.injEq]
 obtain ⟨l,h⟩:=a
 simp only [Zd,qb.mk.injEq,Bool.decide_and,Bool.and_true]
 rfl
theorem Y2.ne {a:qb}(h:Y2 a):decide (a=Zd)=false:=by
 apply decide_eq_false
 rintro rfl
 simp [Y2,Zd] at h
theorem YJ {a:qb}(h:Y2 a):qN a=some false:=by rw [qaB,h.ne]
theorem ZO:qN Zd=some true:=by rw [qaB]; simp
theorem JI (x y:Int):qD x y=some (nw x y):=by
 unfold qD nw QG
 simp only [Option.bind_some]
 by_cases h:x <= -2147483648∨y>=2147483648∨x>=2147483648∨y <= -2147483648
 ·rw [if_pos h,if_pos (by simp; omega)]; rfl
 ·rw [if_neg h,if_neg (by simp; omega)]
theorem qb9 {x y:Int}(h:Y2 ⟨x,y⟩):nw x y=⟨x,y⟩:=by
 unfold Y2 at h
 unfold nw
 simp only at h
 rw [if_neg (by omega)]
theorem V3 {x y:Int}(h:x<=y):Ok (nw x y):=by
 unfold nw
 split
 ·exact .inl rfl
 ·exact .inr (by unfold Y2; simp only; omega)
theorem qeZ (x y:Int)(h:x<=y):nw x y=Zd∧(x <= -2147483648∨2147483648<=y)∨nw x y=⟨x,y⟩∧Y2 ⟨x,y⟩:=by
 unfold nw
 split
 ·exact .inl ⟨rfl,by omega⟩
 ·exact .inr ⟨rfl,by unfold Y2; simp only; omega⟩
theorem qeb {a b:qb}(ha:Y2 a)(hb:Y2 b):QM a b=some (nw (a.Lo+b.Lo) (a.Hi+b.Hi)):=by
 unfold QM
 rw [YJ ha,YJ hb]
 unfold Y2 at ha hb
 simp only [Option.bind_some,beq_self_eq_true,if_true,Bool.or_self,Bool.false_eq_true,if_false,JI]
 rw [Zy (by omega) (by omega),Zy (by omega) (by omega)]
theorem qaS (b:qb):QM Zd b=some Zd:=by
 unfold QM
 rw [ZO]
 rfl
theorem qaI (a:qb):QM a Zd=some Zd:=by
 unfold QM
 rw [qaB,ZO]
 cases decide (a=Zd) <;> rfl
theorem qfk {a:qb}(h:W8 a.Lo)(h':W8 a.Hi):XN a=some ⟨-a.Hi,-a.Lo⟩:=by
 unfold W8 at h h'
 unfold XN
 rw [Zy (by omega) (by omega),Zy (by omega) (by omega)]
 congr 2 <;> omega
theorem Ok.wlo {a:qb}(h:Ok a):W8 a.Lo:=by
 rcases h with rfl | h
 ·simp [Zd,W8]
 ·exact h.wlo
theorem Ok.whi {a:qb}(h:Ok a):W8 a.Hi:=by
 rcases h with rfl | h
 ·simp [Zd,W8]
 ·exact h.whi
theorem qc7 {a:qb}(h:Ok a):XN a=some ⟨-a.Hi,-a.Lo⟩:=qfk h.wlo h.whi
theorem qdM {a:qb}(h:Y2 a):Y2 ⟨-a.Hi,-a.Lo⟩:=by unfold Y2 at *; simp only; omega
theorem qgs {a b:qb}(ha:Y2 a)(hb:Y2 b):Xh a b=some (nw (a.Lo-b.Hi) (a.Hi-b.Lo)):=by
 unfold Xh
 rw [qfk hb.wlo hb.whi]
 simp only [Option.bind_some,qeb ha (qdM hb)]
 congr 2
theorem bT {α β:Type}{X:Option α}{v:α}{f:α->Option β}{r:Option β}(h:X=some v)(hf:f v=r):X.bind f=r:=by
 subst h
 exact hf
theorem iT {β:Type}{c:Prop}[Decidable c]{X Y:Option β}{r:Option β}(hc:c)(h:X=r):(if c then X else Y)=r:=by
 rw [if_pos hc]
 exact h
theorem iF {β:Type}{c:Prop}[Decidable c]{X Y:Option β}{r:Option β}(hc:¬ c)(h:Y=r):(if c then X else Y)=r:=by
 rw [if_neg hc]
 exact h
theorem qe7 {x y:Int}(e:x=y)(h1:-9223372036854775808<=y)(h2:y<=9223372036854775807):qc x=y:=by
 rw [e]
 exact Zy h1 h2
theorem qht {x y:Int}(h:x<=y)(z:Int):(z<0∨x*z<=y*z)∧(0<z∨y*z<=x*z):=by
 constructor
 ·rcases Int.lt_or_le z 0 with hz | hz
  ·exact .inl hz
  ·exact .inr (Int.mul_le_mul_of_nonneg_right h hz)
 ·rcases Int.lt_or_le 0 z with hz | hz
  ·exact .inl hz
  ·exact .inr (Int.mul_le_mul_of_nonpos_right h hz)
theorem qeD {x y:Int}(h:x<=y)(z:Int):(z<0∨z*x<=z*y)∧(0<z∨z*y<=z*x):=by
 have:=qht h z
 rw [Int.mul_comm z x,Int.mul_comm z y]
 exact this
theorem qeO {x y z:Int}(h:x<=y)(hz:0<=z):x*z<=y*z:=Int.mul_le_mul_of_nonneg_right h hz
theorem qgZ {x y z:Int}(h:x<=y)(hz:z<=0):y*z<=x*z:=Int.mul_le_mul_of_nonpos_right h hz
structure qgi (a b:qb) (l h:Int):Prop where
 lo:l<=a.Lo*b.Lo∧l<=a.Lo*b.Hi∧l<=a.Hi*b.Lo∧l<=a.Hi*b.Hi
 hi:a.Lo*b.Lo<=h∧a.Lo*b.Hi<=h∧a.Hi*b.Lo<=h∧a.Hi*b.Hi<=h
 isl:l=a.Lo*b.Lo∨l=a.Lo*b.Hi∨l=a.Hi*b.Lo∨l=a.Hi*b.Hi
 ish:h=a.Lo*b.Lo∨h=a.Lo*b.Hi∨h=a.Hi*b.Lo∨h=a.Hi*b.Hi
theorem qgi.le {a b:qb}{l h:Int}(H:qgi a b l h):l<=h:=by
 have:=H.lo; have:=H.hi; omega
theorem qbV (a:qb):Xo a=some (if a.Hi<=0 then 0 else if a.Lo>=0 then 2 else 1):=by
 unfold Xo
 by_cases h:a.Hi<=0 <;> by_cases h':a.Lo>=0 <;> simp [h,h']
theorem qhD (x y:Int):mn (x/65536) (y/65536)=mn x y/65536:=by unfold mn; split <;> split <;> omega
theorem qgE (x y:Int):mx (Y5 x 65536) (Y5 y 65536)=Y5 (mx x y) 65536:=by unfold mx Y5; split <;> split <;> omega
theorem qgm {a b:qb}(ha:Y2 a)(hb:Y2 b):∃ l h,Q5 a b=some (nw (l/65536) (Y5 h 65536))∧qgi a b l h:=by
 have h1:=ha.2.1
 have h2:=hb.2.1
 have r1:=qht h1 b.Lo; have r2:=qht h1 b.Hi
 have r3:=qeD h2 a.Lo; have r4:=qeD h2 a.Hi
 unfold Q5
 rw [YJ ha,YJ hb]
 simp only [Option.bind_some,beq_self_eq_true,if_true,Bool.or_self,Bool.false_eq_true,if_false,qbV,Xi,Xj,Xl,Xk,WV ha.wlo hb.wlo,WV ha.wlo hb.whi,WV ha.whi hb.wlo,WV ha.whi hb.whi,JI,qhD,qgE]
 by_cases s1:a.Hi<=0
 ·by_cases s2:b.Hi<=0
  ·simp only [s1,s2,if_true]
   refine ⟨a.Hi*b.Hi,a.Lo*b.Lo,rfl,⟨?_,?_,?_,?_⟩⟩ <;> omega
  ·by_cases s3:b.Lo>=0
   ·simp only [s1,s2,s3,if_true,if_false]
    refine ⟨a.Lo*b.Hi,a.Hi*b.Lo,rfl,⟨?_,?_,?_,?_⟩⟩ <;> omega
   ·simp only [s1,s2,s3,if_true,if_false]
    refine ⟨a.Lo*b.Hi,a.Lo*b.Lo,rfl,⟨?_,?_,?_,?_⟩⟩ <;> omega
 ·by_cases s4:a.Lo>=0
  ·by_cases s2:b.Hi<=0
   ·simp only [s1,s4,s2,if_true,if_false]
    refine ⟨a.Hi*b.Lo,a.Lo*b.Hi,rfl,⟨?_,?_,?_,?_⟩⟩ <;> omega
   ·by_cases s3:b.Lo>=0
    ·simp only [s1,s4,s2,s3,if_true,if_false]
     refine ⟨a.Lo*b.Lo,a.Hi*b.Hi,rfl,⟨?_,?_,?_,?_⟩⟩ <;> omega
    ·simp only [s1,s4,s2,s3,if_true,if_false]
     refine ⟨a.Hi*b.Lo,a.Hi*b.Hi,rfl,⟨?_,?_,?_,?_⟩⟩ <;> omega
  ·by_cases s2:b.Hi<=0
   ·simp only [s1,s4,s2,if_true,if_false]
    refine ⟨a.Hi*b.Lo,a.Lo*b.Lo,rfl,⟨?_,?_,?_,?_⟩⟩ <;> omega
   ·by_cases s3:b.Lo>=0
    ·simp only [s1,s4,s2,s3,if_true,if_false]
     refine ⟨a.Lo*b.Hi,a.Hi*b.Hi,rfl,⟨?_,?_,?_,?_⟩⟩ <;> omega
    ·simp only [s1,s4,s2,s3,if_true,if_false]
     refine ⟨mn (a.Lo*b.Hi) (a.Hi*b.Lo),mx (a.Lo*b.Lo) (a.Hi*b.Hi),rfl,?_⟩
     unfold mn mx
     split <;> split <;> refine ⟨?_,?_,?_,?_⟩ <;> omega
theorem qeV (b:qb):Q5 Zd b=some Zd:=by
 unfold Q5
 rw [ZO]
 rfl
theorem qcE (a:qb):Q5 a Zd=some Zd:=by
 unfold Q5
 rw [qaB,ZO]
 cases decide (a=Zd) <;> rfl
structure qcj (a b:qb) (x y u v:Int):Prop where
 ypos:0<y
 vpos:0<v
 x_:x=a.Lo∨x=a.Hi
 y_:y=b.Lo∨y=b.Hi
 u_:u=a.Lo∨u=a.Hi
 v_:v=b.Lo∨v=b.Hi
 lo:x*b.Lo<=a.Lo*y∧x*b.Hi<=a.Lo*y∧x*b.Lo<=a.Hi*y∧x*b.Hi<=a.Hi*y
 hi:a.Lo*v<=u*b.Lo∧a.Lo*v<=u*b.Hi∧a.Hi*v<=u*b.Lo∧a.Hi*v<=u*b.Hi
theorem qew {a b c d:Int}(hb:0<b)(hd:0<d)(h:a*d<=c*b):a*65536/b<=c*65536/d:=by
 rw [J2 hd]
 have h1:=(J2 (a:=a*65536) (c:=a*65536/b) hb).1 (Int.le_refl _)
 have h2:(a*65536/b*d)*b<=(c*65536)*b:=by
  have e1:(a*65536/b*d)*b=(a*65536/b*b)*d:=by grind
  have e2:(a*65536/b*b)*d<=(a*65536)*d:=qeO h1 (by omega)
  have e3:(a*65536)*d=(a*d)*65536:=by grind
  have e4:(c*65536)*b=(c*b)*65536:=by grind
  omega
 exact Int.le_of_mul_le_mul_right h2 hb
theorem qc0 {a b c d:Int}(hb:0<b)(hd:0<d)(h:a*d<=c*b):Y5 (a*65536) b<=Y5 (c*65536) d:=by
 rw [JE hb]
 have h1:=(JE (a:=c*65536) (c:=Y5 (c*65536) d) hd).1 (Int.le_refl _)
 have h2:(a*65536)*d<=(Y5 (c*65536) d*b)*d:=by
  have e1:(Y5 (c*65536) d*b)*d=(Y5 (c*65536) d*d)*b:=by grind
  have e2:(c*65536)*b<=(Y5 (c*65536) d*d)*b:=qeO h1 (by omega)
  have e3:(a*65536)*d=(a*d)*65536:=by grind
  have e4:(c*65536)*b=(c*b)*65536:=by grind
  omega
 exact Int.le_of_mul_le_mul_right h2 hd
theorem qcQ (a:qb)(x:Int):X6 a x=some (decide (a=Zd)||(decide (a.Lo<=x)&&decide (x<=a.Hi))):=by
 unfold X6
 rw [qaB]
 rfl
theorem Vu {a:qb}(h:Y2 a)(x:Int):X6 a x=some (decide (a.Lo<=x∧x<=a.Hi)):=by
 rw [qcQ,h.ne,Bool.false_or,Bool.decide_and]
def ngv (a:qb):qb:=⟨-a.Hi,-a.Lo⟩
theorem qeH {a b:qb}(ha:Y2 a)(hb:Y2 b)(h:0<b.Lo):∃ x y u v,QW a b=some (nw (x*65536/y) (Y5 (u*65536) v))∧qcj a b x y u v:=by
 have h1:=ha.2.1
 have h2:=hb.2.1
 have h3:0<b.Hi:=by omega
 have r1:=qeO h1 (Int.le_of_lt h); have r2:=qeO h1 (Int.le_of_lt h3)
 have r3:=qeD h2 a.Lo; have r4:=qeD h2 a.Hi
 have c1:=Int.mul_comm b.Lo a.Lo
 unfold QW
 rw [YJ ha,YJ hb,Vu hb]
 have h4:decide (b.Lo<=0∧0<=b.Hi)=false:=by apply decide_eq_false; omega
 have h5:decide (b.Lo>0)=true:=decide_eq_true h
 simp only [Option.bind_some,h4,h5,beq_self_eq_true,if_true,Bool.or_self,Bool.false_eq_true,if_false,qbV,QY,Xi,Xj,Xl,Xk,qao ha.wlo hb.wlo h,qao ha.wlo hb.whi h3,qao ha.whi hb.wlo h,qao ha.whi hb.whi h3,JI]
 by_cases s1:a.Hi<=0
 ·simp only [s1,if_true]
  refine ⟨a.Lo,b.Lo,a.Hi,b.Hi,rfl,⟨h,h3,.inl rfl,.inl rfl,.inr rfl,.inr rfl,?_,?_⟩⟩ <;> omega
 ·by_cases s4:a.Lo>=0
  ·simp only [s1,s4,if_true,if_false]
   refine ⟨a.Lo,b.Hi,a.Hi,b.Lo,rfl,⟨h3,h,.inl rfl,.inr rfl,.inr rfl,.inl rfl,?_,?_⟩⟩ <;> omega
  ·simp only [s1,s4,if_true,if_false]
   refine ⟨a.Lo,b.Lo,a.Hi,b.Lo,rfl,⟨h,h,.inl rfl,.inl rfl,.inr rfl,.inl rfl,?_,?_⟩⟩ <;> omega
theorem qey {a b:qb}(ha:Y2 a)(hb:Y2 b)(h3:b.Hi<0):∃ x y u v,QW a b=some (nw (x*65536/y) (Y5 (u*65536) v))∧qcj (ngv a) (ngv b) x y u v:=by
 have h1:=ha.2.1
 have h2:=hb.2.1
 have h:b.Lo<0:=by omega
 have r1:=qgZ h1 (Int.le_of_lt h); have r2:=qgZ h1 (Int.le_of_lt h3)
 have r3:=qeD h2 a.Lo; have r4:=qeD h2 a.Hi
 unfold QW
 rw [YJ ha,YJ hb,Vu hb]
 have h4:decide (b.Lo<=0∧0<=b.Hi)=false:=by apply decide_eq_false; omega
 have h5:decide (b.Lo>0)=false:=decide_eq_false (by omega)
 simp only [Option.bind_some,h4,h5,beq_self_eq_true,if_true,Bool.or_self,Bool.false_eq_true,if_false,qbV,QY,Xi,Xj,Xl,Xk,qas ha.wlo hb.wlo h,qas ha.wlo hb.whi h3,qas ha.whi hb.wlo h,qas ha.whi hb.whi h3,JI]
 by_cases s1:a.Hi<=0
 ·simp only [s1,if_true]
  refine ⟨-a.Hi,-b.Lo,-a.Lo,-b.Hi,rfl,⟨by omega,by omega,.inl rfl,.inr rfl,.inr rfl,.inl rfl,?_,?_⟩⟩ <;> simp only [ngv,Int.neg_mul_neg] <;> omega
 ·by_cases s4:a.Lo>=0
  ·simp only [s1,s4,if_true,if_false]
   refine ⟨-a.Hi,-b.Hi,-a.Lo,-b.Lo,rfl,⟨by omega,by omega,.inl rfl,.inl rfl,.inr rfl,.inr rfl,?_,?_⟩⟩ <;> simp only [ngv,Int.neg_mul_neg] <;> omega
  ·simp only [s1,s4,if_true,if_false]
   refine ⟨-a.Hi,-b.Hi,-a.Lo,-b.Hi,rfl,⟨by omega,by omega,.inl rfl,.inl rfl,.inr rfl,.inl rfl,?_,?_⟩⟩ <;> simp only [ngv,Int.neg_mul_neg] <;> omega
theorem qfq {a b:qb}(ha:Y2 a)(hb:Y2 b)(h:b.Lo<=0∧0<=b.Hi):QW a b=some Zd:=by
 unfold QW
 rw [YJ ha,YJ hb,Vu hb,decide_eq_true h]
 rfl
theorem qfP (b:qb):QW Zd b=some Zd:=by
 unfold QW
 rw [ZO]
 rfl
theorem qfR (a:qb):QW a Zd=some Zd:=by
 unfold QW
 rw [qaB,ZO]
 cases decide (a=Zd) <;> rfl
def sqm (a:qb):Int:=mx (mx a.Lo (-a.Hi)) 0
def mag (a:qb):Int:=mx a.Hi (-a.Lo)
theorem qhv {a:qb}(h:Ok a):Zo a=some (mag a):=by
 have:=h.wlo
 unfold W8 at this
 unfold Zo mag
 rw [Zy (by omega) (by omega)]
 congr 2
 omega
theorem qhM {a:qb}(h:Y2 a):Xz a=some (nw (sqm a*sqm a/65536) (Y5 (mag a*mag a) 65536)):=by
 unfold Xz
 rw [YJ h,qhv (.inr h)]
 have h':=h
 unfold Y2 at h'
 have e:qc (0-a.Hi) = -a.Hi:=by rw [Zy (by omega) (by omega)]; omega
 have e1:W8 (sqm a):=by unfold W8 sqm mx; split <;> split <;> omega
 have e2:W8 (mag a):=by unfold W8 mag mx; split <;> omega
 simp only [Option.bind_some,Bool.false_eq_true,if_false,e]
 have e3:mx (mx a.Lo (-a.Hi)) 0=sqm a:=rfl
 simp only [e3,WV e1 e1,WV e2 e2,Option.bind_some,JI]
theorem qhF:Xz Zd=some Zd:=by
 unfold Xz
 rw [ZO]
 rfl
theorem qhp {a:qb}(h:Y2 a){p:Int}(hp:a.Lo<=p∧p<=a.Hi):sqm a*sqm a<=p*p∧p*p<=mag a*mag a:=by
 have h1:0<=sqm a∧sqm a<=p.natAbs:=by unfold sqm mx; split <;> split <;> omega
 have h2:(p.natAbs:Int)<=mag a:=by unfold mag mx; split <;> omega
 have e:p*p=(p.natAbs:Int)*p.natAbs:=Int.natAbs_mul_self.symm
 rw [e]
 exact ⟨Int.mul_le_mul h1.2 h1.2 h1.1 (by omega),Int.mul_le_mul h2 h2 (by omega) (by omega)⟩
instance (a:qb):Decidable (Y2 a):=by unfold Y2; infer_instance
instance (a:qb):Decidable (Ok a):=by unfold Ok; infer_instance
theorem qbC (k0:Nat)(a t8 n s:Int)(hn:qc (a*65536)=n)(hnp:0<n)(h0:0<=s)(hs1:s*s<=n)(hs2:n<(s+1)*(s+1))(hn2:n<=281474976710656) :
  ∀ (k:Nat) (x:Int),0<x->s<=x->x<=4294967296->x<k->XQ.l17 k0 a t8 k x=some s
 | 0,x,h1,_,_,h3=>by omega
 | k+1,x,h1,h2,h4,h3=>by
  unfold XQ.l17
  rw [if_pos (by omega),hn]
  have hn0:0<=n:=by have:=Int.mul_nonneg h0 h0; omega
  have d1:Int.tdiv n x=n/x:=Int.tdiv_eq_ediv_of_nonneg hn0
  have d2:=Int.ediv_nonneg hn0 (Int.le_of_lt h1)
  have d3:n/x<=n:=Int.ediv_le_self x hn0
  have e1:qc (Int.tdiv n x)=n/x:=by rw [d1]; exact Zy (by omega) (by omega)
  have e2:qc (x+n/x)=x+n/x:=Zy (by omega) (by omega)
  have d4:Int.tdiv (x+n/x) 2=(x+n/x)/2:=Int.tdiv_eq_ediv_of_nonneg (by omega)
  have e3:qc (Int.tdiv (x+n/x) 2)=(x+n/x)/2:=by rw [d4]; exact Zy (by omega) (by omega)
  rw [e1,e2,e3]
  simp only [Option.bind_some]
  have m1:=(J2 (a:=n) (c:=n/x) h1).1 (Int.le_refl _)
  have m2:n<(n/x+1)*x:=by
   have:=Int.lt_ediv_add_one_mul_self n h1
   exact this
  by_cases hge:(x+n/x)/2>=x
  ·rw [if_pos (by simp; omega)]
   -- x ≤ n / x, hence x * x ≤ n, hence x ≤ s
   have g1:x<=n/x:=by omega
   have g2:x*x<=n:=by
    have:x*x<=n/x*x:=qeO g1 (by omega)
    omega
   have g3:¬ s+1<=x:=λh=>by
    have:(s+1)*(s+1)<=x*x:=Int.mul_le_mul h h (by omega) (by omega)
    omega
   congr 1
   omega
  ·rw [if_neg (by simp; omega)]
   -- the next one is not below the root: (2 s - x) * x ≤ s * s ≤ n
   have g1:(2*s-x)*x<=s*s:=by
    have h5:0<=(s-x)*(s-x):=by
     have:=Int.natAbs_mul_self (a:=s-x)
     omega
    have h6:(s-x)*(s-x)=s*s-(2*s-x)*x:=by grind
    omega
   have g2:2*s-x<=n/x:=(J2 h1).2 (by omega)
   have g3:0<(x+n/x)/2:=by
    have:1<=x+n/x-1∨x=1:=by omega
    rcases this with h5 | h5
    ·omega
    ·subst h5
     rw [Int.ediv_one] at hge g2 ⊢
     omega
   exact qbC k0 a t8 n s hn hnp h0 hs1 hs2 hn2 k _ g3 (by omega) (by omega) (by omega)
def qdd:ByteArray:=(⟨#[0,1,2,2,3,3,3,3,4,4,4,4,4,4,4,4,5,5,5,5,5,5,5,5,5,5,5,5,5,5,5,5,6,6,6,6,6,6,6,6,6,6,6,6,6,6,6,6,6,6,6,6,6,6,6,6,6,6,6,6,6,6,6,6,7,7,7,7,7,7,7,7,7,7,7,7,7,7,7,7,7,7,7,7,7,7,7,7,7,7,7,7,7,7,7,7,7,7,7,7,7,7,7,7,7,7,7,7,7,7,7,7,7,7,7,7,7,7,7,7,7,7,7,7,7,7,7,7,8,8,8,8,8,8,8,8,8,8,8,8,8,8,8,8,8,8,8,8,8,8,8,8,8,8,8,8,8,8,8,8,8,8,8,8,8,8,8,8,8,8,8,8,8,8,8,8,8,8,8,8,8,8,8,8,8,8,8,8,8,8,8,8,8,8,8,8,8,8,8,8,8,8,8,8,8,8,8,8,8,8,8,8,8,8,8,8,8,8,8,8,8,8,8,8,8,8,8,8,8,8,8,8,8,8,8,8,8,8,8,8,8,8,8,8,8,8,8,8,8,8,8,8,8,8,8,8]⟩:ByteArray)
theorem qhw {y:Int}(h0:0<=y)(h1:y<256):∃ v:Nat,qa6 qdd (qej y)=some (v:Int)∧v<=8∧y<2 ^ v:=by
 have hall:((List.range 256).all λi=>match qa6 qdd (i:Int) with | some v=>decide (0<=v)&&decide (v.toNat<=8)&&decide ((i:Int)<2 ^ v.toNat) | none=>false)=true:=by kernel_rfl
 have h:=List.all_eq_true.1 hall y.toNat (List.mem_range.2 (by omega))
 have e:((y.toNat:Nat):Int)=y:=by omega
 have e2:qej y=y:=Go.IntWalk.u8_in y ⟨h0,by omega⟩
 rw [e2]
 rw [e] at h
 split at h
 ·rename_i v hv
  simp only [Bool.and_eq_true,decide_eq_true_eq] at h
  exact ⟨v.toNat,by rw [hv]; congr 1; omega,h.1.2,h.2⟩
 ·cases h
theorem fd (x c:Int)(h:0<c):Int.fdiv x c=x/c:=Int.fdiv_eq_ediv_of_nonneg _ (Int.le_of_lt h)
theorem qg5 {i j:Nat}(h:i<=j):(2:Int) ^ i<=2 ^ j:=by
 have:=Nat.pow_le_pow_right (n:=2) (by omega) h
 exact_mod_cast this
theorem pw (v c:Nat):(2:Int) ^ (v+c)=2 ^ v*2 ^ c:=Int.pow_add ..
theorem qia {n:Int}(h0:0<=n)(h1:n<18446744073709551616):∃ m:Nat,ZX n=some (m:Int)∧m<=64∧n<2 ^ m:=by
 have key:∀ (y:Int) (c:Nat),0<=y->y<256->c<=56->(∀ P:Int,y<P->n<P*2 ^ c) -> ∃ m:Nat,((qa6 qdd (qej y)).bind λt12=>some (qc ((c:Int)+(qc t12))))=some (m:Int)∧m<=64∧n<2 ^ m:=by
  intro y c g0 g1 g2 g3
  obtain ⟨v,hv,hv8,hlt⟩:=qhw g0 g1
  rw [hv]
  refine ⟨v+c,?_,by omega,?_⟩
  ·simp only [Option.bind_some]
   rw [Zy (x:=(v:Int)) (by omega) (by omega),Zy (by omega) (by omega)]
   congr 1
   omega
  ·rw [pw]
   exact g3 _ hlt
 unfold ZX
 have f1:=fd n 4294967296 (by omega)
 rw [f1]
 have s16:∀ x:Int,Int.fdiv x 65536=x/65536:=λx=>fd x _ (by omega)
 have s8:∀ x:Int,Int.fdiv x 256=x/256:=λx=>fd x _ (by omega)
 have w16:qc (0+16)=16:=Zy (by omega) (by omega)
 have w48:qc (32+16)=48:=Zy (by omega) (by omega)
 have w8:qc (0+8)=8:=Zy (by omega) (by omega)
 have w24:qc (16+8)=24:=Zy (by omega) (by omega)
 have w40:qc (32+8)=40:=Zy (by omega) (by omega)
 have w56:qc (48+8)=56:=Zy (by omega) (by omega)
 by_cases c1:n>=4294967296
 ·rw [if_pos (by simpa using c1)]
  simp only [Option.bind_some]
  by_cases c2:n/4294967296>=65536
  ·rw [if_pos (by simpa using c2)]
   simp only [Option.bind_some,s16,w48]
   by_cases c3:n/4294967296/65536>=256
   ·rw [if_pos (by simpa using c3)]
    simp only [Option.bind_some,s8,w56]
    exact key _ 56 (by omega) (by omega) (by omega) (λP hP=>by simp only [Int.reducePow]; omega)
   ·rw [if_neg (by simpa using c3)]
    exact key _ 48 (by omega) (by omega) (by omega) (λP hP=>by simp only [Int.reducePow]; omega)
  ·rw [if_neg (by simpa using c2)]
   simp only [Option.bind_some]
   by_cases c3:n/4294967296>=256
   ·rw [if_pos (by simpa using c3)]
    simp only [Option.bind_some,s8,w40]
    exact key _ 40 (by omega) (by omega) (by omega) (λP hP=>by simp only [Int.reducePow]; omega)
   ·rw [if_neg (by simpa using c3)]
    exact key _ 32 (by omega) (by omega) (by omega) (λP hP=>by simp only [Int.reducePow]; omega)
 ·rw [if_neg (by simpa using c1)]
  simp only [Option.bind_some]
  by_cases c2:n>=65536
  ·rw [if_pos (by simpa using c2)]
   simp only [Option.bind_some,s16,w16]
   by_cases c3:n/65536>=256
   ·rw [if_pos (by simpa using c3)]
    simp only [Option.bind_some,s8,w24]
    exact key _ 24 (by omega) (by omega) (by omega) (λP hP=>by simp only [Int.reducePow]; omega)
   ·rw [if_neg (by simpa using c3)]
    exact key _ 16 (by omega) (by omega) (by omega) (λP hP=>by simp only [Int.reducePow]; omega)
  ·rw [if_neg (by simpa using c2)]
   simp only [Option.bind_some]
   by_cases c3:n>=256
   ·rw [if_pos (by simpa using c3)]
    simp only [Option.bind_some,s8,w8]
    exact key _ 8 (by omega) (by omega) (by omega) (λP hP=>by simp only [Int.reducePow]; omega)
   ·rw [if_neg (by simpa using c3)]
    exact key _ 0 (by omega) (by omega) (by omega) (λP hP=>by simp only [Int.pow_zero]; omega)
theorem qbu:∀ n:Nat,∃ s:Nat,s*s<=n∧n<(s+1)*(s+1)
 | 0=>⟨0,by simp⟩
 | n+1=>by
  obtain ⟨s,h1,h2⟩:=qbu n
  by_cases h:n+1<(s+1)*(s+1)
  ·exact ⟨s,by omega,h⟩
  ·refine ⟨s+1,by omega,?_⟩
   have e:(s+1+1)*(s+1+1)=(s+1)*(s+1)+2*(s+1)+1:=by grind
   omega
theorem qg8 {n:Int}(h:0<=n):∃ s:Int,0<=s∧s*s<=n∧n<(s+1)*(s+1):=by
 obtain ⟨s,h1,h2⟩:=qbu n.toNat
 refine ⟨s,by omega,?_,?_⟩
 ·have:((s*s:Nat):Int)<=n:=by omega
  simpa using this
 ·have:n<(((s+1)*(s+1):Nat):Int):=by omega
  simpa using this
theorem qcC {s t:Int}(hs:0<=s)(ht:0<=t)(h:s*s<t*t):s<t:=by
 rcases Int.lt_or_le s t with h1 | h1
 ·exact h1
 ·have:=Int.mul_le_mul h1 h1 ht hs
  omega
theorem qhW {s t:Int}(hs:0<=s)(h:s<=t):s*s<=t*t:=Int.mul_le_mul h h hs (by omega)
structure Va (n s t:Int):Prop where
 s0:0<=s
 le:s*s<=n
 lt:n<(s+1)*(s+1)
 t_:t=if s*s<n then s+1 else s
theorem Va.up {n s t:Int}(h:Va n s t):n<=t*t:=by
 have h1:=h.le; have h2:=h.lt; have h3:=h.t_
 split at h3 <;> subst h3 <;> omega
theorem Va.st {n s t:Int}(h:Va n s t):s<=t∧t<=s+1:=by
 have h3:=h.t_
 split at h3 <;> omega
theorem Va.low {n s t:Int}(h:Va n s t):t=0∨(t-1)*(t-1)<n:=by
 have h1:=h.le; have h3:=h.t_; have h0:=h.s0
 split at h3
 ·right
  have:t-1=s:=by omega
  rw [this]
  assumption
 ·subst h3
  rcases Int.lt_or_le 0 t with h4 | h4
  ·right
   have e:(t-1)*(t-1)=t*t-2*t+1:=by grind
   omega
  ·left; omega
theorem Va.bound {n s t:Int}(h:Va n s t)(hn:n<=140737488355328):s<=16777216∧t<=16777216:=by
 have h1:=h.le; have h0:=h.s0; have h4:=h.st
 have a:s<11863284:=qcC h0 (by omega) (by omega)
 omega
theorem qd6 {k0:Nat}(hk:4294967296<k0){a:Int}(h0:0<=a)(h1:a<=2147483648):∃ s t,XQ k0 a=some (s,t,0)∧Va (a*65536) s t:=by
 have hn:qc (a*65536)=a*65536:=Zy (by omega) (by omega)
 unfold XQ
 rw [if_neg (by simp; omega),hn]
 by_cases hz:a*65536=0
 ·rw [if_pos (by simpa using hz),hz]
  exact ⟨0,0,rfl,⟨by omega,by omega,by omega,by simp⟩⟩
 ·rw [if_neg (by simpa using hz)]
  have hu:Z3 (a*65536)=a*65536:=Go.IntWalk.u64_in _ ⟨by omega,by omega⟩
  obtain ⟨m,hm,hm64,hlt⟩:=qia (n:=a*65536) (by omega) (by omega)
  rw [hu,hm]
  simp only [Option.bind_some]
  have e1:qc ((m:Int)+1)=m+1:=Zy (by omega) (by omega)
  have e2:Int.tdiv ((m:Int)+1) 2=(m+1)/2:=Int.tdiv_eq_ediv_of_nonneg (by omega)
  have e3:qc (((m:Int)+1)/2)=(m+1)/2:=Zy (by omega) (by omega)
  rw [e1,e2,e3,if_pos (by omega)]
  have e4:min (((m:Int)+1)/2).toNat 64=(m+1)/2:=by omega
  rw [e4]
  generalize he:(m+1)/2=e
  have p1:(0:Int)<2 ^ e:=Int.pow_pos (by omega)
  have p2:(2:Int) ^ e<=2 ^ 32:=qg5 (by omega)
  have p3:(2:Int) ^ m<=2 ^ (e+e):=qg5 (by omega)
  rw [pw] at p3
  have p4:qc (1*2 ^ e)=2 ^ e:=by rw [Int.one_mul]; exact Zy (by omega) (by omega)
  rw [p4]
  obtain ⟨s,s0,s1,s2⟩:=qg8 (n:=a*65536) (by omega)
  have s3:s<2 ^ e:=qcC s0 (Int.le_of_lt p1) (by omega)
  rw [qbC k0 a (m:Int) (a*65536) s hn (by omega) s0 s1 s2 (by omega) k0 (2 ^ e) p1 (by omega) (by omega) (by omega)]
  simp only [Option.bind_some]
  have b1:s<11863284:=qcC s0 (by omega) (by omega)
  have b2:qc (s*s)=s*s:=Zy (by have:=Int.mul_nonneg s0 s0; omega) (by omega)
  have b3:qc (s+1)=s+1:=Zy (by omega) (by omega)
  rw [b2,b3]
  by_cases hs:s*s<a*65536
  ·rw [if_pos (by simpa using hs)]
   exact ⟨s,s+1,rfl,⟨s0,s1,s2,by rw [if_pos hs]⟩⟩
  ·rw [if_neg (by simpa using hs)]
   exact ⟨s,s,rfl,⟨s0,s1,s2,by rw [if_neg hs]⟩⟩
theorem qeh (k0:Nat):XD k0 Zd=some (Zd,true):=by
 unfold XD
 rw [ZO]
 rfl
theorem qcP (k0:Nat){a:qb}(ha:Y2 a)(h:a.Hi<0):XD k0 a=some (⟨0,0⟩,false):=by
 unfold XD
 rw [YJ ha]
 simp only [Option.bind_some,Bool.false_eq_true,if_false]
 rw [if_pos (by simpa using h)]
theorem qbi {k0:Nat}(hk:4294967296<k0){a:qb}(ha:Y2 a)(h:0<=a.Hi):∃ s t u v,XD k0 a=some (⟨s,t⟩,true)∧Va (mx a.Lo 0*65536) s u∧Va (a.Hi*65536) v t∧s<=t∧Y2 ⟨s,t⟩:=by
 have ha':=ha
 unfold Y2 at ha'
 have hm:0<=mx a.Lo 0∧mx a.Lo 0<=a.Hi:=by unfold mx; split <;> omega
 obtain ⟨s,u,h1,h2⟩:=qd6 hk (a:=mx a.Lo 0) (by omega) (by omega)
 obtain ⟨v,t,h3,h4⟩:=qd6 hk (a:=a.Hi) (by omega) (by omega)
 have b1:=h2.bound (by omega)
 have b2:=h4.bound (by omega)
 have b0:=h2.s0
 have st:s<=t:=by
  have c1:=h2.le
  have c2:=h4.up
  have c3:=h4.s0
  have c4:=h4.st
  rcases Int.lt_or_le t s with c5 | c5
  ·have:t*t<s*s:=by
    have d1:(t+1)*(t+1)<=s*s:=qhW (by omega) (by omega)
    have d2:(t+1)*(t+1)=t*t+2*t+1:=by grind
    omega
   omega
  ·exact c5
 have hf:Y2 ⟨s,t⟩:=by unfold Y2; simp only; omega
 unfold XD
 rw [YJ ha]
 simp only [Option.bind_some,Bool.false_eq_true,if_false]
 rw [if_neg (by simpa using h),h1,h3]
 simp only [Option.bind_some,JI,qb9 hf]
 exact ⟨s,t,u,v,rfl,h2,h4,st,hf⟩
theorem fc {l h d:Int}(hd:0<d)(hl:l<=h):l/d<=Y5 h d:=by
 have h1:=(JE (a:=h) (c:=Y5 h d) hd).1 (Int.le_refl _)
 have h2:=(J2 (a:=l) (c:=l/d) hd).1 (Int.le_refl _)
 rcases Int.lt_or_le (Y5 h d) (l/d) with h3 | h3
 ·have:(Y5 h d+1)*d<=l/d*d:=qeO (by omega) (by omega)
  rw [Int.add_mul] at this
  omega
 ·exact h3
theorem qir (x:Int):x/65536*65536<=x:=(J2 (by omega)).1 (Int.le_refl _)
theorem qip (x:Int):x<=Y5 x 65536*65536:=(JE (by omega)).1 (Int.le_refl _)
theorem Ok.b {a:qb}(h:Ok a):-2147483648<=a.Lo∧a.Lo<=a.Hi∧a.Hi<=2147483648∧(a≠Zd -> -2147483648<a.Lo∧a.Hi<2147483648):=by
 rcases h with rfl | h
 ·simp [Zd]
 ·unfold Y2 at h
  exact ⟨by omega,by omega,by omega,λ_=>by omega⟩
theorem mnl (x y:Int):mn x y<=x∧mn x y<=y∧(mn x y=x∨mn x y=y):=by unfold mn; split <;> omega
theorem mxl (x y:Int):x<=mx x y∧y<=mx x y∧(mx x y=x∨mx x y=y):=by unfold mx; split <;> omega
theorem qeM (a b:qb):YO a b=some (decide (b.Lo<=a.Lo∧a.Hi<=b.Hi)):=by unfold YO; rw [Bool.decide_and]
theorem qgL {a b:qb}(ha:Ok a)(hb:Ok b):Ok ⟨mn a.Lo b.Lo,mx a.Hi b.Hi⟩:=by
 have h1:=mnl a.Lo b.Lo; have h2:=mxl a.Hi b.Hi; have h3:=ha.b; have h4:=hb.b
 by_cases e:a=Zd
 ·subst e; left; simp only [Zd,qb.mk.injEq] at *; omega
 ·by_cases e':b=Zd
  ·subst e'; left; simp only [Zd,qb.mk.injEq] at *; omega
  ·right; have h5:=h3.2.2.2 e; have h6:=h4.2.2.2 e'; unfold Y2; simp only; omega
theorem qbn (x:Int):YG x=some (decide (-2147483648<x∧x<2147483648)):=by unfold YG; rw [Bool.decide_and]
theorem Y2.le {a:qb}(h:Y2 a):a.Lo<=a.Hi:=h.2.1
theorem qf8 {b:qb}(hb:Ok b):Xh Zd b=some Zd:=by
 unfold Xh
 exact bT (qc7 hb) (bT (qaS _) rfl)
theorem qe8 (a:qb):Xh a Zd=some Zd:=by
 unfold Xh
 exact bT (qc7 (.inl rfl)) (bT (v:=Zd) (qaI a) rfl)
theorem qcj.fits {a b:qb}{x y u v:Int}(H:qcj a b x y u v)(hb:0<b.Lo):x*65536/y<=Y5 (u*65536) v:=by
 have h1:=qew H.ypos hb H.lo.1
 have h2:=qc0 hb H.vpos H.hi.1
 have h3:=fc (l:=a.Lo*65536) hb (Int.le_refl _)
 omega
theorem qhl {a:qb}(h:Y2 a):sqm a*sqm a<=mag a*mag a:=by
 have h1:=qhp h (p:=a.Lo) ⟨by omega,h.le⟩
 omega
theorem Va.mono {n s t n' s' t':Int}(h:Va n s t)(h':Va n' s' t')(hn:n<=n'):s<=s'∧t<=t':=by
 constructor
 ·have:=qcC h.s0 (by have:=h'.s0; omega) (Int.lt_of_le_of_lt (Int.le_trans h.le hn) h'.lt)
  omega
 ·have h1:=h'.up
  have h2:=h'.s0
  have h3:=h'.st
  rcases h.low with h4 | h4
  ·omega
  ·rcases Int.lt_or_le (t-1) 0 with h5 | h5
   ·omega
   ·have:=qcC h5 (by omega:0<=t') (by omega)
    omega
theorem qgC {a:qb}(h:Y2 a):Y2 (ngv a):=qdM h
theorem qhu {a:qb}(h:Ok a):Ok (ngv a):=by
 rcases h with rfl | h
 ·exact .inl rfl
 ·exact .inr (qgC h)
theorem qhk {a:qb}(h:Ok a):XN a=some (ngv a):=qc7 h
def fq (n q:Int):Int:=if 0<q then n/q else (-n)/(-q)
end Go.Proofs.YtpmgpcklieincaaGreatDoor
set_option maxRecDepth 10000
set_option linter.unusedVariables false
set_option linter.unusedSimpArgs false
namespace Go.Proofs.YtpmgpcklieincaaGreatDoor
open Go
inductive Ex where
 | num (c:qb)
 | var (n:Int)
 | time
 | neg (e:Ex)
 | sqr (e:Ex)
 | sqrt (e:Ex)
 | bin (op:Int) (a b:Ex)
abbrev Z0:qb:=⟨0,0⟩
def Ex.code:Ex->List qt
 | .num c=>[⟨1,0,c⟩]
 | .var n=>[⟨2,n,Z0⟩]
 | .time=>[⟨3,0,Z0⟩]
 | .neg e=>⟨4,0,Z0⟩ :: e.code
 | .sqr e=>⟨5,0,Z0⟩ :: e.code
 | .sqrt e=>⟨6,0,Z0⟩ :: e.code
 | .bin op a b=>⟨op,0,Z0⟩ :: (a.code++b.code)
def Ex.ok (n:Int):Ex->Prop
 | .num c=>Ok c
 | .var k=>0<=k∧k<n
 | .time=>True
 | .neg e=>e.ok n
 | .sqr e=>e.ok n
 | .sqrt e=>e.ok n
 | .bin op a b=>(7<=op∧op<=10)∧a.ok n∧b.ok n
def Ex.dep:Ex->Nat
 | .neg e=>e.dep+1
 | .sqr e=>e.dep+1
 | .sqrt e=>e.dep+1
 | .bin _ a b=>max a.dep b.dep+1
 | _=>1
abbrev K32:Nat:=4294967296
theorem Va.uniq {n s t s' t':Int}(h:Va n s t)(h':Va n s' t'):s=s'∧t=t':=by
 have h1:=Va.mono h h' (Int.le_refl _)
 have h2:=Va.mono h' h (Int.le_refl _)
 omega
theorem Ex.code_pos:∀ e:Ex,0<e.code.length
 | .num _ | .var _ | .time | .neg _ | .sqr _ | .sqrt _ | .bin _ _ _=>by simp [Ex.code]
end Go.Proofs.YtpmgpcklieincaaGreatDoor
set_option maxRecDepth 10000
set_option linter.unusedVariables false
set_option linter.unusedSimpArgs false
namespace Go.Proofs.YtpmgpcklieincaaGreatDoor
open Go
def mk {α:Type}(n:Nat)(f:Nat->α):List α:=(List.range n).map f
theorem qeW {i:Nat}(h:i<1000000):qc ((i:Int)+1)=((i+1:Nat):Int):=by
 rw [Zy (by omega) (by omega)]; omega
def fr (l:List Int)(i:Nat):Int:=if i<l.length then l.getD i default else 0
theorem qea (x:Int){c:Nat}(hc:c<9223372036854775808)(h0:(BitVec.ofInt 64 (c:Int)).toNat=c):0<=QO .i64 x (c:Int)∧QO .i64 x (c:Int)<=(c:Int):=by
 have h:((BitVec.ofInt 64 x) &&& (BitVec.ofInt 64 (c:Int))).toNat<=c:=by
  rw [BitVec.toNat_and]
  refine Nat.le_trans Nat.and_le_right ?_
  rw [h0]; exact Nat.le_refl _
 show 0<=IntKind.wrap .i64 (((BitVec.ofInt 64 x) &&& (BitVec.ofInt 64 (c:Int))).toNat:Int)∧IntKind.wrap .i64 (((BitVec.ofInt 64 x) &&& (BitVec.ofInt 64 (c:Int))).toNat:Int)<=(c:Int)
 have e:IntKind.wrap .i64 (((BitVec.ofInt 64 x) &&& (BitVec.ofInt 64 (c:Int))).toNat:Int)=(((BitVec.ofInt 64 x) &&& (BitVec.ofInt 64 (c:Int))).toNat:Int):=Zy (by omega) (by omega)
 rw [e]; omega
theorem qdn (x:Int):0<=QO .i64 x 255∧QO .i64 x 255<=255:=qea x (c:=255) (by decide) (by decide)
theorem qib (x:Int):0<=QO .i64 x 1∧QO .i64 x 1<=1:=qea x (c:=1) (by decide) (by decide)
theorem tmb (x:Int){m:Int}(hm:0<m):-m<Int.tmod x m∧Int.tmod x m<m:=by
 have h1:=Int.tmod_lt_of_pos x hm
 have h2:=Int.tmod_lt_of_pos (-x) hm
 rw [Int.neg_tmod] at h2
 omega
theorem tmp (x:Int){m:Int}(hx:0<=x)(hm:0<m):0<=Int.tmod x m∧Int.tmod x m<m:=⟨Int.tmod_nonneg m hx,Int.tmod_lt_of_pos x hm⟩
theorem qgh (c:qb){b:Int}(hb:1<=b∧b<=256):∃ r,X4 c b=some r∧Ok r:=by
 unfold X4
 rw [if_pos (by omega),if_pos (by omega)]
 have h1:=tmb c.Lo (m:=1048576) (by omega)
 have h2:=tmb c.Hi (m:=b) (by omega)
 have h3:qc (Int.tmod c.Hi b+b)=Int.tmod c.Hi b+b:=Zy (by omega) (by omega)
 have h4:=tmp (Int.tmod c.Hi b+b) (m:=b) (by omega) (by omega)
 rw [h3,Zy (by omega) (by omega)]
 refine ⟨_,rfl,.inr ?_⟩
 unfold Y2
 simp only
 omega
theorem qcx {o:Int}(h:1<=o∧o<=10):Xr o=some (if o<=3 then 0 else if o<=6 then 1 else 2):=by
 unfold Xr
 rw [if_neg (by simp; omega)]
 by_cases h1:o<=3
 ·rw [if_pos (by simpa using h1),if_pos h1]
 ·rw [if_neg (by simpa using h1),if_neg h1]
  by_cases h2:o<=6
  ·rw [if_pos (by simpa using h2),if_pos h2]
  ·rw [if_neg (by simpa using h2),if_neg h2]
def sml (a:qb):qb:=⟨mn (Int.tmod a.Lo 16777216) (Int.tmod a.Hi 16777216),mx (Int.tmod a.Lo 16777216) (Int.tmod a.Hi 16777216)⟩
theorem qgM (a:qb):Y2 (sml a):=by
 have h1:=tmb a.Lo (m:=16777216) (by omega)
 have h2:=tmb a.Hi (m:=16777216) (by omega)
 unfold sml Y2 mn mx
 simp only
 split <;> split <;> omega
def up (w a b:qb):Int:=if a.Hi<0∧0<=b.Lo then 2 else if w.Hi<0∨0<=w.Lo then 0 else 1
end Go.Proofs.YtpmgpcklieincaaGreatDoor
set_option maxRecDepth 10000
set_option linter.unusedVariables false
set_option linter.unusedSimpArgs false
namespace Go.Proofs.YtpmgpcklieincaaGreatDoor
open Go
def ar (op:Int):Option Nat:=if 1<=op∧op<=3 then some 0 else if 4<=op∧op<=6 then some 1 else if 7<=op∧op<=10 then some 2 else none
theorem WA (op:Int):ZK op=some (match ar op with | some a=>(a:Int) | none=>-1):=by
 unfold ZK ar
 by_cases h1:1<=op∧op<=3
 ·rw [if_pos (by simpa using h1),if_pos h1]; rfl
 rw [if_neg (by simpa using h1),if_neg h1]
 by_cases h2:4<=op∧op<=6
 ·rw [if_pos (by simpa using h2),if_pos h2]; rfl
 rw [if_neg (by simpa using h2),if_neg h2]
 by_cases h3:7<=op∧op<=10
 ·rw [if_pos (by simpa using h3),if_pos h3]; rfl
 ·rw [if_neg (by simpa using h3),if_neg h3]
theorem qid {op:Int}{a:Nat}(h:ar op=some a):a<=2:=by
 unfold ar at h
 split at h
 ·injection h with h; omega
 split at h
 ·injection h with h; omega
 split at h
 ·injection h with h; omega
 ·cases h
def run:Nat->List qt->Option Nat
 | 0,_=>some 0
 | _+1,[]=>none
 | m+1,x :: l=>match ar x.Op with
  | none=>none
  | some a=>(run (m+a) l).map (· + 1)
theorem Wv:∀ (e:Ex) (n:Int),e.ok n -> ∀ (m:Nat) (post:List qt),run (m+1) (e.code++post)=(run m post).map (e.code.length + ·)
 | .num c,n,_,m,post | .var c,n,_,m,post | .time,n,_,m,post=>by
  show (run (m+0) post).map (· + 1)=_
  rw [Nat.add_zero]; congr 1; funext x; exact Nat.add_comm _ _
 | .neg e,n,h,m,post | .sqr e,n,h,m,post | .sqrt e,n,h,m,post=>by
  show (run (m+1) (e.code++post)).map (· + 1)=_
  rw [Wv e n h m post]
  cases run m post with
  | none=>rfl
  | some k=>simp only [Option.map_some,Ex.code,List.length_cons]; congr 1; omega
 | .bin op a b,n,h,m,post=>by
  have ho:ar op=some 2:=by
   have:=h.1
   unfold ar
   rw [if_neg (by omega),if_neg (by omega),if_pos (by omega)]
  show run (m+1) (⟨op,0,Z0⟩ :: (a.code++b.code)++post)=_
  rw [List.cons_append,run,show ar (⟨op,0,Z0⟩:qt).Op=some 2 from ho]
  show (run (m+2) _).map (· + 1)=_
  rw [List.append_assoc,show m+2=(m+1)+1 by omega,Wv a n h.2.1 (m+1) (b.code++post),Wv b n h.2.2 m post]
  cases run m post with
  | none=>rfl
  | some k=>simp only [Option.map_some,Ex.code,List.length_cons,List.length_append]; congr 1; omega
theorem wk {x:Int}(h1:-1000000000<=x)(h2:x<=1000000000):qc x=x:=Zy (by omega) (by omega)
theorem qa3 (l:List qt)(hl:l.length<1000)(k0:Nat)(hv:∀ x ∈ l,∃ a,ar x.Op=some a):∀ (r:List qt) (i m k:Nat),l.drop i=r->i+r.length=l.length->r.length<k->m<=2*i+1->XF.l8 k0 l k ((m+1:Nat):Int) (i:Int)=some (match run (m+1) r with | some n=>.inl ((i+n:Nat):Int) | none=>.inr ())
 | [],i,m,k,hr,hi,hk,hm=>by
  obtain ⟨k,rfl⟩:∃ j,k=j+1:=⟨k-1,by omega⟩
  simp only [List.length_nil] at hi
  rw [XF.l8,if_neg (by simp; omega),run]
 | x :: r,i,m,k,hr,hi,hk,hm=>by
  obtain ⟨k,rfl⟩:∃ j,k=j+1:=⟨k-1,by omega⟩
  simp only [List.length_cons] at hi hk
  have hx:l[i]?=some x:=by
   have:=List.getElem?_drop (xs:=l) (i:=i) (j:=0)
   rw [hr] at this; simpa using this.symm
  have hd:l.drop (i+1)=r:=by
   have:(l.drop i).drop 1=r:=by rw [hr]; rfl
   rwa [List.drop_drop] at this
  obtain ⟨a,ha⟩:=hv x (List.mem_of_getElem? hx)
  have ha2:=qid ha
  rw [XF.l8,if_pos (by simp; omega),if_pos (by omega),Int.toNat_natCast,hx,Option.bind_some,WA,ha,Option.bind_some,run,ha]
  dsimp only
  have e1:qc (((m+1:Nat):Int)+qc ((a:Int)-1))=((m+a:Nat):Int):=by rw [wk (x:=(a:Int)-1) (by omega) (by omega),wk (by omega) (by omega)]; omega
  have e2:qc ((i:Int)+1)=((i+1:Nat):Int):=by rw [wk (by omega) (by omega)]; omega
  rw [e1,e2]
  cases hma:m+a with
  | zero=>rw [if_pos (by simp),run]; rfl
  | succ q =>
   rw [if_neg (by simp; omega),qa3 l hl k0 hv r (i+1) q k hd (by omega) (by omega) (by omega)]
   cases run (q+1) r with
   | none=>rfl
   | some n=>simp only [Option.map_some]; congr 2; omega
theorem qfF {l:List qt}(hl:l.length<1000){k:Nat}(hk:1000<k)(hv:∀ x ∈ l,∃ a,ar x.Op=some a):XF k l=some (match run 1 l with | some n=>(n:Int) | none=>(l.length:Int)+1):=by
 unfold XF
 have:=qa3 l hl k hv l 0 0 k (by simp) (by omega) (by omega) (by omega)
 rw [show ((0+1:Nat):Int)=1 from rfl,show ((0:Nat):Int)=0 from rfl] at this
 rw [this,Option.bind_some]
 cases run 1 l with
 | none=>rw [wk (by omega) (by omega)]
 | some n=>simp
end Go.Proofs.YtpmgpcklieincaaGreatDoor
set_option maxRecDepth 10000
set_option linter.unusedVariables false
set_option linter.unusedSimpArgs false
namespace Go.Proofs.YtpmgpcklieincaaGreatDoor
open Go
def Ex.subs:Ex->List Ex
 | .neg e=>[e]
 | .sqr e=>[e]
 | .sqrt e=>[e]
 | .bin _ a b=>[a,b]
 | _=>[]
def Ex.op:Ex->Int
 | .num _=>1
 | .var _=>2
 | .time=>3
 | .neg _=>4
 | .sqr _=>5
 | .sqrt _=>6
 | .bin op _ _=>op
theorem Ex.head (e:Ex):∃ x r,e.code=x :: r∧x.Op=e.op∧r=(e.subs.map Ex.code).flatten:=by
 cases e <;> exact ⟨_,_,rfl,rfl,by simp [Ex.subs]⟩
theorem Ex.arity {n:Int}{e:Ex}(h:e.ok n):ar e.op=some e.subs.length:=by
 cases e with
 | bin op a b =>
  have:=h.1
  show ar op=some 2
  unfold ar
  rw [if_neg (show ¬ (1<=op∧op<=3) by omega),if_neg (show ¬ (4<=op∧op<=6) by omega),if_pos (show 7<=op∧op<=10 by omega)]
 | _=>rfl
theorem Ex.subs_ok {n:Int}{e:Ex}(h:e.ok n):∀ s ∈ e.subs,s.ok n:=by
 cases e <;> intro s hs <;> simp [Ex.subs] at hs
 ·subst hs; exact h
 ·subst hs; exact h
 ·subst hs; exact h
 ·rcases hs with rfl | rfl
  ·exact h.2.1
  ·exact h.2.2
inductive qaj {α β:Type} (R:α->β->Prop):List α->List β->Prop
 | nil:qaj R [] []
 | cons {a:α} {b:β} {l:List α} {m:List β} (h:R a b) (t:qaj R l m):qaj R (a :: l) (b :: m)
end Go.Proofs.YtpmgpcklieincaaGreatDoor
set_option maxRecDepth 10000
set_option linter.unusedVariables false
set_option linter.unusedSimpArgs false
namespace Go.Proofs.YtpmgpcklieincaaGreatDoor
open Go
theorem Ws {n:Int}:∀ (e:Ex),e.ok n -> ∀ x ∈ e.code,∃ a,ar x.Op=some a
 | .num _,_,x,hx | .var _,_,x,hx | .time,_,x,hx=>by
  obtain rfl:=List.mem_singleton.1 hx
  exact ⟨0,rfl⟩
 | .neg e,h,x,hx | .sqr e,h,x,hx | .sqrt e,h,x,hx=>by
  rcases List.mem_cons.1 hx with rfl | hx
  ·exact ⟨1,rfl⟩
  ·exact Ws e h x hx
 | .bin op a b,h,x,hx=>by
  rcases List.mem_cons.1 hx with rfl | hx
  ·exact ⟨2,Ex.arity (e:=.bin op a b) h⟩
  ·rcases List.mem_append.1 hx with hx | hx
   ·exact Ws a h.2.1 x hx
   ·exact Ws b h.2.2 x hx
theorem qfa {n:Int}{ss:List Ex}(h:∀ s ∈ ss,s.ok n):∀ x ∈ (ss.map Ex.code).flatten,∃ a,ar x.Op=some a:=λx hx=>by
 obtain ⟨c,hc,hx⟩:=List.mem_flatten.1 hx
 obtain ⟨s,hs,rfl⟩:=List.mem_map.1 hc
 exact Ws s (h s hs) x hx
theorem qcU {n:Int}{e:Ex}(h:e.ok n){ss:List Ex}(hs:∀ s ∈ ss,s.ok n)(hl:(e.code++(ss.map Ex.code).flatten).length<1000){k:Nat}(hk:2000<k):XF k (e.code++(ss.map Ex.code).flatten)=some (e.code.length:Int):=by
 rw [qfF hl (by omega) (λx hx=>(List.mem_append.1 hx).elim (Ws e h x) (qfa hs x))]
 have:=Wv e n h 0 (ss.map Ex.code).flatten
 rw [Nat.zero_add,run] at this
 rw [this]; simp
theorem qaF {n:Int}{l:List qt}(hl:l.length<1000){k0:Nat}(hk0:2000<k0){q:Nat}(t9:qt)(hq2:q<=2) :
  ∀ (ss:List Ex) (pre:List qt) (acc:List (List qt)) (j k:Nat),(∀ s ∈ ss,s.ok n)->l=pre++(ss.map Ex.code).flatten->j+ss.length=q->ss.length<k->acc.length+ss.length<1000->Xx.l14 k0 l t9 (q:Int) k acc (pre.length:Int) (j:Int)=some (acc++ss.map Ex.code)
 | [],pre,acc,j,k,_,_,hj,hk,_=>by
  obtain ⟨k,rfl⟩:∃ m,k=m+1:=⟨k-1,by omega⟩
  rw [Xx.l14,if_neg (by simp only [decide_eq_true_eq]; simp only [List.length_nil] at hj; omega)]
  simp
 | s :: ss,pre,acc,j,k,hok,hpre,hj,hk,hacc=>by
  obtain ⟨k,rfl⟩:∃ m,k=m+1:=⟨k-1,by omega⟩
  simp only [List.length_cons] at hj hk hacc
  have hpre':l=pre++(s.code++(ss.map Ex.code).flatten):=by rw [hpre]; simp
  have hlen:l.length=pre.length+(s.code++(ss.map Ex.code).flatten).length:=by rw [hpre',List.length_append]
  have hd:l.drop ((pre.length:Int)).toNat=s.code++(ss.map Ex.code).flatten:=by rw [Int.toNat_natCast,hpre',List.drop_left]
  have hle:s.code.length<=(s.code++(ss.map Ex.code).flatten).length:=by rw [List.length_append]; omega
  have hw:qc ((pre.length:Int)+(s.code.length:Int))=((pre.length+s.code.length:Nat):Int):=by rw [wk (by omega) (by omega)]; omega
  have hw2:qc ((j:Int)+1)=((j+1:Nat):Int):=by rw [wk (by omega) (by omega)]; omega
  rw [Xx.l14,if_pos (by simp only [decide_eq_true_eq]; omega),if_pos (by omega),hd,qcU (hok s (by simp)) (λz hz=>hok z (by simp [hz])) (by omega) hk0,Option.bind_some,hw,if_pos (by omega),if_pos (by omega),hw2]
  have htk:(l.take (((pre.length+s.code.length:Nat):Int)).toNat).drop ((pre.length:Int)).toNat=s.code:=by
   rw [Int.toNat_natCast,Int.toNat_natCast,hpre',<- List.append_assoc,show pre.length+s.code.length=(pre++s.code).length by rw [List.length_append],List.take_left,List.drop_left]
  rw [htk]
  have:=qaF hl hk0 t9 hq2 ss (pre++s.code) (acc++[s.code]) (j+1) k (λz hz=>hok z (by simp [hz])) (by rw [hpre]; simp) (by omega) (by omega) (by simp only [List.length_append,List.length_cons,List.length_nil]; omega)
  rw [List.length_append] at this
  rw [this]; simp
theorem qeX {n:Int}{e:Ex}(h:e.ok n)(hl:e.code.length<1000){k:Nat}(hk:2000<k):Xx k e.code=some (e.subs.map Ex.code):=by
 obtain ⟨x,r,hx,ho,hr⟩:=e.head
 have hp:=e.code_pos
 have hq:e.subs.length<=2:=by cases e <;> simp [Ex.subs]
 have:=qaF hl hk (n:=n) (q:=e.subs.length) x hq e.subs [x] [] 0 k (Ex.subs_ok h) (by rw [hx,hr]; rfl) (by omega) (by omega) (by simp only [List.length_nil]; omega)
 rw [show (([x]:List qt).length:Int)=1 from rfl,show ((0:Nat):Int)=0 from rfl] at this
 unfold Xx
 refine bT ?_ rfl
 rw [if_pos ⟨by omega,by omega⟩]
 refine bT (v:=x) (by rw [hx]; rfl) (bT (WA x.Op) ?_)
 rw [ho,Ex.arity h]
 exact this
end Go.Proofs.YtpmgpcklieincaaGreatDoor
set_option maxRecDepth 10000
set_option linter.unusedVariables false
set_option linter.unusedSimpArgs false
namespace Go.Proofs.YtpmgpcklieincaaGreatDoor
open Go Go.Sx
def At (ts:List Ex)(a:Int)(e:Ex):Prop:=0<=a∧ts[a.toNat]?=some e
theorem At.mono {ts:List Ex}{a:Int}{e:Ex}(us:List Ex)(h:At ts a e):At (ts++us) a e :=
 ⟨h.1,by
  have hlt:a.toNat<ts.length:=(List.getElem?_eq_some_iff.1 h.2).1
  rw [List.getElem?_append_left hlt]; exact h.2⟩
theorem At.fn {ts:List Ex}{a:Int}{e e':Ex}(h:At ts a e)(h':At ts a e'):e=e':=Option.some.inj (h.2.symm.trans h'.2)
theorem At.lt {ts:List Ex}{a:Int}{e:Ex}(h:At ts a e):a<(ts.length:Int):=by
 have hlt:a.toNat<ts.length:=(List.getElem?_eq_some_iff.1 h.2).1
 have:=h.1; omega
theorem At.inj {ts:List Ex}(hn:ts.Nodup){a b:Int}{e:Ex}(h:At ts a e)(h':At ts b e):a=b:=by
 have h1:=(List.getElem?_eq_some_iff.1 h.2).1
 have:=(List.getElem?_inj h1 hn).1 (h.2.trans h'.2.symm)
 have:=h.1; have:=h'.1; omega
inductive Ins (n:Int) (ts:List Ex):qh->Ex->Prop
 | num (c:qb) (h:Ok c):Ins n ts ⟨1,0,0,c⟩ (.num c)
 | var (k:Int) (h:0<=k∧k<n):Ins n ts ⟨2,k,0,Z0⟩ (.var k)
 | time:Ins n ts ⟨3,0,0,Z0⟩ .time
 | neg (a:Int) (e:Ex) (h:At ts a e):Ins n ts ⟨4,a,0,Z0⟩ (.neg e)
 | sqr (a:Int) (e:Ex) (h:At ts a e):Ins n ts ⟨5,a,0,Z0⟩ (.sqr e)
 | sqrt (a:Int) (e:Ex) (h:At ts a e):Ins n ts ⟨6,a,0,Z0⟩ (.sqrt e)
 | bin (op a b:Int) (u v:Ex) (ho:7<=op∧op<=10) (h:At ts a u) (h':At ts b v):Ins n ts ⟨op,a,b,Z0⟩ (.bin op u v)
theorem Ins.mono {n:Int}{ts:List Ex}{x:qh}{e:Ex}(us:List Ex)(h:Ins n ts x e):Ins n (ts++us) x e:=by
 cases h with
 | num c h=>exact .num c h
 | var k h=>exact .var k h
 | time=>exact .time
 | neg a e h=>exact .neg a e (h.mono us)
 | sqr a e h=>exact .sqr a e (h.mono us)
 | sqrt a e h=>exact .sqrt a e (h.mono us)
 | bin op a b u v ho h h'=>exact .bin op a b u v ho (h.mono us) (h'.mono us)
theorem Ins.inj {n:Int}{ts:List Ex}(hn:ts.Nodup){x y:qh}{e:Ex}(h:Ins n ts x e)(h':Ins n ts y e):x=y:=by
 cases h with
 | num c h=>cases h'; rfl
 | var k h=>cases h'; rfl
 | time=>cases h'; rfl
 | neg a e h=>cases h' with | neg b _ g=>rw [h.inj hn g]
 | sqr a e h=>cases h' with | sqr b _ g=>rw [h.inj hn g]
 | sqrt a e h=>cases h' with | sqrt b _ g=>rw [h.inj hn g]
 | bin op a b u v ho h1 h2=>cases h' with | bin _ a' b' _ _ _ g1 g2=>rw [h1.inj hn g1,h2.inj hn g2]
theorem Ins.fn {n:Int}{ts:List Ex}{x:qh}{e e':Ex}(h:Ins n ts x e)(h':Ins n ts x e'):e=e':=by
 cases h with
 | num c h=>cases h' with
  | num=>rfl
  | bin _ _ _ _ _ ho=>exact absurd ho.1 (by decide)
 | var k h=>cases h' with
  | var=>rfl
  | bin _ _ _ _ _ ho=>exact absurd ho.1 (by decide)
 | time=>cases h' with
  | time=>rfl
  | bin _ _ _ _ _ ho=>exact absurd ho.1 (by decide)
 | neg a e h=>cases h' with
  | neg _ _ g=>rw [h.fn g]
  | bin _ _ _ _ _ ho=>exact absurd ho.1 (by decide)
 | sqr a e h=>cases h' with
  | sqr _ _ g=>rw [h.fn g]
  | bin _ _ _ _ _ ho=>exact absurd ho.1 (by decide)
 | sqrt a e h=>cases h' with
  | sqrt _ _ g=>rw [h.fn g]
  | bin _ _ _ _ _ ho=>exact absurd ho.1 (by decide)
 | bin op a b u v ho h1 h2=>cases h' with
  | num=>exact absurd ho.1 (by decide)
  | var=>exact absurd ho.1 (by decide)
  | time=>exact absurd ho.1 (by decide)
  | neg=>exact absurd ho.1 (by decide)
  | sqr=>exact absurd ho.1 (by decide)
  | sqrt=>exact absurd ho.1 (by decide)
  | bin _ _ _ _ _ _ g1 g2=>rw [h1.fn g1,h2.fn g2]
inductive Tp (n:Int):List qh->List Ex->Prop
 | nil:Tp n [] []
 | snoc {l:List qh} {ts:List Ex} {x:qh} {e:Ex} (h:Tp n l ts) (i:Ins n ts x e):Tp n (l++[x]) (ts++[e])
theorem Tp.len {n:Int}{l:List qh}{ts:List Ex}(h:Tp n l ts):l.length=ts.length:=by
 induction h with
 | nil=>rfl
 | snoc h i ih=>simp [ih]
theorem Tp.get {n:Int}{l:List qh}{ts:List Ex}(h:Tp n l ts){i:Nat}{x:qh}(hx:l[i]?=some x):∃ e,ts[i]?=some e∧Ins n (ts.take i) x e:=by
 induction h with
 | nil=>simp at hx
 | @snoc l ts y e h g ih =>
  have hl:=h.len
  by_cases hi:i<l.length
  ·rw [List.getElem?_append_left hi] at hx
   obtain ⟨e',h1,h2⟩:=ih hx
   exact ⟨e',by rw [List.getElem?_append_left (by omega)]; exact h1,by rw [List.take_append_of_le_length (by omega)]; exact h2⟩
  ·have hi2:i=l.length:=by
    have:=(List.getElem?_eq_some_iff.1 hx).1
    simp only [List.length_append,List.length_cons,List.length_nil] at this; omega
   subst hi2
   rw [List.getElem?_append_right (Nat.le_refl _),Nat.sub_self] at hx
   obtain rfl:=Option.some.inj hx
   rw [hl]
   refine ⟨e,?_,?_⟩
   ·rw [List.getElem?_append_right (Nat.le_refl _),Nat.sub_self]; rfl
   ·rw [List.take_append_of_le_length (Nat.le_refl _),List.take_length]; exact g
theorem Tp.get' {n:Int}{l:List qh}{ts:List Ex}(h:Tp n l ts){i:Nat}{x:qh}(hx:l[i]?=some x):∃ e,ts[i]?=some e∧Ins n ts x e:=by
 obtain ⟨e,h1,h2⟩:=h.get hx
 refine ⟨e,h1,?_⟩
 have:=h2.mono (ts.drop i)
 rwa [List.take_append_drop] at this
theorem qfn:∀ (ts S:List Ex),ts.Nodup->(∀ e ∈ ts,e ∈ S)->ts.length<=S.length
 | [],S,_,_=>Nat.zero_le _
 | e :: ts,S,hn,hs=>by
  obtain ⟨p,q,rfl⟩:=List.append_of_mem (hs e (by simp))
  have hn':=List.nodup_cons.1 hn
  have:=qfn ts (p++q) hn'.2 (λx hx=>by
   have:=hs x (by simp [hx])
   simp only [List.mem_append,List.mem_cons] at this ⊢
   rcases this with h | rfl | h
   ·exact .inl h
   ·exact absurd hx hn'.1
   ·exact .inr h)
  simp only [List.length_append,List.length_cons] at this ⊢; omega
theorem qe4 {T:Type}[DecidableEq T](x:T):Jg ([]:List (T×Int)) x=none:=rfl
theorem qbB {T:Type}[DecidableEq T](x:T)(e:T×Int):∀ (l:List (T×Int)) (i:Nat),(J3 x i (l++[e])).map (·.2)=if ((J3 x i l).map (·.2)).isSome=true then (J3 x i l).map (·.2) else if x=e.1 then some e.2 else none
 | [],i=>by
  simp only [List.nil_append,J3]
  by_cases h:x=e.1
  ·rw [if_pos h,if_pos h]; rfl
  ·rw [if_neg h,if_neg h]; rfl
 | y :: l,i=>by
  simp only [List.cons_append,J3]
  by_cases h:x=y.1
  ·simp only [if_pos h]; rfl
  ·simp only [if_neg h]; exact qbB x e l (i+1)
theorem qfE {T:Type}[DecidableEq T](l:List (T×Int))(e:T×Int)(x:T):Jg (l++[e]) x=if (Jg l x).isSome=true then Jg l x else if x=e.1 then some e.2 else none:=qbB x e l 0
structure Bd (n:Int) (S:List Ex) (l:List qh) (m:List (qh×Int)) (ts:List Ex):Prop where
 tp:Tp n l ts
 nd:ts.Nodup
 sub:∀ e ∈ ts,e ∈ S
 map:∀ (x:qh) (j:Int),Jg m x=some j↔0<=j∧l[j.toNat]?=some x
theorem Bd.nil (n:Int)(S:List Ex):Bd n S [] [] []:=⟨.nil,List.nodup_nil,λe he=>(by cases he),λx j=>(by simp [qe4])⟩
theorem Bd.len {n:Int}{S:List Ex}{l:List qh}{m:List (qh×Int)}{ts:List Ex}(h:Bd n S l m ts):l.length<=S.length:=by
 rw [h.tp.len]; exact qfn ts S h.nd h.sub
theorem Bd.emit {n:Int}{S:List Ex}{l:List qh}{m:List (qh×Int)}{ts:List Ex}(h:Bd n S l m ts)(hS:S.length<1000000){x:qh}{e:Ex}(hx:Ins n ts x e)(he:e ∈ S) :
  ∃ j l' m' us,Xa l m x=some (j,l',m')∧Bd n S l' m' (ts++us)∧At (ts++us) j e:=by
 have hxx:(⟨x.Op,x.A,x.B,(⟨x.C.Lo,x.C.Hi⟩:qb)⟩:qh)=x:=rfl
 cases hg:Jg m x with
 | some j =>
  obtain ⟨h0,hj⟩:=(h.map x j).1 hg
  obtain ⟨e',h1,h2⟩:=h.tp.get' hj
  obtain rfl:=hx.fn h2
  refine ⟨j,l,m,[],?_,by rw [List.append_nil]; exact h,by rw [List.append_nil]; exact ⟨h0,h1⟩⟩
  unfold Xa
  rw [hxx,hg,Option.bind_some]; rfl
 | none =>
  have hl:l.length<1000000:=Nat.lt_of_le_of_lt h.len hS
  have hnl:∀ i:Nat,l[i]? ≠ some x:=λi hi=>by
   have:=(h.map x (i:Int)).2 ⟨by omega,by rw [Int.toNat_natCast]; exact hi⟩
   rw [hg] at this; cases this
  have hne:e ∉ ts:=λhm=>by
   obtain ⟨i,hi⟩:=List.mem_iff_getElem?.1 hm
   have hil:i<l.length:=by rw [h.tp.len]; exact (List.getElem?_eq_some_iff.1 hi).1
   obtain ⟨e',h1,h2⟩:=h.tp.get' (List.getElem?_eq_getElem hil)
   obtain rfl:e'=e:=Option.some.inj (h1.symm.trans hi)
   have:=h2.inj h.nd hx
   exact hnl i (by rw [List.getElem?_eq_getElem hil,this])
  refine ⟨(l.length:Int),l++[x],m++[(x,(l.length:Int))],[e],?_,⟨h.tp.snoc hx,?_,?_,?_⟩,by omega,?_⟩
  ·unfold Xa
   rw [hxx,hg,Option.bind_some,if_neg (by simp),if_pos hl]; rfl
  ·rw [List.nodup_append]
   refine ⟨h.nd,by simp,λa ha b hb=>?_⟩
   obtain rfl:=List.mem_singleton.1 hb
   exact λhab=>hne (hab ▸ ha)
  ·intro a ha
   rcases List.mem_append.1 ha with ha | ha
   ·exact h.sub a ha
   ·obtain rfl:=List.mem_singleton.1 ha
    exact he
  ·intro y j
   rw [qfE]
   by_cases hy:(Jg m y).isSome=true
   ·rw [if_pos hy]
    obtain ⟨i,hi⟩:=Option.isSome_iff_exists.1 hy
    obtain ⟨h0,h1⟩:=(h.map y i).1 hi
    have hlt:=(List.getElem?_eq_some_iff.1 h1).1
    rw [h.map y j]
    constructor
    ·rintro ⟨g0,g1⟩
     exact ⟨g0,by rw [List.getElem?_append_left (List.getElem?_eq_some_iff.1 g1).1]; exact g1⟩
    ·rintro ⟨g0,g1⟩
     refine ⟨g0,?_⟩
     by_cases hj:j.toNat<l.length
     ·rwa [List.getElem?_append_left hj] at g1
     ·exfalso
      have hj2:j.toNat=l.length:=by
       have:=(List.getElem?_eq_some_iff.1 g1).1
       simp only [List.length_append,List.length_cons,List.length_nil] at this; omega
      rw [hj2,List.getElem?_append_right (Nat.le_refl _),Nat.sub_self] at g1
      obtain rfl:=Option.some.inj g1
      exact hnl _ h1
   ·rw [if_neg hy]
    have hyn:Jg m y=none:=by simpa using hy
    have hny:∀ i:Nat,l[i]? ≠ some y:=λi hi=>by
     have:=(h.map y (i:Int)).2 ⟨by omega,by rw [Int.toNat_natCast]; exact hi⟩
     rw [hyn] at this; cases this
    by_cases hyx:y=x
    ·subst hyx
     rw [if_pos rfl]
     constructor
     ·intro hj
      obtain rfl:=Option.some.inj hj
      exact ⟨by omega,by rw [Int.toNat_natCast,List.getElem?_append_right (Nat.le_refl _),Nat.sub_self]; rfl⟩
     ·rintro ⟨g0,g1⟩
      by_cases hj:j.toNat<l.length
      ·rw [List.getElem?_append_left hj] at g1
       exact absurd g1 (hny _)
      ·have:=(List.getElem?_eq_some_iff.1 g1).1
       simp only [List.length_append,List.length_cons,List.length_nil] at this
       congr 1; show (l.length:Int)=j; omega
    ·rw [if_neg hyx]
     refine ⟨λhc=>(by cases hc),?_⟩
     rintro ⟨g0,g1⟩
     exfalso
     by_cases hj:j.toNat<l.length
     ·rw [List.getElem?_append_left hj] at g1
      exact hny _ g1
     ·have hj2:j.toNat=l.length:=by
       have:=(List.getElem?_eq_some_iff.1 g1).1
       simp only [List.length_append,List.length_cons,List.length_nil] at this; omega
      rw [hj2,List.getElem?_append_right (Nat.le_refl _),Nat.sub_self] at g1
      exact hyx (Option.some.inj g1).symm
  ·rw [Int.toNat_natCast,h.tp.len,List.getElem?_append_right (Nat.le_refl _),Nat.sub_self]; rfl
end Go.Proofs.YtpmgpcklieincaaGreatDoor
set_option maxRecDepth 10000
set_option linter.unusedVariables false
set_option linter.unusedSimpArgs false
namespace Go.Proofs.YtpmgpcklieincaaGreatDoor
open Go Go.Sx
def Cl (S:List Ex):Prop:=∀ e ∈ S,∀ s ∈ e.subs,s ∈ S
theorem qfm {k0:Nat}{rec}{a0:List qt}{l0:List qh}{m0:List (qh×Int)}{t4 t7:qt}{j9:Int}{k:Nat}(hk:0<k)(l:List qh)(x20 x21:Int)(m:List (qh×Int)) :
  qw.l24 k0 rec a0 l0 m0 t4 t7 j9 [] k l x20 x21 m 0=some (l,x20,x21,m):=by
 obtain ⟨k,rfl⟩:∃ q,k=q+1:=⟨k-1,by omega⟩
 rw [qw.l24,if_neg (by decide)]
theorem qgf {k0:Nat}{rec}{a0:List qt}{l0:List qh}{m0:List (qh×Int)}{t4 t7:qt}{j9:Int}{k:Nat}(hk:1<k)(c:List qt)(l:List qh)(x20 x21:Int)(m:List (qh×Int)){j:Int}{l':List qh}{m':List (qh×Int)}(h:rec c l m=some (j,l',m')) :
  qw.l24 k0 rec a0 l0 m0 t4 t7 j9 [c] k l x20 x21 m 0=some (l',j,x21,m'):=by
 obtain ⟨k,rfl⟩:∃ q,k=q+2:=⟨k-2,by omega⟩
 rw [qw.l24,if_pos (by rfl),if_pos (by show (0:Int)<=0∧(0:Int)<1; decide)]
 show ((rec c l m).bind _).bind _=_
 rw [h]
 show qw.l24 k0 rec a0 l0 m0 t4 t7 j9 [c] (k+1) l' j x21 m' (qc (0+1))=_
 rw [qw.l24,if_neg (by show ¬ decide (qc (0+1)<(1:Int))=true; decide)]
theorem qgN {k0:Nat}{rec}{a0:List qt}{l0:List qh}{m0:List (qh×Int)}{t4 t7:qt}{j9:Int}{k:Nat}(hk:2<k)(c d:List qt)(l:List qh)(x20 x21:Int)(m:List (qh×Int)){j i:Int}{l' l'':List qh}{m' m'':List (qh×Int)}(h:rec c l m=some (j,l',m'))(h':rec d l' m'=some (i,l'',m'')) :
  qw.l24 k0 rec a0 l0 m0 t4 t7 j9 [c,d] k l x20 x21 m 0=some (l'',j,i,m''):=by
 obtain ⟨k,rfl⟩:∃ q,k=q+3:=⟨k-3,by omega⟩
 rw [qw.l24,if_pos (by rfl),if_pos (by show (0:Int)<=0∧(0:Int)<2; decide)]
 show ((rec c l m).bind _).bind _=_
 rw [h]
 show qw.l24 k0 rec a0 l0 m0 t4 t7 j9 [c,d] (k+2) l' j x21 m' (qc (0+1))=_
 rw [qw.l24,if_pos (by rfl),if_pos (by show 0<=qc (0+1)∧qc (0+1)<(2:Int); decide)]
 show ((rec d l' m').bind _).bind _=_
 rw [h']
 show qw.l24 k0 rec a0 l0 m0 t4 t7 j9 [c,d] (k+1) l'' j i m'' (qc (qc (0+1)+1))=_
 rw [qw.l24,if_neg (by show ¬ decide (qc (qc (0+1)+1)<(2:Int))=true; decide)]
theorem qca {k0:Nat}{rec}{e:Ex}{n:Int}(h:e.ok n)(hl:e.code.length<1000)(hk:2000<k0){x:qt}{r:List qt}(hx:e.code=x :: r){l:List qh}{m:List (qh×Int)}{l':List qh}{a b:Int}{m':List (qh×Int)}
  (hL:qw.l24 k0 rec e.code l m x x (if x.Op==2 then x.N else 0) (e.subs.map Ex.code) k0 l (if x.Op==2 then x.N else 0) 0 m 0=some (l',a,b,m')) :
  qw.body k0 rec e.code l m=Xa l' m' ⟨x.Op,a,b,x.C⟩:=by
 have hp:0<=(0:Int)∧(0:Int)<(e.code.length:Int):=⟨by omega,by have:=e.code_pos; omega⟩
 have hg:e.code[(0:Int).toNat]?=some x:=by rw [hx]; rfl
 unfold qw.body
 refine iT hp (bT hg (iT hp (bT hg ?_)))
 refine bT (v:=if x.Op==2 then x.N else 0) ?_ ?_
 ·by_cases h2:(x.Op==2)=true
  ·rw [if_pos h2,if_pos h2,if_pos hp,hg,Option.bind_some]
  ·rw [if_neg h2,if_neg h2]
 ·refine bT (v:=(l',a,b,m')) (bT (qeX h hl hk) hL) ?_
  show (Xa l' m' ⟨x.Op,a,b,x.C⟩).bind _=_
  cases Xa l' m' ⟨x.Op,a,b,x.C⟩ <;> rfl
abbrev qcX (ts:List Ex):List Int->List Ex->Prop:=qaj (At ts)
theorem qaj.app {α β:Type}{R:α->β->Prop}{l:List α}{m:List β}{a:α}{b:β}(h:qaj R l m)(hr:R a b):qaj R (l++[a]) (m++[b]):=by
 induction h with
 | nil=>exact .cons hr .nil
 | cons g t ih=>exact .cons g ih
theorem qaj.imp {α β:Type}{R Q:α->β->Prop}(hq:∀ a b,R a b->Q a b){l:List α}{m:List β}(h:qaj R l m):qaj Q l m:=by
 induction h with
 | nil=>exact .nil
 | cons g t ih=>exact .cons (hq _ _ g) ih
theorem qaj.len {α β:Type}{R:α->β->Prop}{l:List α}{m:List β}(h:qaj R l m):l.length=m.length:=by
 induction h with
 | nil=>rfl
 | cons g t ih=>simp [ih]
theorem qcX.mono {ts us:List Ex}{o:List Int}{es:List Ex}(h:qcX ts o es):qcX (ts++us) o es:=h.imp λ_ _ g=>g.mono us
end Go.Proofs.YtpmgpcklieincaaGreatDoor
set_option maxRecDepth 10000
set_option linter.unusedVariables false
set_option linter.unusedSimpArgs false
namespace Go.Proofs.YtpmgpcklieincaaGreatDoor
open Go Go.Sx
def Ev {α:Type}(f:Nat->Nat->Option α)(P:α->Prop):Prop:=∃ r,P r ∧ ∃ K,∀ k j,K<=k->K<=j->f k j=some r
section
variable {α β:Type} {P:β->Prop} {Q:α->Prop}
theorem Ev.S {r:β}(h:P r):Ev (λ_ _=>some r) P:=⟨r,h,0,λ_ _ _ _=>rfl⟩
theorem Ev.B {f:Nat->Nat->Option α}{g:Nat->Nat->α->Option β}(hf:Ev f Q)(hg:∀ r,Q r->Ev (λk j=>g k j r) P):Ev (λk j=>(f k j).bind (g k j)) P:=by
 obtain ⟨r,h1,K,h2⟩:=hf
 obtain ⟨s,h3,M,h4⟩:=hg r h1
 refine ⟨s,h3,max K M,λk j hk hj=>?_⟩
 dsimp only
 rw [h2 k j (by omega) (by omega),Option.bind_some]
 exact h4 k j (by omega) (by omega)
theorem Ev.V {v:α}{g:Nat->Nat->α->Option β}(hg:Ev (λk j=>g k j v) P):Ev (λk j=>(some v).bind (g k j)) P:=hg
theorem Ev.X {x:Option α}{v:α}{g:Nat->Nat->α->Option β}(hx:x=some v)(hg:Ev (λk j=>g k j v) P):Ev (λk j=>x.bind (g k j)) P:=by
 subst hx; exact hg
theorem Ev.O {x:Option α}(hx:∃ r,x=some r∧Q r){g:Nat->Nat->α->Option β}(hg:∀ r,Q r->Ev (λk j=>g k j r) P):Ev (λk j=>x.bind (g k j)) P:=by
 obtain ⟨r,rfl,h⟩:=hx
 exact hg r h
theorem Ev.T {c:Prop}{inst:Decidable c}{f g:Nat->Nat->Option β}(hc:c)(h:Ev f P):Ev (λk j=>@ite _ c inst (f k j) (g k j)) P:=by
 simp only [if_pos hc]; exact h
theorem Ev.F {c:Prop}{inst:Decidable c}{f g:Nat->Nat->Option β}(hc:¬ c)(h:Ev g P):Ev (λk j=>@ite _ c inst (f k j) (g k j)) P:=by
 simp only [if_neg hc]; exact h
theorem Ev.C {c:Prop}{inst:Decidable c}{f g:Nat->Nat->Option β}(hf:c->Ev f P)(hg:¬ c->Ev g P):Ev (λk j=>@ite _ c inst (f k j) (g k j)) P:=by
 by_cases hc:c
 ·exact .T hc (hf hc)
 ·exact .F hc (hg hc)
theorem Ev.D {f:Nat->Nat->Option β}(h:Ev f P):Ev (λk _=>f k k) P:=by
 obtain ⟨r,h1,K,h2⟩:=h
 exact ⟨r,h1,K,λk j hk _=>h2 k k hk hk⟩
theorem Ev.N {f g:Nat->Nat->Option β}(hs:∀ k j,f k (j+1)=g k j)(h:Ev g P):Ev f P:=by
 obtain ⟨r,h1,K,h2⟩:=h
 refine ⟨r,h1,K+1,λk j hk hj=>?_⟩
 obtain ⟨j,rfl⟩:∃ i,j=i+1:=⟨j-1,by omega⟩
 rw [hs]; exact h2 k j (by omega) (by omega)
theorem Ev.I {R:β->Prop}{f:Nat->Nat->Option β}(h:Ev f P)(hi:∀ r,P r->R r):Ev f R:=by
 obtain ⟨r,h1,h2⟩:=h
 exact ⟨r,hi r h1,h2⟩
theorem Ev.L {f:Nat->Nat->Option β}{r:β}(K:Nat)(h:P r)(he:∀ k j,K<=k->f k j=some r):Ev f P:=⟨r,h,K,λk j hk _=>he k j hk⟩
end
theorem qci {α:Type}{l:List α}{i:Int}(h:0<=i∧i<(l.length:Int)):∃ r,l[i.toNat]?=some r∧r ∈ l:=by
 have hlt:i.toNat<l.length:=by omega
 exact ⟨l[i.toNat],List.getElem?_eq_getElem hlt,List.getElem_mem hlt⟩
theorem W9:Ok ⟨0,0⟩:=.inr (by unfold Y2; simp)
theorem wi {i n:Nat}(h:i<n)(hn:n<1000000):qc ((i:Int)+1)=((i+1:Nat):Int):=qeW (by omega)
theorem dT {p:Prop}{inst:Decidable p}(h:p):@decide p inst=true:=decide_eq_true h
theorem dF {p:Prop}{inst:Decidable p}(h:¬ p):¬ @decide p inst=true:=by simpa using h
theorem Ev.loop {σ τ:Type}{P:τ->Prop}(L:Nat->Nat->σ->Int->Option τ)(n:Nat)(I:Nat->σ->Prop)
  (hs:∀ i,i<n -> ∀ s,I i s->(∀ s',I (i+1) s'->Ev (λk j=>L k j s' ((i+1:Nat):Int)) P)->Ev (λk j=>L k j s (i:Int)) P)
  (he:∀ s,I n s->Ev (λk j=>L k j s (n:Int)) P) {s:σ} (h:I 0 s):Ev (λk j=>L k j s 0) P:=by
 have key:∀ (r i:Nat),i+r=n -> ∀ s,I i s->Ev (λk j=>L k j s (i:Int)) P:=by
  intro r
  induction r with
  | zero =>
   intro i hi s hI
   obtain rfl:i=n:=by omega
   exact he s hI
  | succ r ih=>intro i hi s hI; exact hs i (by omega) s hI λs' h'=>ih (i+1) (by omega) s' h'
 exact key n 0 (by omega) s h
theorem Ev.from {σ τ:Type}{P:τ->Prop}(L:Nat->Nat->σ->Int->Option τ)(n:Nat)(I:Nat->σ->Prop)
  (hs:∀ i,i<n -> ∀ s,I i s->(∀ s',I (i+1) s'->Ev (λk j=>L k j s' ((i+1:Nat):Int)) P)->Ev (λk j=>L k j s (i:Int)) P)
  (he:∀ s,I n s->Ev (λk j=>L k j s (n:Int)) P) {s:σ} {m:Nat} (hm:m<=n) (h:I m s):Ev (λk j=>L k j s (m:Int)) P:=by
 have key:∀ (r i:Nat),i+r=n -> ∀ s,I i s->Ev (λk j=>L k j s (i:Int)) P:=by
  intro r
  induction r with
  | zero =>
   intro i hi s hI
   obtain rfl:i=n:=by omega
   exact he s hI
  | succ r ih=>intro i hi s hI; exact hs i (by omega) s hI λs' h'=>ih (i+1) (by omega) s' h'
 exact key (n-m) m (by omega) s h
end Go.Proofs.YtpmgpcklieincaaGreatDoor
set_option maxRecDepth 10000
set_option linter.unusedVariables false
set_option linter.unusedSimpArgs false
namespace Go.Proofs.YtpmgpcklieincaaGreatDoor
open Go Go.Sx
def rr (x:Int):Rat:=(x:Rat)/65536
theorem YK (x:Int):rr x*65536=(x:Rat):=by unfold rr; grind
theorem Xg {x y:Int}(h:x<=y):(x:Rat)<=(y:Rat):=Rat.intCast_le_intCast.2 h
theorem Jy {x y:Int}(h:x<=y):rr x<=rr y:=by
 have:=Xg h; have:=YK x; have:=YK y; grind
theorem VL (x y:Int):rr (x+y)=rr x+rr y:=by unfold rr; grind
theorem qfe (x y:Int):rr (x-y)=rr x-rr y:=by unfold rr; grind
theorem Vt (x:Int):rr (-x) = -rr x:=by unfold rr; grind
theorem J6:rr 0=0:=by unfold rr; grind
theorem qf2:rr 65536=1:=by unfold rr; grind
def NI {ι:Type}(F:Vd ι)(f:ι->Rat)(A:qb):Prop:=A=Zd∨Yy F f (rr A.Lo) (rr A.Hi)
section
variable {ι:Type} {F:Vd ι} {f g q:ι->Rat} {A B C:qb}
theorem NI.ent:NI F f Zd:=.inl rfl
theorem Y2.nent (h:Y2 A):A≠Zd:=λe=>by have:=h.ne; rw [e] at this; simp at this
theorem NI.fin (h:NI F f A)(hA:Y2 A):Yy F f (rr A.Lo) (rr A.Hi):=h.elim (λe=>absurd e hA.nent) id
theorem NI.nw {x y:Int}(h:Yy F f (rr x) (rr y)):NI F f (nw x y):=by
 unfold Go.Proofs.YtpmgpcklieincaaGreatDoor.nw
 split
 ·exact .inl rfl
 ·exact .inr h
theorem NI.congr (h:NI F f A)(he:F.ev λi=>g i=f i):NI F g A:=h.imp id λh=>h.congr he
theorem NI.eq (h:NI F f A)(he:∀ i,g i=f i):NI F g A:=h.congr (F.all he)
theorem Jz (h:Y2 A):rr A.Lo<=rr A.Hi:=Jy h.le
theorem qg3 (ha:Ok A):∃ r,XN A=some r∧Ok r ∧ ∀ {ι:Type} (F:Vd ι) (f:ι->Rat),NI F f A->NI F (λi=>-f i) r :=
 ⟨ngv A,qhk ha,qhu ha,λF f h=>by
  rcases h with rfl | h
  ·exact .inl rfl
  ·refine .inr ?_
   have:=h.neg
   rwa [<- Vt,<- Vt] at this⟩
theorem qbA (ha:Ok A)(hb:Ok B):∃ r,QM A B=some r∧Ok r ∧ ∀ {ι:Type} (F:Vd ι) (f g:ι->Rat),NI F f A->NI F g B->NI F (λi=>f i+g i) r:=by
 rcases ha with rfl | ha
 ·exact ⟨Zd,qaS _,.inl rfl,λ_ _ _ _ _=>.ent⟩
 rcases hb with rfl | hb
 ·exact ⟨Zd,qaI _,.inl rfl,λ_ _ _ _ _=>.ent⟩
 refine ⟨_,qeb ha hb,V3 (by have:=ha.le; have:=hb.le; omega),λF f g hf hg=>.nw ?_⟩
 rw [VL,VL]
 exact (hf.fin ha).add (hg.fin hb)
theorem qec (ha:Ok A)(hb:Ok B):∃ r,Xh A B=some r∧Ok r ∧ ∀ {ι:Type} (F:Vd ι) (f g:ι->Rat),NI F f A->NI F g B->NI F (λi=>f i-g i) r:=by
 rcases ha with rfl | ha
 ·exact ⟨Zd,qf8 hb,.inl rfl,λ_ _ _ _ _=>.ent⟩
 rcases hb with rfl | hb
 ·exact ⟨Zd,qe8 _,.inl rfl,λ_ _ _ _ _=>.ent⟩
 refine ⟨_,qgs ha hb,V3 (by have:=ha.le; have:=hb.le; omega),λF f g hf hg=>.nw ?_⟩
 rw [qfe,qfe]
 exact (hf.fin ha).sub (hg.fin hb)
theorem qcI {l:Int}{x:Rat}(h:(l:Rat)<=x*65536*65536):rr (l/65536)<=x:=by
 have h1:=Xg (qir l)
 rw [Rat.intCast_mul] at h1
 have:=YK (l/65536)
 grind
theorem qdI {l:Int}{x:Rat}(h:x*65536*65536<=(l:Rat)):x<=rr (Y5 l 65536):=by
 have h1:=Xg (qip l)
 rw [Rat.intCast_mul] at h1
 have:=YK (Y5 l 65536)
 grind
theorem qhi {l h:Int}(H:qgi A B l h){u v:Rat}(h1:rr A.Lo<=u)(h2:u<=rr A.Hi)(h3:rr B.Lo<=v)(h4:v<=rr B.Hi):rr (l/65536)<=u*v∧u*v<=rr (Y5 h 65536):=by
 have L:=H.lo; have U:=H.hi
 have m:=qh5 (a:=(A.Lo:Rat)) (b:=(A.Hi:Rat)) (c:=(B.Lo:Rat)) (d:=(B.Hi:Rat)) (L:=(l:Rat)) (H:=(h:Rat)) (u:=u*65536) (v:=v*65536)
  (by simp only [<- Rat.intCast_mul]; exact ⟨Xg L.1,Xg L.2.1,Xg L.2.2.1,Xg L.2.2.2⟩) (by simp only [<- Rat.intCast_mul]; exact ⟨Xg U.1,Xg U.2.1,Xg U.2.2.1,Xg U.2.2.2⟩)
  (by rw [<- YK]; exact Zu h1 (by decide)) (by rw [<- YK]; exact Zu h2 (by decide)) (by rw [<- YK]; exact Zu h3 (by decide)) (by rw [<- YK]; exact Zu h4 (by decide))
 exact ⟨qcI (by grind),qdI (by grind)⟩
theorem qcF (ha:Ok A)(hb:Ok B):∃ r,Q5 A B=some r∧Ok r ∧ ∀ {ι:Type} (F:Vd ι) (f g:ι->Rat),NI F f A->NI F g B->NI F (λi=>f i*g i) r:=by
 rcases ha with rfl | ha
 ·exact ⟨Zd,qeV _,.inl rfl,λ_ _ _ _ _=>.ent⟩
 rcases hb with rfl | hb
 ·exact ⟨Zd,qcE _,.inl rfl,λ_ _ _ _ _=>.ent⟩
 obtain ⟨l,h,hm,H⟩:=qgm ha hb
 exact ⟨_,hm,V3 (fc (by omega) H.le),λF f g hf hg=>.nw (.mul (Jz ha) (Jz hb) (hf.fin ha) (hg.fin hb) λu v=>qhi H)⟩
theorem qhX (ha:Ok A):∃ r,Xz A=some r∧Ok r ∧ ∀ {ι:Type} (F:Vd ι) (f:ι->Rat),NI F f A->NI F (λi=>f i*f i) r:=by
 rcases ha with rfl | ha
 ·exact ⟨Zd,qhF,.inl rfl,λ_ _ _=>.ent⟩
 refine ⟨_,qhM ha,V3 (fc (by omega) (qhl ha)),λF f hf=>.nw ?_⟩
 -- each square of an element lies between the squares of the ends
 have key:∀ u:Rat,rr A.Lo<=u->u<=rr A.Hi->rr (sqm A*sqm A/65536)<=u*u∧u*u<=rr (Y5 (mag A*mag A) 65536):=by
  intro u h1 h2
  have e1:=YK A.Lo; have e2:=YK A.Hi
  have s1:0<=sqm A∧((sqm A:Rat)<=u*65536∨(sqm A:Rat) <= -(u*65536)):=by
   have m1:=mxl A.Lo (-A.Hi); have m2:=mxl (mx A.Lo (-A.Hi)) 0
   unfold sqm
   refine ⟨m2.2.1,?_⟩
   rcases m2.2.2 with e | e <;> rw [e]
   ·rcases m1.2.2 with e | e <;> rw [e]
    ·left; grind
    ·right; rw [Rat.intCast_neg]; grind
   ·rcases Rat.le_total (a:=0) (b:=u) with h | h
    ·left; grind
    ·right; grind
  have s2:-(mag A:Rat)<=u*65536∧u*65536<=(mag A:Rat):=by
   have m1:=mxl A.Hi (-A.Lo)
   unfold mag
   have c1:=Xg m1.1; have c2:=Xg m1.2.1
   rw [Rat.intCast_neg] at c2
   constructor <;> grind
  have s0:=Xg s1.1
  constructor
  ·refine qcI ?_
   rw [Rat.intCast_mul]
   rcases s1.2 with h | h
   ·have a1:=Zu h (z:=(sqm A:Rat)) (by grind)
    have a2:=Zu h (z:=u*65536) (by grind)
    grind
   ·have a1:=Zu h (z:=(sqm A:Rat)) (by grind)
    have a2:=Zu h (z:=-(u*65536)) (by grind)
    grind
  ·refine qdI ?_
   rw [Rat.intCast_mul]
   have:=(qfl s2.1 s2.2 s2.1 s2.2).2
   grind
 intro e he
 obtain ⟨M,hM,k1,k2,_,_⟩:=qb1 (rr A.Lo) (rr A.Hi) 0 0
 obtain ⟨p1,p2⟩:=ZW (x:=e) (y:=2*M+1) he (by grind)
 obtain ⟨t,t0,t1,t2⟩:=qc4 (x:=1) (y:=e/(2*M+1)) (by decide) p1
 refine F.mono (hf.fin ha t t0) λi h1=>?_
 obtain ⟨u,u1,u2,u3,u4⟩:=qc9 (Jz ha) (by grind) h1.1 h1.2
 have i1:=key u u1 u2
 have j1:=qfl (x:=f i-u) (y:=f i+u) (A:=t) (B:=2*M+1) u3 u4 (by grind) (by grind)
 have j3:=Zu t2 (z:=2*M+1) (by grind)
 constructor <;> grind
end
end Go.Proofs.YtpmgpcklieincaaGreatDoor
set_option maxRecDepth 10000
set_option linter.unusedVariables false
set_option linter.unusedSimpArgs false
namespace Go.Proofs.YtpmgpcklieincaaGreatDoor
open Go Go.Sx
section
variable {A B:qb}
theorem qbc {a b c:Rat}(hc:0<c)(h:a*c<=b*c):a<=b:=by
 by_cases e:a<=b
 ·exact e
 ·have:=Rat.mul_pos (a:=a-b) (b:=c) (by grind) hc
  grind
theorem qd0 {x y u v:Int}(D:qcj A B x y u v)(hb:0<B.Lo){p w:Rat}(h1:rr A.Lo<=p)(h2:p<=rr A.Hi)(h3:rr B.Lo<=w)(h4:w<=rr B.Hi):rr (x*65536/y)<=p/w∧p/w<=rr (Y5 (u*65536) v):=by
 have e1:=YK A.Lo; have e2:=YK A.Hi; have e3:=YK B.Lo; have e4:=YK B.Hi
 have hb':(0:Rat)<(B.Lo:Rat):=Rat.intCast_lt_intCast.2 hb
 have hw:0<w:=by grind
 have hy:(0:Rat)<(y:Rat):=Rat.intCast_lt_intCast.2 D.ypos
 have hv:(0:Rat)<(v:Rat):=Rat.intCast_lt_intCast.2 D.vpos
 have q:p/w*w=p:=by grind
 have l1:=Xg D.lo.1; have l2:=Xg D.lo.2.1; have r1:=Xg D.hi.2.2.1; have r2:=Xg D.hi.2.2.2
 simp only [Rat.intCast_mul] at l1 l2 r1 r2
 have f1:=Xg ((J2 D.ypos).1 (Int.le_refl (x*65536/y)))
 have f2:=Xg ((JE D.vpos).1 (Int.le_refl (Y5 (u*65536) v)))
 simp only [Rat.intCast_mul] at f1 f2
 have g1:=YK (x*65536/y); have g2:=YK (Y5 (u*65536) v)
 generalize x*65536/y=X at f1 g1
 generalize Y5 (u*65536) v=U at f2 g2
 rw [<- g1] at f1
 rw [<- g2] at f2
 have lo:(x:Rat)*(w*65536)<=p*65536*(y:Rat):=by
  have m1:=Zu (show (A.Lo:Rat)<=p*65536 by grind) (Rat.le_of_lt hy)
  rcases Rat.le_total (a:=0) (b:=(x:Rat)) with h | h
  ·have:=Zu (show w*65536<=(B.Hi:Rat) by grind) h; grind
  ·have:=Zu (show (B.Lo:Rat)<=w*65536 by grind) (z:=-(x:Rat)) (by grind); grind
 have hi:p*65536*(v:Rat)<=(u:Rat)*(w*65536):=by
  have m1:=Zu (show p*65536<=(A.Hi:Rat) by grind) (Rat.le_of_lt hv)
  rcases Rat.le_total (a:=0) (b:=(u:Rat)) with h | h
  ·have:=Zu (show (B.Lo:Rat)<=w*65536 by grind) h; grind
  ·have:=Zu (show w*65536<=(B.Hi:Rat) by grind) (z:=-(u:Rat)) (by grind); grind
 constructor
 ·refine qbc (Rat.mul_pos hw hy) ?_
  have:=Zu f1 (Rat.le_of_lt hw)
  have e:p/w*(w*(y:Rat))=p*(y:Rat):=by rw [<- Rat.mul_assoc,q]
  rw [e]; grind
 ·refine qbc (Rat.mul_pos hw hv) ?_
  have:=Zu f2 (Rat.le_of_lt hw)
  have e:p/w*(w*(v:Rat))=p*(v:Rat):=by rw [<- Rat.mul_assoc,q]
  rw [e]; grind
theorem Yy.ne {ι:Type}{F:Vd ι}{g:ι->Rat}{c d:Rat}(k:Yy F g c d)(h:0<c∨d<0):F.ev λi=>g i≠0:=by
 rcases h with h | h
 ·exact F.mono (k (c/2) (by grind)) λi hi=>by grind
 ·exact F.mono (k (-d/2) (by grind)) λi hi=>by grind
theorem W5 {x:Int}(h:0<x):0<rr x:=by
 have:(0:Rat)<(x:Rat):=Rat.intCast_lt_intCast.2 h
 have:=YK x; grind
theorem qdQ (ha:Ok A)(hb:Ok B):∃ r,QW A B=some r∧Ok r∧(∀ {ι:Type} (F:Vd ι) (f g:ι->Rat),NI F f A->NI F g B->NI F (λi=>f i/g i) r)∧(r=Zd ∨ ∀ {ι:Type} (F:Vd ι) (g:ι->Rat),NI F g B->F.ev λi=>g i≠0):=by
 rcases ha with rfl | ha
 ·exact ⟨Zd,qfP _,.inl rfl,λ_ _ _ _ _=>.ent,.inl rfl⟩
 rcases hb with rfl | hb
 ·exact ⟨Zd,qfR _,.inl rfl,λ_ _ _ _ _=>.ent,.inl rfl⟩
 rcases Int.lt_or_le 0 B.Lo with h0 | h0
 ·obtain ⟨x,y,u,v,hd,D⟩:=qeH ha hb h0
  exact ⟨_,hd,V3 (D.fits h0),λF f g hf hg=>.nw (.div (Jz ha) (.inl (W5 h0)) (Jz hb) (hf.fin ha) (hg.fin hb) λp w=>qd0 D h0),.inr λF g hg=>(hg.fin hb).ne (.inl (W5 h0))⟩
 rcases Int.lt_or_le B.Hi 0 with h1 | h1
 ·obtain ⟨x,y,u,v,hd,D⟩:=qey ha hb h1
  have hn:0<(ngv B).Lo:=by unfold ngv; simp only; omega
  have e:∀ x y:Rat,-x / -y=x/y:=λx y=>by
   by_cases hy:y=0
   ·subst hy; simp [Rat.div_def]
   ·grind
  have hneg:rr B.Hi<0:=by have:=W5 (x:=-B.Hi) (by omega); rw [Vt] at this; grind
  refine ⟨_,hd,V3 (D.fits hn),λF f g hf hg=>.nw (.div (Jz ha) (.inr hneg) (Jz hb) (hf.fin ha) (hg.fin hb) λp w h1 h2 h3 h4=>?_),.inr λF g hg=>(hg.fin hb).ne (.inr hneg)⟩
  have:=qd0 D hn (p:=-p) (w:=-w) (by show rr (-A.Hi)<=_; rw [Vt]; grind) (by show _<=rr (-A.Lo); rw [Vt]; grind) (by show rr (-B.Hi)<=_; rw [Vt]; grind) (by show _<=rr (-B.Lo); rw [Vt]; grind)
  rwa [e] at this
 ·exact ⟨Zd,qfq ha hb ⟨h0,h1⟩,.inl rfl,λ_ _ _ _ _=>.ent,.inl rfl⟩
theorem qby {x p d:Int}(hx:W8 x)(hp:1<=p∧p<=2)(hd:1<=d∧d<=10):Yq x p d=some (x*p/d,Y5 (x*p) d,0):=by
 unfold W8 at hx
 have h1:x*p<=4294967296 ∧ -4294967296<=x*p:=by
  have:p=1∨p=2:=by omega
  rcases this with rfl | rfl <;> omega
 unfold Yq
 rw [if_neg (by simp; omega),Zy (by omega) (by omega),V8 (by omega) (by omega) (by omega) (by omega)]
 rfl
theorem qdX {a:qb}(ha:Ok a){p d:Int}(hp:1<=p∧p<=2)(hd:1<=d∧d<=10):∃ r,XO a p d=some r∧Ok r ∧ ∀ {ι:Type} (F:Vd ι) (f:ι->Rat),NI F f a->NI F (λi=>f i*(p:Rat)/(d:Rat)) r:=by
 unfold XO
 rcases ha with rfl | fa
 ·rw [ZO,Option.bind_some,if_pos rfl]
  exact ⟨_,rfl,.inl rfl,λ_ _ _=>.ent⟩
 ·have hf:decide (p<0)=false:=decide_eq_false (by omega)
  rw [YJ fa,Option.bind_some,if_neg (by decide),hf]
  have e1:Xy false a.Hi a.Lo=some a.Lo:=rfl
  have e2:Xy false a.Lo a.Hi=some a.Hi:=rfl
  rw [e1,Option.bind_some,qby fa.wlo hp hd,Option.bind_some,e2,Option.bind_some,qby fa.whi hp hd,Option.bind_some]
  dsimp only
  rw [JI,Option.bind_some]
  refine ⟨_,rfl,V3 (fc (by omega) (Int.mul_le_mul_of_nonneg_right fa.le (by omega))),λF f h=>.nw λe he=>?_⟩
  have hd0:0<d:=by omega
  have hp':(1:Rat)<=(p:Rat)∧(p:Rat)<=2:=⟨Xg hp.1,Xg hp.2⟩
  have hd':(1:Rat)<=(d:Rat):=Xg hd.1
  have f1:=Xg ((J2 hd0).1 (Int.le_refl (a.Lo*p/d)))
  have f2:=Xg ((JE hd0).1 (Int.le_refl (Y5 (a.Hi*p) d)))
  simp only [Rat.intCast_mul] at f1 f2
  have g1:=YK (a.Lo*p/d); have g2:=YK (Y5 (a.Hi*p) d); have g3:=YK a.Lo; have g4:=YK a.Hi
  generalize a.Lo*p/d=X at f1 g1
  generalize Y5 (a.Hi*p) d=U at f2 g2
  rw [<- g1,<- g3] at f1
  rw [<- g2,<- g4] at f2
  refine F.mono (h.fin fa (e/2) (by grind)) λi hi=>?_
  have q:f i*(p:Rat)/(d:Rat)*(d:Rat)=f i*(p:Rat):=by grind
  have m1:=Zu hi.1 (z:=(p:Rat)) (by grind)
  have m2:=Zu hi.2 (z:=(p:Rat)) (by grind)
  have m3:=Zu hd' (z:=e) (by grind)
  have m4:=Zu hp'.2 (z:=e) (by grind)
  constructor
  ·refine qbc (c:=(d:Rat)) (by grind) ?_
   rw [q]; grind
  ·refine qbc (c:=(d:Rat)) (by grind) ?_
   rw [q]; grind
def Rt (t f q:Rat):Prop:=0<=q∧(f<=0->q=0)∧(0<=f -> -t<=q*q-f∧q*q-f<=t)
theorem qd2 {a:qb}(h:Ok a):Ev (λk _=>XD k a) (λr=>Ok r.1∧(0<=a.Lo -> ∀ {ι:Type} (F:Vd ι) (f q t:ι->Rat),NI F f a->(∀ i,Rt (t i) (f i) (q i))->Yy F t 0 0->NI F q r.1)):=by
 rcases h with rfl | fa
 ·exact Ev.L (r:=(Zd,true)) 0 ⟨.inl rfl,λ_ _ _ _ _ _ _ _ _=>.ent⟩ λk j _=>qeh k
 ·by_cases h:a.Hi<0
  ·exact Ev.L (r:=(⟨0,0⟩,false)) 0 ⟨W9,λh0=>by have:=fa.le; omega⟩ λk j _=>qcP k fa h
  ·obtain ⟨s,t,u,v,e1,r1,r2,h3,h4⟩:=qbi (k0:=K32+1) (by decide) fa (by omega)
   refine Ev.L (r:=(⟨s,t⟩,true)) (K32+1) ⟨.inr h4,λh0 ι F f q tt hf hq ht=>.inr ?_⟩ λk j hk=>?_
   ·have hz:Yy F (λi=>q i*q i-f i) 0 0:=λe he=>by
     have hlo:=Jy h0
     rw [J6] at hlo
     refine F.two (ht e he) (hf.fin fa e he) λi i1 i2=>?_
     rcases Rat.le_total (a:=0) (b:=f i) with hp | hp
     ·have:=(hq i).2.2 hp; constructor <;> grind
     ·have:=(hq i).2.1 hp
      show 0-e<=q i*q i-f i∧q i*q i-f i<=0+e
      rw [this]; constructor <;> grind
    have es:=YK s; have et:=YK t; have ea:=YK a.Lo; have eb:=YK a.Hi
    have m0:mx a.Lo 0=a.Lo:=by have:=mxl a.Lo 0; omega
    have r11:=r1.le; have r22:=r2.up
    rw [m0] at r11
    have c1:=Xg r11; have c2:=Xg r22
    simp only [Rat.intCast_mul] at c1 c2
    rw [<- es,<- ea] at c1
    rw [<- et,<- eb] at c2
    have s0:=Jy r1.s0; have t0:=Jy (Int.le_trans r1.s0 h3)
    rw [J6] at s0 t0
    exact Yy.root s0 t0 (by grind) (by grind) (hf.fin fa) (λi=>(hq i).1) hz
   ·obtain ⟨s',t',u',v',e1',r1',r2',h3',h4'⟩:=qbi (k0:=k) (by unfold K32 at hk; omega) fa (by omega)
    obtain ⟨rfl,_⟩:=Va.uniq r1 r1'
    obtain ⟨_,rfl⟩:=Va.uniq r2 r2'
    exact e1'
end
end Go.Proofs.YtpmgpcklieincaaGreatDoor
set_option maxRecDepth 10000
set_option linter.unusedVariables false
set_option linter.unusedSimpArgs false
namespace Go.Proofs.YtpmgpcklieincaaGreatDoor
open Go Go.Sx
theorem qbQ (t:Nat->Rat):∀ k,sm t (k+1)=t 0+sm (λj=>t (1+j)) k
 | 0=>by simp only [sm]; grind
 | k+1=>by rw [sm,qbQ t k,sm,Nat.add_comm 1 k]; grind
section
variable {d:Rat} {f g q:Nat->Rat}
theorem qgv (hd:0<d){k m:Nat}(h:∀ j,m<=j->j<=m+k->f j=g j*q j)(h0:g m≠0):dd d q k m=(dd d f k m-sm (λj=>dd d g (1+j) m*dd d q (k-(1+j)) (m+(1+j))) k)/g m:=by
 have e:dd d f k m=sm (λi=>dd d g i m*dd d q (k-i) (m+i)) (k+1):=by rw [<- W4 hd]; exact WE k m h
 rw [qbQ] at e
 generalize sm (λj=>dd d g (1+j) m*dd d q (k-(1+j)) (m+(1+j))) k=S at e
 rw [show dd d g 0 m=g m from rfl,Nat.sub_zero,Nat.add_zero] at e
 generalize dd d q k m=x at e
 rw [e]
 grind
theorem qgq (hd:0<d){k m:Nat}(h0:(q m+q (m+(k+1)))/2*2/1≠0):dd d q (k+1) m=(dd d f (k+1) m+dd d (λj=>q j*q j-f j) (k+1) m-sm (λj=>dd d q (1+j) m*dd d q (k+1-(1+j)) (m+(1+j))) k)/((q m+q (m+(k+1)))/2*2/1):=by
 have e:dd d f (k+1) m+dd d (λj=>q j*q j-f j) (k+1) m=sm (λi=>dd d q i m*dd d q (k+1-i) (m+i)) (k+1+1):=by
  rw [<- W4 hd,<- qaA hd]
  exact WE _ m λj _ _=>by grind
 rw [sm,qbQ] at e
 generalize sm (λj=>dd d q (1+j) m*dd d q (k+1-(1+j)) (m+(1+j))) k=S at e
 rw [show dd d q 0 m=q m from rfl,Nat.sub_zero,Nat.add_zero,Nat.sub_self,show dd d q 0 (m+(k+1))=q (m+(k+1)) from rfl] at e
 generalize dd d q (k+1) m=x at e
 rw [e]
 generalize q (m+(k+1))=b at *
 generalize q m=a at *
 have:(a+b)/2*2/1=a+b:=by grind
 rw [this] at h0 ⊢
 grind
end
def dl (N:Nat):Rat:=1/(65536*((N+1:Nat):Rat))
theorem qcR (N:Nat):dl N*(65536*((N+1:Nat):Rat))=1:=by
 have:=Vx N
 unfold dl; grind
theorem Yo (N:Nat):0<dl N:=(ZW (by decide) (Rat.mul_pos (by decide) (Vx N))).1
theorem qhC {e:Rat}(he:0<e):∃ n:Nat,1<=e*((n+1:Nat):Rat):=by
 have h1:=Rat.lt_floor_add_one (1/e)
 generalize (1/e).floor+1=z at h1
 have h2:(z:Rat)<=((z.toNat+1:Nat):Rat):=by
  have:=Xg (show z<=((z.toNat+1:Nat):Int) by omega)
  exact this
 have h3:=Zu (show 1/e<=((z.toNat+1:Nat):Rat) by grind) (Rat.le_of_lt he)
 refine ⟨z.toNat,?_⟩
 have:1/e*e=1:=by grind
 grind
theorem JN {e:Rat}(he:0<e):∃ N0:Nat,∀ N,N0<=N->dl N<=e:=by
 obtain ⟨n,hn⟩:=qhC he
 refine ⟨n,λN hN=>?_⟩
 have c:=Vx N
 have h1:((n+1:Nat):Rat)<=((N+1:Nat):Rat):=Rat.natCast_le_natCast.2 (by omega)
 have h2:=Zu h1 (z:=e) (Rat.le_of_lt he)
 refine qbc (c:=65536*((N+1:Nat):Rat)) (by grind) ?_
 rw [qcR]; grind
def tau (N:Nat):Rat:=dl N*(dl N/2) ^ 4
theorem qdS (N:Nat):0<=tau N:=by
 have h:=Yo N
 have h2:0<=dl N/2:=by grind
 exact Rat.mul_nonneg (Rat.le_of_lt h) (Rat.pow_nonneg h2)
theorem qeR (x:Rat)(a:Nat):∀ b,x ^ (a+b)=x ^ a*x ^ b
 | 0=>by rw [Nat.add_zero,Rat.pow_zero,Rat.mul_one]
 | b+1=>by rw [<- Nat.add_assoc,Rat.pow_succ,qeR x a b,Rat.pow_succ,Rat.mul_assoc]
theorem qeU {x y:Rat}(h:x*y=1):∀ j:Nat,x ^ j*y ^ j=1
 | 0=>by rw [Rat.pow_zero,Rat.pow_zero,Rat.mul_one]
 | j+1=>by
  have:=qeU h j
  rw [Rat.pow_succ,Rat.pow_succ]
  generalize x ^ j=u at *
  generalize y ^ j=v at *
  grind
theorem qaC {x:Rat}(h0:0<=x)(h1:x<=1):∀ k:Nat,x ^ k<=1
 | 0=>by rw [Rat.pow_zero]; exact Rat.le_refl
 | k+1=>by
  have:=qaC h0 h1 k
  have:=Zu this h0
  rw [Rat.pow_succ]; grind
theorem qhV (N:Nat):dl N<=1:=by
 have c:=Vx N
 have h1:(1:Rat)<=((N+1:Nat):Rat):=by have:=Rat.natCast_le_natCast.2 (show 1<=N+1 by omega); exact this
 refine qbc (c:=65536*((N+1:Nat):Rat)) (by grind) ?_
 rw [qcR]; grind
theorem qfc (N:Nat){k:Nat}(hk:k<=4):tau N*(2/dl N) ^ k<=dl N:=by
 have h:=Yo N
 have e:∀ j:Nat,(dl N/2) ^ j*(2/dl N) ^ j=1:=qeU (by grind)
 have h3:(dl N/2) ^ 4=(dl N/2) ^ (4-k)*(dl N/2) ^ k:=by rw [<- qeR]; congr 1; omega
 have h4:=qaC (x:=dl N/2) (by grind) (by have:=qhV N; grind) (4-k)
 have h5:=Zu h4 (Rat.le_of_lt h)
 have h6:tau N*(2/dl N) ^ k=(dl N/2) ^ (4-k)*dl N:=by
  unfold tau
  rw [h3]
  have:=e k
  generalize (dl N/2) ^ k=u at *
  generalize (2/dl N) ^ k=v at *
  grind
 rw [h6]; grind
theorem qhH (N:Nat):tau N<=dl N:=by have:=qfc N (k:=0) (by omega); rwa [Rat.pow_zero,Rat.mul_one] at this
def W (a b:Nat->Nat)(k:Nat):Vd (Nat×Nat) where
 ev p:=∃ N0,∀ N,N0<=N -> ∀ m,a N<=m->m+k<=b N->p (N,m)
 all h:=⟨0,λN _ m _ _=>h (N,m)⟩
 two:=λ⟨N0,h⟩ ⟨N1,k⟩ i=>⟨max N0 N1,λN hN m h1 h2=>i (N,m) (h N (by omega) m h1 h2) (k N (by omega) m h1 h2)⟩
theorem NI.via {ι κ:Type}{F:Vd ι}{G:Vd κ}{f:ι->Rat}{A:qb}(φ:κ->ι)(hφ:∀ p,F.ev p->G.ev λi=>p (φ i))(h:NI F f A):NI G (λi=>f (φ i)) A :=
 h.imp id λh e he=>hφ _ (h e he)
section
variable {a b:Nat->Nat} {A B:qb}
theorem W.shift {k:Nat}(i j:Nat){p:Nat×Nat->Prop}(h:(W a b k).ev p)(hj:i+k<=j):(W a b j).ev λw=>p (w.1,w.2+i):=by
 obtain ⟨N0,h⟩:=h
 exact ⟨N0,λN hN m h1 h2=>h N hN (m+i) (by omega) (by omega)⟩
theorem W.span {p:Nat×Nat->Prop}(h:(W a b 0).ev p)(k:Nat):(W a b k).ev λw=>∀ j,w.2<=j->j<=w.2+k->p (w.1,j):=by
 obtain ⟨N0,h⟩:=h
 exact ⟨N0,λN hN m h1 h2 j h3 h4=>h N hN j (by omega) (by dsimp only at h4; omega)⟩
theorem W.sub {a' b':Nat->Nat}{k k':Nat}(h:∃ N1,∀ N,N1<=N -> ∀ m,a' N<=m->m+k'<=b' N->a N<=m∧m+k<=b N){p:Nat×Nat->Prop}(hp:(W a b k).ev p):(W a' b' k').ev p:=by
 obtain ⟨N0,hp⟩:=hp
 obtain ⟨N1,h⟩:=h
 exact ⟨max N0 N1,λN hN m h1 h2=>hp N (by omega) m (h N (by omega) m h1 h2).1 (h N (by omega) m h1 h2).2⟩
theorem qgo {k:Nat}:Yy (W a b k) (λw=>dl w.1) 0 0:=λe he=>by
 obtain ⟨N0,h⟩:=JN he
 exact ⟨N0,λN hN m _ _=>by
  have:=h N hN; have:=Yo N
  show 0-e<=dl N∧dl N<=0+e
  constructor <;> grind⟩
theorem Yy.squeeze {ι:Type}{F:Vd ι}{f g:ι->Rat}(h:Yy F g 0 0)(hf:F.ev λi=>-g i<=f i∧f i<=g i):Yy F f 0 0:=λe he=>F.two (h e he) hf λi h1 h2=>by constructor <;> grind
def Sq (a b:Nat->Nat)(s:Nat->Nat->Rat)(k:Nat)(A:qb):Prop:=NI (W a b k) (λw=>dd (dl w.1) (s w.1) k w.2) A
theorem Sq.at {s:Nat->Nat->Rat}{k:Nat}(h:Sq a b s k A)(i j:Nat)(hj:i+k<=j):NI (W a b j) (λw=>dd (dl w.1) (s w.1) k (w.2+i)) A :=
 NI.via (F:=W a b k) (G:=W a b j) (f:=λw=>dd (dl w.1) (s w.1) k w.2) (λw=>(w.1,w.2+i)) (λp hp=>W.shift i j hp hj) h
theorem Sq.up {s:Nat->Nat->Rat}{k:Nat}(h:Sq a b s k A)(j:Nat)(hj:k<=j):NI (W a b j) (λw=>dd (dl w.1) (s w.1) k w.2) A:=by
 have:=h.at 0 j (by omega)
 exact this
end
end Go.Proofs.YtpmgpcklieincaaGreatDoor
set_option maxRecDepth 10000
set_option linter.unusedVariables false
set_option linter.unusedSimpArgs false
namespace Go.Proofs.YtpmgpcklieincaaGreatDoor
open Go Go.Sx
def oi (c:QE)(i:Nat):Nat:=(c.Out.getD i 0).toNat
structure VR (t tm:Rat) (y v:Nat->Rat) (x:qh) (r:Rat):Prop where
 num:x.Op=1->r=rr x.C.Lo
 var:x.Op=2->r=y x.A.toNat
 time:x.Op=3->r=tm
 neg:x.Op=4->r = -v x.A.toNat
 sqr:x.Op=5->r=v x.A.toNat*v x.A.toNat
 root:x.Op=6->Rt t (v x.A.toNat) r
 add:x.Op=7->r=v x.A.toNat+v x.B.toNat
 sub:x.Op=8->r=v x.A.toNat-v x.B.toNat
 mul:x.Op=9->r=v x.A.toNat*v x.B.toNat
 div:x.Op=10->r=v x.A.toNat/v x.B.toNat
structure Tr (c:QE) (y v:Nat->Nat->Nat->Rat):Prop where
 ode:∀ (N i m:Nat),y N i (m+1)=y N i m+dl N*v N (oi c i) m
 val:∀ (N m j:Nat) (x:qh),c.L[j]?=some x->VR (tau N) ((m:Rat)*dl N) (λi=>y N i m) (λk=>v N k m) x (v N j m)
theorem qhU {t f:Rat}(ht:0<t):∃ q,Rt t f q:=by
 by_cases hf:f<=0
 ·exact ⟨0,by grind,λ_=>rfl,λh=>by constructor <;> grind⟩
 ·have hf:0<f:=by grind
  obtain ⟨k,hk⟩:=qhC ht
  obtain ⟨l,hl⟩:=qhC (show 0<1/(2*f+3) from (ZW (by decide) (by grind)).1)
  have hl2:2*f+3<=((l+1:Nat):Rat):=by
   have e:1/(2*f+3)*(2*f+3)=1:=by grind
   have:=Zu hl (z:=2*f+3) (by grind)
   generalize 1/(2*f+3)=u at *
   generalize ((l+1:Nat):Rat)=w at *
   have e2:u*w*(2*f+3)=w:=by grind
   grind
  -- the grid on which the root is taken
  obtain ⟨K,hK⟩:∃ K:Nat,K=(k+1)*(l+1):=⟨_,rfl⟩
  have cK:(K:Rat)=((k+1:Nat):Rat)*((l+1:Nat):Rat):=by rw [hK]; exact Rat.natCast_mul ..
  have hK1:2*f+3<=t*(K:Rat):=by
   have:=Zu hk (z:=((l+1:Nat):Rat)) (by grind)
   rw [cK]; grind
  have k1:(1:Rat)<=((k+1:Nat):Rat):=by have:=Rat.natCast_le_natCast.2 (show 1<=k+1 by omega); exact this
  have hKp:(1:Rat)<=(K:Rat):=by
   have:=Zu k1 (z:=((l+1:Nat):Rat)) (by grind)
   rw [cK]; grind
  have z1:=Rat.floor_le (f*((K:Rat)*(K:Rat)))
  have z2:=Rat.lt_floor_add_one (f*((K:Rat)*(K:Rat)))
  have z0:0<=(f*((K:Rat)*(K:Rat))).floor:=Rat.le_floor_iff.2 (by
   have:=Rat.mul_nonneg (Rat.le_of_lt hf) (Rat.mul_nonneg (a:=(K:Rat)) (b:=(K:Rat)) (by grind) (by grind))
   exact this)
  generalize (f*((K:Rat)*(K:Rat))).floor=z at z1 z2 z0
  obtain ⟨s,s0,s1,s2⟩:=qg8 z0
  have c1:=Xg s1
  have c2:=Xg (show z+1<=(s+1)*(s+1) by omega)
  have c0:=Xg s0
  simp only [Rat.intCast_mul,Rat.intCast_add] at c1 c2 z2
  rw [show ((0:Int):Rat)=0 from rfl] at c0
  rw [show ((1:Int):Rat)=1 from rfl] at c2 z2
  generalize (s:Rat)=S at c0 c1 c2
  generalize (z:Rat)=Z at z1 z2 c1 c2
  generalize (K:Rat)=k' at hK1 hKp z1 z2
  have q1:S/k'*k'=S:=by grind
  have q0:0<=S/k':=by
   have:=Rat.mul_nonneg c0 (Rat.le_of_lt (Rat.inv_pos.2 (show 0<k' by grind)))
   rwa [<- Rat.div_def] at this
  generalize S/k'=q at q1 q0
  subst q1
  have hkk:=Rat.mul_pos (a:=k') (b:=k') (by grind) (by grind)
  -- q k' is at most (f + 1) k'
  have u1:q<=f+1:=by
   by_cases e:q<=f+1
   ·exact e
   ·have m1:=Rat.mul_pos (a:=q-(f+1)) (b:=q+(f+1)) (by grind) (by grind)
    have m2:=Rat.mul_pos (a:=(q-(f+1))*(q+(f+1))) (b:=k'*k') m1 hkk
    have m3:=Rat.mul_nonneg (a:=f*f+f+1) (b:=k'*k') (by have:=Rat.mul_pos hf hf; grind) (Rat.le_of_lt hkk)
    grind
  have u2:=Zu u1 (z:=k') (by grind)
  have u3:=Zu hK1 (z:=k') (by grind)
  refine ⟨q,q0,λh=>by grind,λ_=>⟨?_,?_⟩⟩
  ·refine qbc hkk ?_
   grind
  ·refine qbc hkk ?_
   have:=Rat.mul_pos ht hkk
   grind
theorem qfY (N:Nat):0<tau N:=by
 have h:=Yo N
 exact Rat.mul_pos h (Rat.pow_pos (by grind))
def Bef (j:Nat)(x:qh):Prop:=(4<=x.Op->x.A.toNat<j)∧(7<=x.Op->x.B.toNat<j)
theorem VR.congr {t tm r:Rat}{y v v':Nat->Rat}{x:qh}{j:Nat}(h:VR t tm y v x r)(hb:Bef j x)(he:∀ k,k<j->v' k=v k):VR t tm y v' x r where
 num:=h.num
 var:=h.var
 time:=h.time
 neg o:=by rw [he _ (hb.1 (by omega))]; exact h.neg o
 sqr o:=by rw [he _ (hb.1 (by omega))]; exact h.sqr o
 root o:=by rw [he _ (hb.1 (by omega))]; exact h.root o
 add o:=by rw [he _ (hb.1 (by omega)),he _ (hb.2 (by omega))]; exact h.add o
 sub o:=by rw [he _ (hb.1 (by omega)),he _ (hb.2 (by omega))]; exact h.sub o
 mul o:=by rw [he _ (hb.1 (by omega)),he _ (hb.2 (by omega))]; exact h.mul o
 div o:=by rw [he _ (hb.1 (by omega)),he _ (hb.2 (by omega))]; exact h.div o
theorem VR.ex {t:Rat}(ht:0<t)(tm:Rat)(y v:Nat->Rat)(x:qh):∃ r,VR t tm y v x r:=by
 by_cases h6:x.Op=6
 ·obtain ⟨q,hq⟩:=qhU (t:=t) (f:=v x.A.toNat) ht
  refine ⟨q,?_⟩
  constructor <;> intro h
  ·omega
  ·omega
  ·omega
  ·omega
  ·omega
  ·exact hq
  ·omega
  ·omega
  ·omega
  ·omega
 ·refine ⟨if x.Op=1 then rr x.C.Lo else if x.Op=2 then y x.A.toNat else if x.Op=3 then tm else if x.Op=4 then -v x.A.toNat else if x.Op=5 then v x.A.toNat*v x.A.toNat else if x.Op=7 then v x.A.toNat+v x.B.toNat else if x.Op=8 then v x.A.toNat-v x.B.toNat else if x.Op=9 then v x.A.toNat*v x.B.toNat else v x.A.toNat/v x.B.toNat,?_⟩
  constructor <;> intro h <;> first | exact absurd h h6 | simp [h]
theorem qgF {L:List qh}(hL:∀ j x,L[j]?=some x->Bef j x){t:Rat}(ht:0<t)(tm:Rat)(y:Nat->Rat):∃ v:Nat->Rat,∀ j x,L[j]?=some x->VR t tm y v x (v j):=by
 have key:∀ n:Nat,∃ v:Nat->Rat,∀ j,j<n -> ∀ x,L[j]?=some x->VR t tm y v x (v j):=by
  intro n
  induction n with
  | zero=>exact ⟨λ_=>0,λj hj=>by omega⟩
  | succ n ih =>
   obtain ⟨v,hv⟩:=ih
   cases hx:L[n]? with
   | none=>exact ⟨v,λj hj x hjx=>hv j (by
     rcases Nat.lt_or_ge j n with h | h
     ·exact h
     ·obtain rfl:j=n:=by omega
      rw [hx] at hjx; cases hjx) x hjx⟩
   | some x =>
    obtain ⟨r,hr⟩:=VR.ex ht tm y v x
    have he:∀ k,k<n->(λk=>if k=n then r else v k) k=v k:=λk hk=>by simp only [if_neg (show ¬ k=n by omega)]
    refine ⟨λk=>if k=n then r else v k,λj hj z hz=>?_⟩
    rcases Nat.lt_or_ge j n with h | h
    ·have:=(hv j h z hz).congr (hL j z hz) (v':=λk=>if k=n then r else v k) λk hk=>he k (by omega)
     rwa [<- he j h] at this
    ·obtain rfl:j=n:=by omega
     rw [hx] at hz
     obtain rfl:=Option.some.inj hz
     simp only [if_true]
     exact hr.congr (hL j x hx) he
 obtain ⟨v,hv⟩:=key L.length
 exact ⟨v,λj x hx=>hv j (List.getElem?_eq_some_iff.1 hx).1 x hx⟩
theorem qic {c:QE}(hL:∀ j x,c.L[j]?=some x->Bef j x)(p:Nat->Rat):∃ y v,Tr c y v ∧ ∀ N i,y N i 0=p i:=by
 have hV:∀ (N m:Nat) (y:Nat->Rat),∃ v:Nat->Rat,∀ j x,c.L[j]?=some x->VR (tau N) ((m:Rat)*dl N) y v x (v j):=λN m y=>qgF hL (qfY N) _ y
 obtain ⟨V,hV⟩:∃ V:Nat->Nat->(Nat->Rat)->Nat->Rat,∀ (N m:Nat) (y:Nat->Rat) (j:Nat) (x:qh),c.L[j]?=some x->VR (tau N) ((m:Rat)*dl N) y (V N m y) x (V N m y j):=⟨λN m y=>Classical.choose (hV N m y),λN m y=>Classical.choose_spec (hV N m y)⟩
 obtain ⟨Y,h0,h1⟩:∃ Y:Nat->Nat->Nat->Rat,(∀ N i,Y N 0 i=p i) ∧ ∀ N m i,Y N (m+1) i=Y N m i+dl N*V N m (Y N m) (oi c i) :=
  ⟨λN m=>Nat.rec p (λm u i=>u i+dl N*V N m u (oi c i)) m,λ_ _=>rfl,λ_ _ _=>rfl⟩
 exact ⟨λN i m=>Y N m i,λN j m=>V N m (Y N m) j,⟨λN i m=>h1 N m i,λN m j x hx=>hV N m (Y N m) j x hx⟩,λN i=>h0 N i⟩
end Go.Proofs.YtpmgpcklieincaaGreatDoor
set_option maxRecDepth 10000
set_option linter.unusedVariables false
set_option linter.unusedSimpArgs false
namespace Go.Proofs.YtpmgpcklieincaaGreatDoor
open Go Go.Sx
section
variable {c:QE} {y v:Nat->Nat->Nat->Rat} {a b:Nat->Nat} {A:qb} {j:Nat} {x:qh} {k:Nat}
abbrev D (s:Nat->Nat->Rat)(k:Nat)(w:Nat×Nat):Rat:=dd (dl w.1) (s w.1) k w.2
theorem NI.point {ι:Type}{F:Vd ι}{r:Rat}(h1:rr A.Lo<=r)(h2:r<=rr A.Hi):NI F (λ_=>r) A:=.inr (.const h1 h2)
theorem ni0 {ι:Type}{F:Vd ι}:NI F (λ_=>0) ⟨0,0⟩:=.point (by rw [J6]; exact Rat.le_refl) (by rw [J6]; exact Rat.le_refl)
theorem ni1 {ι:Type}{F:Vd ι}:NI F (λ_=>1) ⟨65536,65536⟩:=.point (by rw [qf2]; exact Rat.le_refl) (by rw [qf2]; exact Rat.le_refl)
variable (T:Tr c y v) (hx:c.L[j]?=some x)
include T hx
theorem Tr.num0 (o:x.Op=1)(hC:Ok x.C):Sq a b (λN=>v N j) 0 x.C:=by
 rcases hC with h | h
 ·exact .inl h
 ·exact (NI.point (F:=W a b 0) (r:=rr x.C.Lo) Rat.le_refl (Jz h)).eq λw=>(T.val w.1 w.2 j x hx).num o
theorem Tr.numk (o:x.Op=1):Sq a b (λN=>v N j) (k+1) ⟨0,0⟩:=ni0.eq λw=>by
 show dd (dl w.1) (v w.1 j) _ w.2=_
 rw [show v w.1 j=λ_=>rr x.C.Lo from funext λm=>(T.val w.1 m j x hx).num o]
 exact qaK (Yo _) _ _ _
theorem Tr.varq (o:x.Op=2)(h:Sq a b (λN=>y N x.A.toNat) k A):Sq a b (λN=>v N j) k A:=h.eq λw=>by
 show dd (dl w.1) (v w.1 j) _ w.2=_
 rw [show v w.1 j=y w.1 x.A.toNat from funext λm=>(T.val w.1 m j x hx).var o]
theorem Tr.time0 (o:x.Op=3)(h:NI (W a b 0) (λw=>(w.2:Rat)*dl w.1) A):Sq a b (λN=>v N j) 0 A:=h.eq λw=>(T.val w.1 w.2 j x hx).time o
theorem Tr.timef (o:x.Op=3)(N:Nat):v N j=λm:Nat=>(m:Rat)*dl N:=funext λm=>(T.val N m j x hx).time o
theorem Tr.time1 (o:x.Op=3):Sq a b (λN=>v N j) 1 ⟨65536,65536⟩:=ni1.eq λw=>by
 show dd (dl w.1) (v w.1 j) _ w.2=_
 rw [T.timef hx o]; exact qaE (Yo _) _
theorem Tr.timek (o:x.Op=3):Sq a b (λN=>v N j) (k+2) ⟨0,0⟩:=ni0.eq λw=>by
 show dd (dl w.1) (v w.1 j) _ w.2=_
 rw [T.timef hx o]; exact qb8 (Yo _) _ _
theorem Tr.negq (o:x.Op=4)(h:NI (W a b k) (λw=>-D (λN=>v N x.A.toNat) k w) A):Sq a b (λN=>v N j) k A:=h.eq λw=>by
 show dd (dl w.1) (v w.1 j) _ w.2=_
 rw [show v w.1 j=λm=>-v w.1 x.A.toNat m from funext λm=>(T.val w.1 m j x hx).neg o]
 exact WS (Yo _) _ _
theorem Tr.addq (o:x.Op=7)(h:NI (W a b k) (λw=>D (λN=>v N x.A.toNat) k w+D (λN=>v N x.B.toNat) k w) A):Sq a b (λN=>v N j) k A:=h.eq λw=>by
 show dd (dl w.1) (v w.1 j) _ w.2=_
 rw [show v w.1 j=λm=>v w.1 x.A.toNat m+v w.1 x.B.toNat m from funext λm=>(T.val w.1 m j x hx).add o]
 exact qaA (Yo _) _ _
theorem Tr.subq (o:x.Op=8)(h:NI (W a b k) (λw=>D (λN=>v N x.A.toNat) k w-D (λN=>v N x.B.toNat) k w) A):Sq a b (λN=>v N j) k A:=h.eq λw=>by
 show dd (dl w.1) (v w.1 j) _ w.2=_
 rw [show v w.1 j=λm=>v w.1 x.A.toNat m-v w.1 x.B.toNat m from funext λm=>(T.val w.1 m j x hx).sub o]
 exact qhN (Yo _) _ _
abbrev tm (f g:Nat->Nat->Rat)(k i:Nat)(w:Nat×Nat):Rat:=D f i w*dd (dl w.1) (g w.1) (k-i) (w.2+i)
theorem Tr.mulq (o:x.Op=9)(h:NI (W a b k) (λw=>sm (λi=>tm (λN=>v N x.A.toNat) (λN=>v N x.B.toNat) k (0+i) w) (k+1-0)) A):Sq a b (λN=>v N j) k A:=h.eq λw=>by
 show dd (dl w.1) (v w.1 j) _ w.2=_
 rw [show v w.1 j=λm=>v w.1 x.A.toNat m*v w.1 x.B.toNat m from funext λm=>(T.val w.1 m j x hx).mul o]
 simp only [Nat.zero_add]
 exact W4 (Yo _) _ _
theorem Tr.sqrq (o:x.Op=5)(h:NI (W a b k) (λw=>sm (λi=>tm (λN=>v N x.A.toNat) (λN=>v N x.A.toNat) k (0+i) w) (k+1-0)) A):Sq a b (λN=>v N j) k A:=h.eq λw=>by
 show dd (dl w.1) (v w.1 j) _ w.2=_
 rw [show v w.1 j=λm=>v w.1 x.A.toNat m*v w.1 x.A.toNat m from funext λm=>(T.val w.1 m j x hx).sqr o]
 simp only [Nat.zero_add]
 exact W4 (Yo _) _ _
theorem Tr.sqr0 (o:x.Op=5)(h:NI (W a b 0) (λw=>v w.1 x.A.toNat w.2*v w.1 x.A.toNat w.2) A):Sq a b (λN=>v N j) 0 A:=h.eq λw=>(T.val w.1 w.2 j x hx).sqr o
theorem Tr.divq (o:x.Op=10)(h:NI (W a b k) (λw=>(D (λN=>v N x.A.toNat) k w-sm (λi=>tm (λN=>v N x.B.toNat) (λN=>v N j) k (1+i) w) k)/v w.1 x.B.toNat w.2) A)
  (h0:A=Zd∨(W a b 0).ev λw=>v w.1 x.B.toNat w.2≠0):Sq a b (λN=>v N j) k A:=by
 rcases h0 with rfl | h0
 ·exact .ent
 ·refine h.congr ((W a b k).mono (W.span h0 k) λw hw=>?_)
  refine qgv (Yo _) (λi h1 h2=>?_) (hw w.2 (Nat.le_refl _) (Nat.le_add_right _ _))
  have h3:=hw i h1 h2
  show v w.1 x.A.toNat i=v w.1 x.B.toNat i*v w.1 j i
  rw [(T.val w.1 i j x hx).div o]
  grind
theorem Tr.rt (o:x.Op=6)(N m:Nat):Rt (tau N) (v N x.A.toNat m) (v N j m):=(T.val N m j x hx).root o
theorem Tr.rootk (hk:k+1<=4)(o:x.Op=6){B:qb}(hB:Sq a b (λN=>v N x.A.toNat) (k+1) B)
  (h:∀ f:Nat×Nat->Rat,NI (W a b (k+1)) f B->NI (W a b (k+1)) (λw=>(f w-sm (λi=>tm (λN=>v N j) (λN=>v N j) (k+1) (1+i) w) k)/((v w.1 j w.2+v w.1 j (w.2+(k+1)))/2*2/1)) A)
  (h0:A=Zd∨(W a b 0).ev (λw=>v w.1 j w.2*2/1≠0)∧(W a b (k+1)).ev (λw=>(v w.1 j w.2+v w.1 j (w.2+(k+1)))/2*2/1≠0)):Sq a b (λN=>v N j) (k+1) A:=by
 rcases h0 with rfl | ⟨h0,h1⟩
 ·exact .ent
 -- the difference of the square and what the root is taken of
 have he:Yy (W a b (k+1)) (λw=>dd (dl w.1) (λm=>v w.1 j m*v w.1 j m-v w.1 x.A.toNat m) (k+1) w.2) 0 0:=by
  refine qgo.squeeze ((W a b (k+1)).mono (W.span h0 (k+1)) λw hw=>?_)
  have e:=qaU (d:=dl w.1) (Yo _) (e:=λm=>v w.1 j m*v w.1 j m-v w.1 x.A.toNat m) (t:=tau w.1) (qdS _) (k+1) w.2 λm h1 h2=>by
   have r:=T.rt hx o w.1 m
   have n:=hw m h1 h2
   dsimp only at n
   refine r.2.2 ?_
   rcases Rat.le_total (a:=0) (b:=v w.1 x.A.toNat m) with hp | hp
   ·exact hp
   ·exact absurd (by rw [r.2.1 hp]; grind) n
  have:=qfc w.1 hk
  constructor <;> grind
 have hf:NI (W a b (k+1)) (λw=>D (λN=>v N x.A.toNat) (k+1) w+dd (dl w.1) (λm=>v w.1 j m*v w.1 j m-v w.1 x.A.toNat m) (k+1) w.2) B:=hB.imp id λhB=>(hB.add he).wide (by grind) (by grind)
 exact (h _ hf).congr ((W a b (k+1)).mono h1 λw hw=>qgq (Yo _) hw)
omit hx in
theorem Tr.odeq {i:Nat}{B:qb}(h:NI (W a b (k+1)) (λw=>D (λN=>v N (oi c i)) k w*((1:Int):Rat)/(((k+1:Nat):Int):Rat)) B):Sq a b (λN=>y N i) (k+1) B:=by
 unfold Sq
 refine NI.eq h λw=>?_
 have e:=qbW (d:=dl w.1) (y:=y w.1 i) (v:=v w.1 (oi c i)) (Yo w.1) (λm=>T.ode w.1 i m) k w.2
 have h1:(((k+1:Nat):Int):Rat)=((k+1:Nat):Rat):=Rat.intCast_natCast _
 show dd (dl w.1) (y w.1 i) (k+1) w.2=dd (dl w.1) (v w.1 (oi c i)) k w.2*((1:Int):Rat)/(((k+1:Nat):Int):Rat)
 rw [h1,show ((1:Int):Rat)=1 from rfl,Rat.mul_one]
 exact e
end
end Go.Proofs.YtpmgpcklieincaaGreatDoor
set_option maxRecDepth 10000
set_option linter.unusedVariables false
set_option linter.unusedSimpArgs false
namespace Go.Proofs.YtpmgpcklieincaaGreatDoor
open Go Go.Sx
theorem Vd.allN {ι:Type}(F:Vd ι){p:Nat->ι->Prop}:∀ n,(∀ i,i<n->F.ev (p i))->F.ev λw=>∀ i,i<n->p i w
 | 0,_=>F.all λw i hi=>by omega
 | n+1,h=>F.two (F.allN n λi hi=>h i (by omega)) (h n (by omega)) λw h1 h2 i hi=>by
  rcases Nat.lt_or_ge i n with hin | hin
  ·exact h1 i hin
  ·obtain rfl:i=n:=by omega
   exact h2
def Wc (F:Vd (Nat×Nat)):Prop:=∀ N0,F.ev λw=>N0<=w.1
theorem Wc.tau {F:Vd (Nat×Nat)}(h:Wc F):Yy F (λw=>tau w.1) 0 0:=λe he=>by
 obtain ⟨N0,h0⟩:=JN he
 refine F.mono (h N0) λw hw=>?_
 have:=h0 w.1 hw; have:=qdS w.1; have:=qhH w.1
 constructor <;> grind
theorem W.inf (a b:Nat->Nat)(k:Nat):Wc (W a b k):=λN0=>⟨N0,λ_ h _ _ _=>h⟩
def gi (t N:Nat):Nat:=t*(N+1)
theorem qag (t N:Nat):((gi t N:Nat):Rat)*dl N=rr (t:Int):=by
 have h:=qcR N
 have e:((gi t N:Nat):Rat)=(t:Rat)*((N+1:Nat):Rat):=Rat.natCast_mul ..
 have e2:((t:Int):Rat)=(t:Rat):=Rat.intCast_natCast _
 unfold rr
 rw [e,e2]
 generalize ((N+1:Nat):Rat)=c at *
 generalize (t:Rat)=u at *
 generalize dl N=δ at *
 grind
theorem qd1 {s t:Nat}(h:s<=t)(N:Nat):gi s N<=gi t N:=Nat.mul_le_mul_right _ h
def el (T:Nat)(w:Nat×Nat):Rat:=(w.2:Rat)*dl w.1-rr (T:Int)
theorem WG (T N:Nat):el T (N,gi T N)=0:=by have:=qag T N; show ((gi T N:Nat):Rat)*dl N-rr (T:Int)=0; grind
theorem qdu (T N m:Nat):el T (N,m+1)=el T (N,m)+dl N:=by
 show ((m+1:Nat):Rat)*dl N-_=(m:Rat)*dl N-_+dl N
 grind
theorem qdp {T N m m':Nat}(h:m<=m'):el T (N,m)<=el T (N,m'):=by
 have:=Zu (Rat.natCast_le_natCast.2 h) (Rat.le_of_lt (Yo N))
 show (m:Rat)*dl N-_<=(m':Rat)*dl N-_
 grind
theorem qfJ (T H N:Nat):el T (N,gi (T+H) N)=rr (H:Int):=by
 have:=qag (T+H) N
 have e:rr ((T+H:Nat):Int)=rr (T:Int)+rr (H:Int):=by rw [Int.natCast_add,VL]
 show ((gi (T+H) N:Nat):Rat)*dl N-rr (T:Int)=_
 grind
theorem qbR {T N m:Nat}(h:gi T N<=m):0<=el T (N,m):=by have:=qdp (T:=T) (N:=N) h; rwa [WG] at this
theorem qfr {T H N m:Nat}(h:m<=gi (T+H) N):el T (N,m)<=rr (H:Int):=by have:=qdp (T:=T) (N:=N) h; rwa [qfJ] at this
theorem qb7 {xh eh bh h κ ε u s:Rat}(hs0:0<=s)(hs:s<=h-κ)(hε:ε*(1+h)=κ*u)(κ0:0<κ)(κ1:κ<=1)(u0:0<u)(ε0:0<ε)(b1:xh+u<=bh)(b2:xh+h*eh<=bh)(e:eh<=0∨u<=eh):xh+ε+s*(eh+ε)<=bh:=by
 have m1:=Zu (show s<=h by grind) (Rat.le_of_lt ε0)
 have m2:=Zu κ1 (Rat.le_of_lt u0)
 rcases e with e | e
 ·have:=Rat.mul_nonneg hs0 (show 0 <= -eh by grind)
  grind
 ·have h1:=Zu hs (show 0<=eh by grind)
  have h2:=Zu e (Rat.le_of_lt κ0)
  grind
theorem qc2 {A:qb}(h:Y2 A):-32768<=rr A.Lo∧rr A.Lo<=rr A.Hi∧rr A.Hi<=32768:=by
 have h1:=Jy (show -2147483648<=A.Lo by have:=h.1; omega)
 have h2:=Jy (show A.Hi<=2147483648 by have:=h.2.2; omega)
 have e1:rr (-2147483648) = -32768:=by unfold rr; grind
 have e2:rr 2147483648=32768:=by unfold rr; grind
 rw [e1] at h1; rw [e2] at h2
 exact ⟨h1,Jz h,h2⟩
theorem qat (x:Int):rr x<=0∨rr 1<=rr x:=by
 rcases Int.lt_or_le 0 x with h | h
 ·exact .inr (Jy (by omega))
 ·left; have:=Jy h; rwa [J6] at this
section
variable {n T H:Nat}
theorem qcs (hH:1<=H){y f:Nat->Nat->Nat->Rat}(ode:∀ N i m,y N i (m+1)=y N i m+dl N*f N i m){X B E:Nat->qb}
  (fx:∀ i,i<n->Y2 (X i)) (fb:∀ i,i<n->Y2 (B i)) (fe:∀ i,i<n->Y2 (E i)) (h0:∀ i,i<n->NI (W (gi T) (gi T) 0) (λw=>y w.1 i w.2) (X i))
  (hl:∀ i,i<n->(B i).Lo+1<=(X i).Lo) (hh:∀ i,i<n->(X i).Hi+1<=(B i).Hi)
  (hE:∀ F:Vd (Nat×Nat),(∀ i,i<n->NI F (λw=>y w.1 i w.2) (B i))->(F.ev λw=>gi T w.1<=w.2∧w.2<=gi (T+H) w.1)->Wc F -> ∀ i,i<n->NI F (λw=>f w.1 i w.2) (E i))
  (up:∀ i,i<n->rr (X i).Hi+rr (H:Int)*rr (E i).Hi<=rr (B i).Hi) (dn:∀ i,i<n->rr (B i).Lo<=rr (X i).Lo+rr (H:Int)*rr (E i).Lo) :
  ∀ i,i<n->NI (W (gi T) (gi (T+H)) 0) (λw=>y w.1 i w.2) (B i):=by
 -- all that is near the box, within the step
 let F2:Vd (Nat×Nat):={
  ev:=λp=>∃ η:Rat,0<η ∧ ∃ N0,∀ N,N0<=N -> ∀ m,gi T N<=m->m<=gi (T+H) N->(∀ i,i<n->rr (B i).Lo-η<=y N i m∧y N i m<=rr (B i).Hi+η)->p (N,m)
  all:=λh=>⟨1,by decide,0,λN _ m _ _ _=>h (N,m)⟩
  two:=λ⟨η,hη,N0,h⟩ ⟨η',hη',N1,k⟩ i=>by
   obtain ⟨z,z0,z1,z2⟩:=qc4 hη hη'
   exact ⟨z,z0,max N0 N1,λN hN m h1 h2 h3=>i (N,m) (h N (by omega) m h1 h2 λj hj=>by have:=h3 j hj; constructor <;> grind) (k N (by omega) m h1 h2 λj hj=>by have:=h3 j hj; constructor <;> grind)⟩ }
 have hF2:∀ e:Rat,0<e->F2.ev λw=>∀ i,i<n->rr (E i).Lo-e<=f w.1 i w.2∧f w.1 i w.2<=rr (E i).Hi+e:=λe he=>by
  refine F2.allN n λi hi=>(hE F2 (λj hj=>.inr λe he=>⟨e,he,0,λN _ m _ _ h=>h j hj⟩) ⟨1,by decide,0,λN _ m h1 h2 _=>⟨h1,h2⟩⟩ (λN0=>⟨1,by decide,N0,λN h _ _ _ _=>h⟩) i hi).fin (fe i hi) e he
 intro i hi
 refine .inr λe he=>?_
 have hp:0<rr (H:Int):=W5 (by omega)
 have up0:0<rr 1:=W5 (by decide)
 obtain ⟨η,η0,N1,hM⟩:=hF2 1 (by decide)
 obtain ⟨z,z0,z1,z2⟩:=qc4 η0 he
 obtain ⟨κ',k0,k1,k2⟩:=qc4 hp (show (0:Rat)<1 by decide)
 obtain ⟨κ,κ0,κ1,κ2⟩:=qc4 k0 (show 0<z/65538 by grind)
 obtain ⟨ε0,εe⟩:=ZW (x:=κ*rr 1) (y:=1+rr (H:Int)) (Rat.mul_pos κ0 up0) (by grind)
 generalize κ*rr 1/(1+rr (H:Int))=ε at ε0 εe
 obtain ⟨η2,η20,N2,hf⟩:=hF2 ε ε0
 obtain ⟨N3,hs⟩:=(W (gi T) (gi T) 0).allN n λi hi=>(h0 i hi).fin (fx i hi) ε ε0
 obtain ⟨N4,hd⟩:=JN κ0
 refine ⟨N1+N2+N3+N4,λN hN m ha hb=>?_⟩
 have hδ:=Yo N
 have hδκ:=hd N (by omega)
 -- by induction on the index
 have key:∀ m,gi T N<=m->m<=gi (T+H) N ->
   (el T (N,m)<=rr (H:Int)-κ ∧ ∀ i,i<n->rr (X i).Lo-ε+el T (N,m)*(rr (E i).Lo-ε)<=y N i m∧y N i m<=rr (X i).Hi+ε+el T (N,m)*(rr (E i).Hi+ε)) ∨
   (rr (H:Int)-κ<el T (N,m) ∧ ∀ i,i<n->rr (B i).Lo-32769*(el T (N,m)-(rr (H:Int)-κ)+dl N)<=y N i m∧y N i m<=rr (B i).Hi+32769*(el T (N,m)-(rr (H:Int)-κ)+dl N)):=by
  intro m
  induction m with
  | zero =>
   intro h1 h2
   left
   have e0:gi T N=0:=by omega
   have ez:=WG T N
   rw [e0] at ez
   rw [ez]
   refine ⟨by grind,λi hi=>?_⟩
   have:=hs N (by omega) 0 (by omega) (by omega) i hi
   dsimp only at this
   constructor <;> grind
  | succ m ih =>
   intro h1 h2
   by_cases hm:gi T N=m+1
   ·left
    have ez:=WG T N
    rw [hm] at ez
    rw [ez]
    refine ⟨by grind,λi hi=>?_⟩
    have:=hs N (by omega) (m+1) (by omega) (by omega) i hi
    dsimp only at this
    constructor <;> grind
   ·have hm1:gi T N<=m:=by omega
    have hm2:m<=gi (T+H) N:=by omega
    have p0:=qbR hm1
    have p1:=qfr hm2
    rw [qdu]
    rcases ih hm1 hm2 with ⟨c1,c2⟩ | ⟨c1,c2⟩
    ·have inB:∀ i,i<n->rr (B i).Lo<=y N i m∧y N i m<=rr (B i).Hi:=λi hi=>by
      have q:=c2 i hi
      have u1:=qb7 p0 c1 εe κ0 (by grind) up0 ε0 (by have:=Jy (hh i hi); rwa [VL] at this) (up i hi) (qat _)
      have u2:=qb7 (xh:=-rr (X i).Lo) (eh:=-rr (E i).Lo) (bh:=-rr (B i).Lo) p0 c1 εe κ0 (by grind) up0 ε0 (by have:=Jy (hl i hi); rw [VL] at this; grind) (by have:=dn i hi; grind) (by rw [<- Vt]; exact qat _)
      constructor <;> grind
     have f1:=hM N (by omega) m hm1 hm2 λi hi=>by have:=inB i hi; constructor <;> grind
     have f2:=hf N (by omega) m hm1 hm2 λi hi=>by have:=inB i hi; constructor <;> grind
     dsimp only at f1 f2
     by_cases c3:el T (N,m)+dl N<=rr (H:Int)-κ
     ·refine .inl ⟨c3,λi hi=>?_⟩
      have q:=c2 i hi; have g:=f2 i hi
      have m1:=Zu g.1 (Rat.le_of_lt hδ); have m2:=Zu g.2 (Rat.le_of_lt hδ)
      rw [ode]
      constructor <;> grind
     ·refine .inr ⟨by grind,λi hi=>?_⟩
      have q:=inB i hi; have g:=f1 i hi; have b:=qc2 (fe i hi)
      have m1:=Zu (show -32769<=f N i m by grind) (Rat.le_of_lt hδ); have m2:=Zu (show f N i m<=32769 by grind) (Rat.le_of_lt hδ)
      rw [ode]
      constructor <;> grind
    ·have f1:=hM N (by omega) m hm1 hm2 λi hi=>by have:=c2 i hi; constructor <;> grind
     dsimp only at f1
     refine .inr ⟨by grind,λi hi=>?_⟩
     have q:=c2 i hi; have g:=f1 i hi; have b:=qc2 (fe i hi)
     have m1:=Zu (show -32769<=f N i m by grind) (Rat.le_of_lt hδ); have m2:=Zu (show f N i m<=32769 by grind) (Rat.le_of_lt hδ)
     rw [ode]
     constructor <;> grind
 have hb':m<=gi (T+H) N:=hb
 have p0:=qbR ha
 have p1:=qfr hb'
 show rr (B i).Lo-e<=y N i m∧y N i m<=rr (B i).Hi+e
 rcases key m ha hb' with ⟨c1,c2⟩ | ⟨c1,c2⟩
 ·have q:=c2 i hi
  have u1:=qb7 p0 c1 εe κ0 (by grind) up0 ε0 (by have:=Jy (hh i hi); rwa [VL] at this) (up i hi) (qat _)
  have u2:=qb7 (xh:=-rr (X i).Lo) (eh:=-rr (E i).Lo) (bh:=-rr (B i).Lo) p0 c1 εe κ0 (by grind) up0 ε0 (by have:=Jy (hl i hi); rw [VL] at this; grind) (by have:=dn i hi; grind) (by rw [<- Vt]; exact qat _)
  constructor <;> grind
 ·have q:=c2 i hi
  constructor <;> grind
end
section
variable {T H:Nat} {y f:Nat->Nat->Rat} {E X:qb}
theorem qfO (ode:∀ N m,y N (m+1)=y N m+dl N*f N m)(fe:Y2 E)(hE:NI (W (gi T) (gi (T+H)) 0) (λw=>f w.1 w.2) E) :
  ∃ g:Nat×Nat->Rat,NI (W (gi T) (gi (T+H)) 0) g E∧(W (gi T) (gi (T+H)) 0).ev λw=>y w.1 w.2=y w.1 (gi T w.1)+el T w*g w:=by
 have key:∀ (e:Rat) (N:Nat),(∀ m,gi T N<=m->m+0<=gi (T+H) N->rr E.Lo-e<=f N m∧f N m<=rr E.Hi+e) -> ∀ m,gi T N<=m->m<=gi (T+H) N->y N (gi T N)+el T (N,m)*(rr E.Lo-e)<=y N m∧y N m<=y N (gi T N)+el T (N,m)*(rr E.Hi+e):=by
  intro e N h m
  have hδ:=Yo N
  induction m with
  | zero =>
   intro h1 h2
   have e0:gi T N=0:=by omega
   have ez:=WG T N
   rw [e0] at ez ⊢
   rw [ez]
   constructor <;> grind
  | succ m ih =>
   intro h1 h2
   by_cases hm:gi T N=m+1
   ·have ez:=WG T N
    rw [hm] at ez ⊢
    rw [ez]
    constructor <;> grind
   ·have q:=ih (by omega) (by omega)
    have g:=h m (by omega) (by omega)
    have m1:=Zu g.1 (Rat.le_of_lt hδ); have m2:=Zu g.2 (Rat.le_of_lt hδ)
    rw [ode,qdu]
    constructor <;> grind
 refine ⟨λw=>if el T w=0 then rr E.Lo else (y w.1 w.2-y w.1 (gi T w.1))/el T w,.inr λe he=>?_,?_⟩
 ·obtain ⟨N0,h⟩:=hE.fin fe e he
  refine ⟨N0,λN hN m h1 h2=>?_⟩
  have q:=key e N (h N hN) m h1 h2
  have p:=qbR h1
  have b:=Jz fe
  dsimp only
  by_cases c:el T (N,m)=0
  ·rw [if_pos c]; constructor <;> grind
  ·rw [if_neg c]
   have p':0<el T (N,m):=by grind
   have e1:(y N m-y N (gi T N))/el T (N,m)*el T (N,m)=y N m-y N (gi T N):=by grind
   constructor
   ·refine qbc p' ?_
    rw [e1]; grind
   ·refine qbc p' ?_
    rw [e1]; grind
 ·obtain ⟨N0,h⟩:=hE.fin fe 1 (by decide)
  refine ⟨N0,λN hN m h1 h2=>?_⟩
  dsimp only
  by_cases c:el T (N,m)=0
  ·rw [if_pos c]
   have q:=key 1 N (h N hN) m h1 h2
   rw [c] at q ⊢
   grind
  ·rw [if_neg c]
   generalize el T (N,m)=s at *
   grind
theorem qh8 (hH:1<=H)(ode:∀ N m,y N (m+1)=y N m+dl N*f N m)(fe:Y2 E)(hE:NI (W (gi T) (gi (T+H)) 0) (λw=>f w.1 w.2) E)(h0:NI (W (gi T) (gi T) 0) (λw=>y w.1 w.2) X)(K:Nat) :
  NI (W (gi T) (λN=>gi T N+K) 0) (λw=>y w.1 w.2) X:=by
 refine h0.imp id λh0 e he=>?_
 obtain ⟨N0,h⟩:=hE.fin fe 1 (by decide)
 obtain ⟨N1,h1⟩:=h0 (e/2) (by grind)
 obtain ⟨κ0,κe⟩:=ZW (x:=e/2) (y:=32769*((K+1:Nat):Rat)) (by grind) (by have:=Vx K; grind)
 obtain ⟨N2,h2⟩:=JN κ0
 refine ⟨N0+N1+N2+K,λN hN m ha hb=>?_⟩
 have hδ:=Yo N
 have b:=qc2 fe
 have hend:gi T N+K<=gi (T+H) N:=by
  unfold gi
  have:(N+1)*1<=(N+1)*H:=Nat.mul_le_mul_left _ hH
  rw [Nat.add_mul,Nat.mul_comm H]; omega
 have key:∀ j,j<=K->y N (gi T N)-(j:Rat)*(32769*dl N)<=y N (gi T N+j)∧y N (gi T N+j)<=y N (gi T N)+(j:Rat)*(32769*dl N):=by
  intro j
  induction j with
  | zero=>intro _; constructor <;> simp <;> grind
  | succ j ih =>
   intro hj
   have q:=ih (by omega)
   have g:=h N (by omega) (gi T N+j) (by omega) (by omega)
   dsimp only at g
   have m1:=Zu (show -32769<=f N (gi T N+j) by grind) (Rat.le_of_lt hδ); have m2:=Zu (show f N (gi T N+j)<=32769 by grind) (Rat.le_of_lt hδ)
   rw [<- Nat.add_assoc,ode]
   constructor <;> grind
 obtain ⟨j,rfl⟩:∃ j,m=gi T N+j:=⟨m-gi T N,by omega⟩
 have hjK:j<=K:=by dsimp only at hb; omega
 have q:=key j hjK
 have s:=h1 N (by omega) (gi T N) (Nat.le_refl _) (Nat.le_refl _)
 have hd:=h2 N (by omega)
 have c1:(j:Rat)<=((K+1:Nat):Rat):=Rat.natCast_le_natCast.2 (by omega)
 have m1:=Zu c1 (show 0<=32769*dl N by grind)
 have m2:=Zu hd (show 0<=32769*((K+1:Nat):Rat) by have:=Vx K; grind)
 dsimp only at s ⊢
 generalize e/2/(32769*((K+1:Nat):Rat))=κ at *
 generalize ((K+1:Nat):Rat)=c at *
 constructor <;> grind
end
end Go.Proofs.YtpmgpcklieincaaGreatDoor
set_option maxRecDepth 10000
set_option linter.unusedVariables false
set_option linter.unusedSimpArgs false
namespace Go.Proofs.YtpmgpcklieincaaGreatDoor
open Go Go.Sx
theorem qh3 (g:Nat->Rat):∀ M:Nat,∃ B:Rat,∀ i,i<=M -> -B<=g i∧g i<=B
  | 0=>by
    obtain ⟨B,_,h,_⟩:=qb1 (g 0) 0 0 0
    exact ⟨B, fun i hi => by obtain rfl : i = 0 := by omega
                             exact h⟩
  | M+1=>by
    obtain ⟨B,hB⟩:=qh3 g M
    obtain ⟨C,_,h,k,_⟩:=qb1 (g (M+1)) B 0 0
    refine ⟨C,λi hi=>?_⟩
    by_cases e:i=M+1
    · subst e; exact h
    · have:=hB i (by omega); constructor <;> grind
theorem qeC {d:Rat}(hd:0<d){a K M m:Nat}{y:Nat->Rat}(hK:K<=M)(hm:m<=M):y (a+m)=hn d ((m:Rat)*d) (λj=>dd d y j a) (rmd d y a K m) K 0:=by
  obtain ⟨B,hB⟩:=qh3 (λi=>dd d y K (a+i)) M
  rw [<- qeB]
  exact (qfB hd (λi hi=>hB i (by omega)) hK hm).2
def HS (K:Nat)(l:Nat->qb)(r p I:qb):Prop:=∀ (F:Vd (Nat×Nat)) (s R d:Nat×Nat->Rat) (c:Nat->Nat×Nat->Rat),(∀ j,j<K->NI F (c j) (l j))->NI F R r->(∀ j,j<K->NI F (λw=>s w-(j:Rat)*d w) p)->NI F (λw=>hn (d w) (s w) (λj=>c j w) (R w) K 0) I
section
variable {T H:Nat} {y:Nat->Nat->Rat}
theorem qdw {K:Nat}(hH:1<=H){N:Nat}(h:K<=N):gi T N+K<=gi (T+H) N:=by
  unfold gi
  have:(N+1)*1<=(N+1)*H:=Nat.mul_le_mul_left _ hH
  rw [Nat.add_mul,Nat.mul_comm H]; omega
theorem qfH (hH:1<=H){K:Nat}{r:qb}(hr:Ok r)(h:Sq (gi T) (gi (T+H)) y K r):NI (W (gi T) (gi (T+H)) 0) (λw=>rmd (dl w.1) (y w.1) (gi T w.1) K (w.2-gi T w.1)) r:=by
  refine h.imp id λh e he=>?_
  obtain ⟨N0,h⟩:=h e he
  refine ⟨N0+K,λN hN m ha hb=>?_⟩
  have hs:=qdw (T:=T) hH (show K<=N by omega)
  exact (qfB (a:=gi T N) (K:=K) (M:=gi (T+H) N-gi T N) (y:=y N) (Yo N) (λi hi=>h N (by omega) (gi T N+i) (by omega) (by omega)) (by omega) (m:=m-gi T N) (by omega)).1
theorem qhm (hH:1<=H){K:Nat}{l:Nat->qb}{r p I:qb}(hr:Ok r){K0:Nat}(hl:∀ j,j<K->Sq (gi T) (λN=>gi T N+K0) y j (l j))(hK:K<=K0+1)
    (h:Sq (gi T) (gi (T+H)) y K r) {a b:Nat->Nat} (hab:∀ N,gi T N<=a N∧b N<=gi (T+H) N) (hp:∀ j:Nat,j<K->NI (W a b 0) (λw=>el T w-(j:Rat)*dl w.1) p) (hI:HS K l r p I):NI (W a b 0) (λw=>y w.1 w.2) I:=by
  have sub:∀ {q:Nat×Nat->Prop},(W (gi T) (gi (T+H)) 0).ev q->(W a b 0).ev q:=λhq=>W.sub ⟨0,λN _ m h1 h2=>by have:=hab N; omega⟩ hq
  have hR:NI (W a b 0) (λw=>rmd (dl w.1) (y w.1) (gi T w.1) K (w.2-gi T w.1)) r:=by
    have h2:=qfH hH hr h
    exact NI.via (F:=W (gi T) (gi (T+H)) 0) (f:=λw=>rmd (dl w.1) (y w.1) (gi T w.1) K (w.2-gi T w.1)) (λw=>w) (λq hq=>sub hq) h2
  have hc:∀ j,j<K->NI (W a b 0) (λw=>dd (dl w.1) (y w.1) j (gi T w.1)) (l j):=λj hj=>by
    have hu:NI (W (gi T) (λN=>gi T N+K0) j) (λw=>dd (dl w.1) (y w.1) j w.2) (l j):=(hl j hj).up j (Nat.le_refl _)
    have hv:∀ q:Nat×Nat->Prop,(W (gi T) (λN=>gi T N+K0) j).ev q->(W a b 0).ev λw=>q (w.1,gi T w.1):=λq hq=>by
      obtain ⟨N0,hq⟩:=hq
      exact ⟨N0,λN hN m _ _=>hq N hN _ (Nat.le_refl _) (Nat.add_le_add_left (by omega) _)⟩
    exact NI.via (F:=W (gi T) (λN=>gi T N+K0) j) (G:=W a b 0) (f:=λw:Nat×Nat=>dd (dl w.1) (y w.1) j w.2) (λw:Nat×Nat=>(w.1,gi T w.1)) hv hu
  have hJ:=hI (W a b 0) (el T) (λw=>rmd (dl w.1) (y w.1) (gi T w.1) K (w.2-gi T w.1)) (λw=>dl w.1) (λj w=>dd (dl w.1) (y w.1) j (gi T w.1)) hc hR hp
  refine NI.congr hJ ?_
  refine sub ⟨K,λN hN m ha hb=>?_⟩
  have hs:=qdw (T:=T) hH hN
  have e:=qeC (y:=y N) (a:=gi T N) (K:=K) (M:=gi (T+H) N-gi T N) (m:=m-gi T N) (Yo N) (by omega) (by have hb:m+0<=gi (T+H) N:=hb; omega)
  rw [show gi T N+(m-gi T N)=m by omega] at e
  have e2:((m-gi T N:Nat):Rat)*dl N=el T (N,m):=by
    have h1:(((m-gi T N)+gi T N:Nat):Rat)=((m-gi T N:Nat):Rat)+((gi T N:Nat):Rat):=Rat.natCast_add ..
    rw [show m-gi T N+gi T N=m by omega] at h1
    have h2:=qag T N
    show _=(m:Rat)*dl N-rr (T:Int)
    rw [h1,<- h2]; grind
  rw [e2] at e
  dsimp only
  exact e
theorem qbe (j:Nat){p:qb}(hp:p=⟨0,(H:Int)⟩):NI (W (gi T) (gi (T+H)) 0) (λw=>el T w-(j:Rat)*dl w.1) p:=by
  subst hp
  refine .inr λe he=>?_
  obtain ⟨c0,ce⟩:=ZW (x:=e) (y:=((j+1:Nat):Rat)) he (Vx j)
  obtain ⟨N0,h⟩:=JN c0
  refine ⟨N0,λN hN m ha hb=>?_⟩
  have p0:=qbR ha
  have p1:=qfr (T:=T) (H:=H) (N:=N) (m:=m) hb
  have hd:=h N hN; have hδ:=Yo N
  have hj:((j+1:Nat):Rat)=(j:Rat)+1:=by grind
  have hj0:(0:Rat)<=(j:Rat):=Rat.natCast_nonneg
  have m1:=Zu hd hj0
  have m2:=Rat.mul_nonneg hj0 (Rat.le_of_lt hδ)
  show rr 0-e<=el T (N,m)-(j:Rat)*dl N∧el T (N,m)-(j:Rat)*dl N<=rr (H:Int)+e
  rw [J6]
  rw [hj] at ce m1
  generalize e/((j:Rat)+1)=z at *
  constructor <;> grind
theorem qgH (j:Nat){p:qb}(hp:p=⟨(H:Int),(H:Int)⟩):NI (W (gi (T+H)) (gi (T+H)) 0) (λw=>el T w-(j:Rat)*dl w.1) p:=by
  subst hp
  refine .inr λe he=>?_
  obtain ⟨c0,ce⟩:=ZW (x:=e) (y:=((j+1:Nat):Rat)) he (Vx j)
  obtain ⟨N0,h⟩:=JN c0
  refine ⟨N0,λN hN m ha hb=>?_⟩
  obtain rfl:m=gi (T+H) N:=by omega
  have p0:=qfJ T H N
  have hd:=h N hN; have hδ:=Yo N
  have hj:((j+1:Nat):Rat)=(j:Rat)+1:=by grind
  have hj0:(0:Rat)<=(j:Rat):=Rat.natCast_nonneg
  have m1:=Zu hd hj0
  have m2:=Rat.mul_nonneg hj0 (Rat.le_of_lt hδ)
  show rr (H:Int)-e<=el T (N,gi (T+H) N)-(j:Rat)*dl N∧el T (N,gi (T+H) N)-(j:Rat)*dl N<=rr (H:Int)+e
  rw [p0]
  rw [hj] at ce m1
  generalize e/((j:Rat)+1)=z at *
  constructor <;> grind
theorem qbl {a b:Nat->Nat}(hab:∀ N,gi T N<=a N∧b N<=gi (T+H) N){p:qb}(hp:p=⟨(T:Int),((T+H:Nat):Int)⟩):NI (W a b 0) (λw=>(w.2:Rat)*dl w.1) p:=by
  subst hp
  refine .inr λe he=>⟨0,λN _ m ha hb=>?_⟩
  have h1:=qag T N; have h2:=qag (T+H) N
  have:=hab N
  have m1:=Zu (Rat.natCast_le_natCast.2 (show gi T N<=m by omega)) (Rat.le_of_lt (Yo N))
  have m2:=Zu (Rat.natCast_le_natCast.2 (show m<=gi (T+H) N by omega)) (Rat.le_of_lt (Yo N))
  show rr (T:Int)-e<=(m:Rat)*dl N∧(m:Rat)*dl N<=rr ((T+H:Nat):Int)+e
  constructor <;> grind
theorem qdg (K:Nat){p:qb}(hp:p=⟨(T:Int),(T:Int)⟩):NI (W (gi T) (λN=>gi T N+K) 0) (λw=>(w.2:Rat)*dl w.1) p:=by
  subst hp
  refine .inr λe he=>?_
  obtain ⟨c0,ce⟩:=ZW (x:=e) (y:=((K+1:Nat):Rat)) he (Vx K)
  obtain ⟨N0,h⟩:=JN c0
  refine ⟨N0,λN hN m ha hb=>?_⟩
  have h1:=qag T N
  have hd:=h N hN; have hδ:=Rat.le_of_lt (Yo N)
  have m1:=Zu (Rat.natCast_le_natCast.2 (show gi T N<=m by omega)) hδ
  have m2:=Zu (Rat.natCast_le_natCast.2 (show m<=gi T N+(K+1) from by have hb:m+0<=gi T N+K:=hb; omega)) hδ
  have e1:((gi T N+(K+1):Nat):Rat)=((gi T N:Nat):Rat)+((K+1:Nat):Rat):=Rat.natCast_add ..
  have m3:=Zu hd (Rat.le_of_lt (Vx K))
  rw [e1] at m2
  show rr (T:Int)-e<=(m:Rat)*dl N∧(m:Rat)*dl N<=rr (T:Int)+e
  generalize ((K+1:Nat):Rat)=k at *
  generalize e/k=z at *
  constructor <;> grind
end
end Go.Proofs.YtpmgpcklieincaaGreatDoor
set_option maxRecDepth 10000
set_option linter.unusedVariables false
set_option linter.unusedSimpArgs false
namespace Go.Proofs.YtpmgpcklieincaaGreatDoor
open Go Go.Sx
def Bp (n i:Nat)(S:Nat->qb->Prop)(x:List qb):Prop:=x.length=n ∧ ∀ k y,x[k]?=some y->Ok y∧(k<i->S k y)
abbrev Bs (n:Nat)(S:Nat->qb->Prop)(x:List qb):Prop:=Bp n n S x
section
variable {n i:Nat} {S S':Nat->qb->Prop} {x:List qb}
theorem Bp.at (h:Bp n i S x){k:Int}(h0:0<=k)(h1:k<(n:Int)):∃ r,x[k.toNat]?=some r∧Ok r∧(k<(i:Int)->S k.toNat r):=by
 have hlt:k.toNat<x.length:=by have:=h.1; omega
 have h2:=h.2 k.toNat _ (List.getElem?_eq_getElem hlt)
 exact ⟨x[k.toNat],List.getElem?_eq_getElem hlt,h2.1,λh3=>h2.2 (by omega)⟩
theorem Bp.atS (h:Bs n S x){k:Int}(h0:0<=k)(h1:k<(n:Int)):∃ r,x[k.toNat]?=some r∧Ok r∧S k.toNat r:=by
 obtain ⟨r,a,b,c⟩:=h.at h0 h1
 exact ⟨r,a,b,c h1⟩
theorem Bp.put (h:Bp n i S x)(hi:i<n){y:qb}(hy:Ok y)(hS:S i y):Bp n (i+1) S (x.set i y):=by
 refine ⟨by rw [List.length_set]; exact h.1,λk z hz=>?_⟩
 rw [List.getElem?_set] at hz
 by_cases e:i=k
 ·subst e
  rw [if_pos rfl,if_pos (by rw [h.1]; exact hi)] at hz
  obtain rfl:=Option.some.inj hz
  exact ⟨hy,λ_=>hS⟩
 ·rw [if_neg e] at hz
  have:=h.2 k z hz
  exact ⟨this.1,λh3=>this.2 (by omega)⟩
theorem Bp.zero (n:Nat)(S:Nat->qb->Prop):Bp n 0 S (List.replicate n (⟨0,0⟩:qb)) :=
 ⟨by simp,λk y hy=>⟨by rw [List.eq_of_mem_replicate (List.mem_of_getElem? hy)]; exact W9,λh=>by omega⟩⟩
theorem Bp.imp (h:Bp n i S x)(hi:∀ k y,k<i->x[k]?=some y->S k y->S' k y):Bp n i S' x:=⟨h.1,λk y hy=>⟨(h.2 k y hy).1,λh3=>hi k y h3 hy ((h.2 k y hy).2 h3)⟩⟩
theorem Bp.app (h:Bs n S x){y:qb}(hy:Ok y)(hS:S n y):Bs (n+1) S (x++[y]):=by
 refine ⟨by rw [List.length_append,h.1]; rfl,λk z hz=>?_⟩
 rw [List.getElem?_append] at hz
 split at hz
 ·next hk =>
  have:=h.2 k z hz
  exact ⟨this.1,λ_=>this.2 (by rw [h.1] at hk; exact hk)⟩
 ·next hk =>
  have hk2:k=n:=by
   have:=(List.getElem?_eq_some_iff.1 hz).1
   simp only [List.length_singleton] at this
   rw [h.1] at this hk; omega
  subst hk2
  rw [h.1,Nat.sub_self] at hz
  obtain rfl:=Option.some.inj hz
  exact ⟨hy,λ_=>hS⟩
theorem Bp.nil:Bs 0 S []:=⟨rfl,λk y hy=>by cases hy⟩
theorem Bp.lt (h:Bp n i S x){k:Nat}{y:qb}(hy:x[k]?=some y):k<n:=by have:=(List.getElem?_eq_some_iff.1 hy).1; rw [h.1] at this; exact this
end
abbrev S0:Nat->qb->Prop:=λ_ _=>True
def Rs (S:Nat->Nat->qb->Prop)(p q i L:Nat)(rows:List (List qb)):Prop:=rows.length=L ∧ ∀ (m:Nat) (r:List qb),rows[m]?=some r->Bs (if m<i then p else q) (S m) r
section
variable {S:Nat->Nat->qb->Prop} {p q i L:Nat} {rows:List (List qb)}
theorem Rs.lo (h:Rs S p q i L rows){A:Int}(h0:0<=A)(h1:A<(i:Int))(hi:i<=L):(0<=A∧A<(rows.length:Int)) ∧ ∃ r,rows[A.toNat]?=some r∧Bs p (S A.toNat) r:=by
 have hl:=h.1
 refine ⟨by omega,rows[A.toNat]'(by omega),List.getElem?_eq_getElem _,?_⟩
 have:=h.2 A.toNat _ (List.getElem?_eq_getElem (by omega))
 rwa [if_pos (by omega)] at this
theorem Rs.own (h:Rs S p q i L rows)(hi:i<L):(0<=(i:Int)∧(i:Int)<(rows.length:Int)) ∧ ∃ r,rows[((i:Int)).toNat]?=some r∧Bs q (S i) r:=by
 have hl:=h.1
 refine ⟨by omega,rows[i]'(by omega),by rw [Int.toNat_natCast]; exact List.getElem?_eq_getElem _,?_⟩
 have:=h.2 i _ (List.getElem?_eq_getElem (by omega))
 rwa [if_neg (by omega)] at this
theorem Rs.put (h:Rs S p q i L rows){r:List qb}(hr:Bs p (S i) r):Rs S p q (i+1) L (rows.set i r):=by
 refine ⟨by rw [List.length_set]; exact h.1,λm s hs=>?_⟩
 rw [List.getElem?_set] at hs
 by_cases hm:i=m
 ·subst hm
  rw [if_pos rfl] at hs
  split at hs
  ·obtain rfl:=Option.some.inj hs
   rw [if_pos (by omega)]; exact hr
  ·cases hs
 ·rw [if_neg hm] at hs
  have:=h.2 m s hs
  by_cases h2:m<i
  ·rw [if_pos h2] at this; rw [if_pos (by omega)]; exact this
  ·rw [if_neg h2] at this; rw [if_neg (by omega)]; exact this
theorem Rs.all (h:Rs S p q L L rows)(q':Nat):Rs S q' p 0 L rows:=by
 refine ⟨h.1,λm s hs=>?_⟩
 have:=h.2 m s hs
 rw [if_pos (by have:=(List.getElem?_eq_some_iff.1 hs).1; have:=h.1; omega)] at this
 rw [if_neg (by omega)]; exact this
theorem Rs.nil (S:Nat->Nat->qb->Prop)(p L:Nat):Rs S p 0 0 L (List.replicate L ([]:List qb)):=by
 refine ⟨by simp,λm s hs=>?_⟩
 have:=List.eq_of_mem_replicate (List.mem_of_getElem? hs)
 subst this
 exact Bp.nil
theorem Rs.any (h:Rs S p q 0 L rows){A:Int}(h0:0<=A)(h1:A<(L:Int)):(0<=A∧A<(rows.length:Int)) ∧ ∃ r,rows[A.toNat]?=some r∧Bs q (S A.toNat) r:=by
 have hl:=h.1
 refine ⟨by omega,rows[A.toNat]'(by omega),List.getElem?_eq_getElem _,?_⟩
 have:=h.2 A.toNat _ (List.getElem?_eq_getElem (by omega))
 rwa [if_neg (by omega)] at this
end
end Go.Proofs.YtpmgpcklieincaaGreatDoor
set_option maxRecDepth 10000
set_option linter.unusedVariables false
set_option linter.unusedSimpArgs false
namespace Go.Proofs.YtpmgpcklieincaaGreatDoor
open Go Go.Sx
def Fit (n:Nat)(i:Nat)(x:qh):Prop :=
 (x.Op=1∧Ok x.C)∨(x.Op=2∧0<=x.A∧x.A<(n:Int))∨x.Op=3∨((4<=x.Op∧x.Op<=6)∧0<=x.A∧x.A<(i:Int))∨((7<=x.Op∧x.Op<=10)∧(0<=x.A∧x.A<(i:Int))∧0<=x.B∧x.B<(i:Int))
structure Wt (c:QE) (n:Nat):Prop where
 pos:1<=n∧n<=3
 N:c.N=(n:Int)
 O:c.Out.length=n
 L:c.L.length<=400
 out:∀ o ∈ c.Out,0<=o∧o<(c.L.length:Int)
 fit:∀ (i:Nat) (x:qh),c.L[i]?=some x->Fit n i x
theorem Wt.bef {c:QE}{n:Nat}(h:Wt c n):∀ j x,c.L[j]?=some x->Bef j x:=λj x hx=>by
 have:=h.fit j x hx
 unfold Fit at this
 constructor <;> intro <;> omega
theorem qg4 {c:QE}{i:Nat}{o:Int}(h:c.Out[i]?=some o):oi c i=o.toNat:=by unfold oi; rw [List.getD_eq_getElem?_getD,h]; rfl
section
variable {c:QE} {n:Nat} {y v:Nat->Nat->Nat->Rat} {b:List qb} {t:qb}
def VE (y v:Nat->Nat->Nat->Rat)(b:List qb)(t:qb)(j:Nat)(I:qb):Prop :=
 ∀ F:Vd (Nat×Nat),Wc F->(∀ i B,b[i]?=some B->NI F (λw=>y w.1 i w.2) B)->NI F (λw=>(w.2:Rat)*dl w.1) t->NI F (λw=>v w.1 j w.2) I
theorem qgu {a:qb}(h:Ok a):Ev (λk _=>Jj k a) (λr=>Ok r ∧ ∀ {ι:Type} (F:Vd ι) (f q t:ι->Rat),NI F f a->(∀ i,Rt (t i) (f i) (q i))->Yy F t 0 0->NI F q r):=by
 unfold Jj
 refine Ev.C (λhc=>Ev.X (v:=Zd) rfl (Ev.S ⟨.inl rfl,λ_ _ _ _ _ _ _=>.ent⟩)) λhc=>?_
 have h0:0<=a.Lo:=by simpa using hc
 exact Ev.B (qd2 h) λq hq=>Ev.S ⟨hq.1,hq.2 h0⟩
theorem qfC (h:Wt c n)(T:Tr c y v)(hb:Bs n S0 b)(ht:Ok t){s:List qb}(hs:Bp c.L.length 0 (VE y v b t) s) :
  Ev (λk j=>Xb.l29 k c b t j s 0) (Bs c.L.length (VE y v b t)):=by
 refine Ev.loop (λk j s i=>Xb.l29 k c b t j s i) c.L.length (λi s=>Bp c.L.length i (VE y v b t) s) ?_ ?_ hs
 ·intro i hi s hs next
  refine Ev.N (λk j=>by rw [Xb.l29]) ?_
  refine Ev.T (dT (by omega)) ?_
  refine Ev.B (Q:=Bp c.L.length (i+1) (VE y v b t)) ?_ λs' hs'=>?_
  ·refine Ev.T ⟨by omega,by omega⟩ ?_
   rw [Int.toNat_natCast]
   have hg:c.L[i]?=some c.L[i]:=List.getElem?_eq_getElem hi
   have hf:=h.fit i _ hg
   have val:=λN m=>T.val N m i _ hg
   generalize c.L[i]=x at hg hf val
   refine Ev.X hg (Ev.V ?_)
   have own:∃ r,s[i]?=some r∧True:=⟨s[i]'(by rw [hs.1]; exact hi),List.getElem?_eq_getElem _,trivial⟩
   have hsl:0<=(i:Int)∧(i:Int)<(s.length:Int):=by rw [hs.1]; omega
   have fin:∀ {r:qb},Ok r->VE y v b t i r->Ev (λ_ _=>if 0<=(i:Int)∧(i:Int)<(s.length:Int) then (s[i]?).bind λ_=>some (s.set i r) else none) (Bp c.L.length (i+1) (VE y v b t)):=λhr hv=>Ev.T hsl (Ev.O own λ_ _=>Ev.S (hs.put hi hr hv))
   have arg:∀ {A:Int},0<=A->A<(i:Int) -> ∃ r,s[A.toNat]?=some r∧Ok r∧VE y v b t A.toNat r:=λh0 h1=>by
    obtain ⟨r,e1,e2,e3⟩:=hs.at h0 (by omega)
    exact ⟨r,e1,e2,e3 h1⟩
   rcases hf with ⟨ho,hc⟩ | ⟨ho,h1,h2⟩ | ho | ⟨ho,h1,h2⟩ | ⟨ho,⟨h1,h2⟩,h3,h4⟩
   ·rw [ho]
    refine Ev.F (by decide) (Ev.T rfl (fin hc λF _ _ _=>?_))
    rcases hc with hc | hc
    ·exact .inl hc
    ·exact (NI.point (r:=rr x.C.Lo) Rat.le_refl (Jz hc)).eq λw=>(val w.1 w.2).num ho
   ·rw [ho]
    obtain ⟨r,e1,e2,_⟩:=hb.atS h1 h2
    exact Ev.F (by decide) (Ev.F (by decide) (Ev.T rfl (Ev.T ⟨h1,by rw [hb.1]; exact h2⟩ (Ev.X e1 (fin e2 λF _ hB _=>(hB _ r e1).eq λw=>(val w.1 w.2).var ho)))))
   ·rw [ho]
    exact Ev.F (by decide) (Ev.F (by decide) (Ev.F (by decide) (Ev.T rfl (fin ht λF _ _ h=>h.eq λw=>(val w.1 w.2).time ho))))
   ·have hA:0<=x.A∧x.A<(s.length:Int):=by rw [hs.1]; omega
    have gA:=arg h1 h2
    have:x.Op=4∨x.Op=5∨x.Op=6:=by omega
    rcases this with ho | ho | ho <;> rw [ho]
    ·refine Ev.F (by decide) (Ev.F (by decide) (Ev.F (by decide) (Ev.F (by decide) (Ev.T rfl ?_))))
     exact Ev.T hA (Ev.O gA λr hr=>Ev.O (qg3 hr.1) λq hq=>fin hq.1 λF i1 i2 i3=>(hq.2 F _ (hr.2 F i1 i2 i3)).eq λw=>(val w.1 w.2).neg ho)
    ·refine Ev.F (by decide) (Ev.F (by decide) (Ev.F (by decide) (Ev.F (by decide) (Ev.F (by decide) (Ev.T rfl ?_)))))
     exact Ev.T hA (Ev.O gA λr hr=>Ev.O (qhX hr.1) λq hq=>fin hq.1 λF i1 i2 i3=>(hq.2 F _ (hr.2 F i1 i2 i3)).eq λw=>(val w.1 w.2).sqr ho)
    ·refine Ev.F (by decide) (Ev.F (by decide) (Ev.F (by decide) (Ev.F (by decide) (Ev.F (by decide) (Ev.F (by decide) (Ev.T rfl ?_))))))
     exact Ev.T hA (Ev.O gA λr hr=>Ev.B (qgu hr.1) λq hq=>fin hq.1 λF i1 i2 i3=>hq.2 F _ _ _ (hr.2 F i1 i2 i3) (λw=>(val w.1 w.2).root ho) i1.tau)
   ·have hA:0<=x.A∧x.A<(s.length:Int):=by rw [hs.1]; omega
    have gA:=arg h1 h2
    have hB:0<=x.B∧x.B<(s.length:Int):=by rw [hs.1]; omega
    have gB:=arg h3 h4
    have:x.Op=7∨x.Op=8∨x.Op=9∨x.Op=10:=by omega
    rcases this with ho | ho | ho | ho <;> rw [ho]
    ·refine Ev.F (by decide) (Ev.F (by decide) (Ev.F (by decide) (Ev.F (by decide) (Ev.F (by decide) (Ev.F (by decide) (Ev.F (by decide) (Ev.T rfl ?_)))))))
     exact Ev.T hA (Ev.O gA λr hr=>Ev.T hB (Ev.O gB λp hp=>Ev.O (qbA hr.1 hp.1) λq hq=>fin hq.1 λF i1 i2 i3=>(hq.2 F _ _ (hr.2 F i1 i2 i3) (hp.2 F i1 i2 i3)).eq λw=>(val w.1 w.2).add ho))
    ·refine Ev.F (by decide) (Ev.F (by decide) (Ev.F (by decide) (Ev.F (by decide) (Ev.F (by decide) (Ev.F (by decide) (Ev.F (by decide) (Ev.F (by decide) (Ev.T rfl ?_))))))))
     exact Ev.T hA (Ev.O gA λr hr=>Ev.T hB (Ev.O gB λp hp=>Ev.O (qec hr.1 hp.1) λq hq=>fin hq.1 λF i1 i2 i3=>(hq.2 F _ _ (hr.2 F i1 i2 i3) (hp.2 F i1 i2 i3)).eq λw=>(val w.1 w.2).sub ho))
    ·refine Ev.F (by decide) (Ev.F (by decide) (Ev.F (by decide) (Ev.F (by decide) (Ev.F (by decide) (Ev.F (by decide) (Ev.F (by decide) (Ev.F (by decide) (Ev.F (by decide) (Ev.T rfl ?_)))))))))
     exact Ev.T hA (Ev.O gA λr hr=>Ev.T hB (Ev.O gB λp hp=>Ev.O (qcF hr.1 hp.1) λq hq=>fin hq.1 λF i1 i2 i3=>(hq.2 F _ _ (hr.2 F i1 i2 i3) (hp.2 F i1 i2 i3)).eq λw=>(val w.1 w.2).mul ho))
    ·refine Ev.F (by decide) (Ev.F (by decide) (Ev.F (by decide) (Ev.F (by decide) (Ev.F (by decide) (Ev.F (by decide) (Ev.F (by decide) (Ev.F (by decide) (Ev.F (by decide) (Ev.F (by decide) (Ev.T rfl ?_))))))))))
     exact Ev.T hA (Ev.O gA λr hr=>Ev.T hB (Ev.O gB λp hp=>Ev.O (qdQ hr.1 hp.1) λq hq=>fin hq.1 λF i1 i2 i3=>(hq.2.1 F _ _ (hr.2 F i1 i2 i3) (hp.2 F i1 i2 i3)).eq λw=>(val w.1 w.2).div ho))
  ·rw [wi hi (by have:=h.L; omega)]
   exact next s' hs'
 ·intro s hs
  refine Ev.N (λk j=>by rw [Xb.l29]) ?_
  exact Ev.F (dF (by omega)) (Ev.S hs)
theorem qgI (h:Wt c n)(T:Tr c y v)(hb:Bs n S0 b)(ht:Ok t):Ev (λk _=>Xb k c b t) (Bs n λi=>VE y v b t (oi c i)):=by
 unfold Xb
 refine Ev.T (by have:=h.L; omega) ?_
 refine Ev.B (Q:=Bs c.L.length (VE y v b t)) (Ev.D (f:=λk j=>Xb.l29 k c b t j _ 0) (qfC h T hb ht (by rw [Int.toNat_natCast]; exact Bp.zero _ _))) λs hs=>?_
 refine Ev.T (by have:=h.O; have:=h.pos; omega) ?_
 refine Ev.B (Q:=Bs n λi=>VE y v b t (oi c i)) (Ev.D (f:=λk j=>Xb.l14 k c b t s j _ 0) ?_) λr hr=>Ev.S hr
 refine Ev.loop (λk j x i=>Xb.l14 k c b t s j x i) n (λi x=>Bp n i (λi=>VE y v b t (oi c i)) x) ?_ ?_ (by rw [Int.toNat_natCast,h.O]; exact Bp.zero _ _)
 ·intro i hi x hx next
  refine Ev.N (λk j=>by rw [Xb.l14]) ?_
  have hin:0<=(i:Int)∧(i:Int)<(c.Out.length:Int):=by rw [h.O]; omega
  obtain ⟨o,ho,hom⟩:=qci hin
  refine Ev.T (dT hin.2) (Ev.T hin (Ev.X ho ?_))
  have h1:=h.out o hom
  rw [Int.toNat_natCast] at ho
  have hoi:=qg4 ho
  refine Ev.T (by rw [hs.1]; exact h1) (Ev.O (hs.atS h1.1 h1.2) λr hr=>?_)
  refine Ev.T (by rw [hx.1]; omega) (Ev.O (hx.at (k:=(i:Int)) (by omega) (by omega)) λ_ _=>?_)
  rw [wi hi (by have:=h.pos; omega),Int.toNat_natCast]
  exact next _ (hx.put hi hr.1 (by rw [hoi]; exact hr.2))
 ·intro x hx
  refine Ev.N (λk j=>by rw [Xb.l14]) ?_
  exact Ev.F (dF (by rw [h.O]; omega)) (Ev.S hx)
end
end Go.Proofs.YtpmgpcklieincaaGreatDoor
set_option maxRecDepth 10000
set_option linter.unusedVariables false
set_option linter.unusedSimpArgs false
namespace Go.Proofs.YtpmgpcklieincaaGreatDoor
open Go Go.Sx
theorem qam {a b q:qb}(ha:Ok a)(hb:Ok b)(hq:Ok q):∃ r,XA a b q=some r∧Ok r∧(r≠Zd->a≠Zd∧b≠Zd) ∧ ∀ {ι:Type} (F:Vd ι) (f g s:ι->Rat),NI F f a->NI F g b->NI F s q->NI F (λi=>f i+s i*g i) r:=by
 obtain ⟨m,h1,h2,h5⟩:=qcF hq hb
 obtain ⟨s,h3,h4,h6⟩:=qbA ha h2
 refine ⟨s,by unfold XA; rw [h1,Option.bind_some,h3,Option.bind_some],h4,λhs=>⟨λe=>hs ?_,λe=>hs ?_⟩,λF f g t i1 i2 i3=>h6 F _ _ i1 (h5 F _ _ i3 i2)⟩
 ·rw [e,qaS] at h3; exact (Option.some.inj h3).symm
 ·rw [e,qcE] at h1
  obtain rfl:=Option.some.inj h1
  rw [qaI] at h3; exact (Option.some.inj h3).symm
section
variable {n:Nat} {a b d x:List qb} {q t:qb} {S S':Nat->qb->Prop} {c:QE} {y v:Nat->Nat->Nat->Rat}
theorem Bp.el (h:Bp n n S a){i:Nat}(hi:i<n):∃ r,a[((i:Int)).toNat]?=some r∧a[i]?=some r∧Ok r∧S i r:=by
 obtain ⟨r,h1,h2,h3⟩:=h.atS (k:=(i:Int)) (by omega) (by omega)
 rw [Int.toNat_natCast] at h3
 exact ⟨r,h1,by rw [Int.toNat_natCast] at h1; exact h1,h2,h3⟩
theorem Bp.any {i:Nat}(h:Bp n i S a)(hi:i<n):∃ r,a[((i:Int)).toNat]?=some r∧True:=by
 obtain ⟨r,h1,_,_⟩:=h.at (k:=(i:Int)) (by omega) (by omega)
 exact ⟨r,h1,trivial⟩
def Zp (a b:List qb)(q:qb)(i:Nat)(D:qb):Prop:=∃ A B,a[i]?=some A∧b[i]?=some B∧XA A B q=some D
theorem qhe (hn:n<=3)(ha:Bs n S a)(hb:Bs n S' b)(hq:Ok q):Ev (λk _=>Qc k a b q) (Bs n (Zp a b q)):=by
 unfold Qc
 refine Ev.T (by rw [ha.1]; omega) ?_
 refine Ev.B (Q:=Bs n (Zp a b q)) (Ev.D (f:=λk j=>Qc.l10 k a b q j _ 0) ?_) λr hr=>Ev.S hr
 refine Ev.loop (λk j x i=>Qc.l10 k a b q j x i) n (λi x=>Bp n i (Zp a b q) x) ?_ ?_ (by rw [Int.toNat_natCast,ha.1]; exact Bp.zero _ _)
 ·intro i hi x hx next
  refine Ev.N (λk j=>by rw [Qc.l10]) ?_
  obtain ⟨r,r1,r2,r3,_⟩:=ha.el hi
  obtain ⟨p,p1,p2,p3,_⟩:=hb.el hi
  obtain ⟨s,s1,s2,_⟩:=qam r3 p3 hq
  refine Ev.T (dT (by rw [ha.1]; omega)) (Ev.T (by rw [ha.1]; omega) (Ev.X r1 (Ev.T (by rw [hb.1]; omega) (Ev.X p1 (Ev.X s1 (Ev.T (by rw [hx.1]; omega) (Ev.O (hx.any hi) λ_ _=>?_)))))))
  rw [wi hi (by omega),Int.toNat_natCast]
  exact next _ (hx.put hi s2 ⟨r,p,r2,p2,s1⟩)
 ·intro x hx
  refine Ev.N (λk j=>by rw [Qc.l10]) ?_
  exact Ev.F (dF (by rw [ha.1]; omega)) (Ev.S hx)
def Hl (a:List qb)(i:Nat)(D:qb):Prop:=∃ A,a[i]?=some A∧D.Lo<=A.Lo∧A.Hi<=D.Hi
theorem qct (hn:n<=3)(ha:Bs n S a)(hb:Bs n S' b):Ev (λk _=>qX k a b) (Bs n (Hl a)):=by
 unfold qX
 refine Ev.T (by rw [ha.1]; omega) ?_
 refine Ev.B (Q:=Bs n (Hl a)) (Ev.D (f:=λk j=>qX.l10 k a b j _ 0) ?_) λr hr=>Ev.S hr
 refine Ev.loop (λk j x i=>qX.l10 k a b j x i) n (λi x=>Bp n i (Hl a) x) ?_ ?_ (by rw [Int.toNat_natCast,ha.1]; exact Bp.zero _ _)
 ·intro i hi x hx next
  refine Ev.N (λk j=>by rw [qX.l10]) ?_
  obtain ⟨r,r1,r2,r3,_⟩:=ha.el hi
  obtain ⟨p,p1,p2,p3,_⟩:=hb.el hi
  refine Ev.T (dT (by rw [ha.1]; omega)) (Ev.T (by rw [ha.1]; omega) (Ev.X r1 (Ev.T (by rw [hb.1]; omega) (Ev.X p1 (Ev.X rfl (Ev.T (by rw [hx.1]; omega) (Ev.O (hx.any hi) λ_ _=>?_)))))))
  rw [wi hi (by omega),Int.toNat_natCast]
  exact next _ (hx.put hi (qgL r3 p3) ⟨r,r2,(mnl _ _).1,(mxl _ _).1⟩)
 ·intro x hx
  refine Ev.N (λk j=>by rw [qX.l10]) ?_
  exact Ev.F (dF (by rw [ha.1]; omega)) (Ev.S hx)
def Ig (y v:Nat->Nat->Nat->Rat)(c:QE)(a b:List qb)(t q:qb)(i:Nat)(D:qb):Prop:=∃ A E,a[i]?=some A∧Ok E∧VE y v b t (oi c i) E∧XA A E q=some D
theorem qcJ (h:Wt c n)(T:Tr c y v)(ha:Bs n S a)(hb:Bs n S' b)(s:Q0)(hH:0<=s.H)(hT:s.T<=qc (s.T+s.H)):Ev (λk _=>YT k c a b s) (Bs n (Ig y v c a b (nw s.T (qc (s.T+s.H))) (nw 0 s.H))):=by
 unfold YT
 refine Ev.X (JI _ _) (Ev.X (JI _ _) (Ev.B (qgI h T (hb.imp λ_ _ _ _ _=>trivial) (V3 hT)) λr hr=>Ev.B (qhe h.pos.2 ha hr (V3 hH)) λq hq=>Ev.S (hq.imp λk D hk hD g=>?_)))
 obtain ⟨A,B,g1,g2,g3⟩:=g
 have:=hr.2 k B g2
 exact ⟨A,B,g1,this.1,this.2 hk,g3⟩
theorem qcL {a:qb}(h:Ok a):Ys a=some (a.Hi-a.Lo):=by
 unfold Ys
 have:=h.b
 rw [Zy (by omega) (by omega)]
theorem qfs {a:qb}(h:Ok a):∃ r,qD (qc (a.Lo-(qc ((qc (Int.tdiv (a.Hi-a.Lo) 16))+1)))) (qc (a.Hi+(qc ((qc (Int.tdiv (a.Hi-a.Lo) 16))+1))))=some r∧Ok r∧(r≠Zd->r.Lo+1<=a.Lo∧a.Hi+1<=r.Hi):=by
 have hb:=h.b
 have h1:Int.tdiv (a.Hi-a.Lo) 16=(a.Hi-a.Lo)/16:=Int.tdiv_eq_ediv_of_nonneg (by omega)
 rw [h1]
 generalize hd:(a.Hi-a.Lo)/16=d
 have h2:0<=d∧d<=4294967296:=by omega
 rw [Zy (x:=d) (by omega) (by omega),Zy (x:=d+1) (by omega) (by omega),Zy (by omega) (by omega),Zy (by omega) (by omega),JI]
 refine ⟨_,rfl,V3 (by omega),λhr=>?_⟩
 rcases qeZ (a.Lo-(d+1)) (a.Hi+(d+1)) (by omega) with e | e
 ·exact absurd e.1 hr
 ·rw [e.1]; dsimp only; omega
def If (a:List qb)(i:Nat)(D:qb):Prop:=∃ A,a[i]?=some A∧(D≠Zd->D.Lo+1<=A.Lo∧A.Hi+1<=D.Hi)
theorem qcY (hn:n<=3)(ha:Bs n S a):Ev (λk _=>Q4 k a) (Bs n (If a)):=by
 unfold Q4
 refine Ev.T (by rw [ha.1]; omega) ?_
 refine Ev.B (Q:=Bs n (If a)) (Ev.D (f:=λk j=>Q4.l10 k a j _ 0) ?_) λr hr=>Ev.S hr
 refine Ev.loop (λk j x i=>Q4.l10 k a j x i) n (λi x=>Bp n i (If a) x) ?_ ?_ (by rw [Int.toNat_natCast,ha.1]; exact Bp.zero _ _)
 ·intro i hi x hx next
  refine Ev.N (λk j=>by rw [Q4.l10]) ?_
  obtain ⟨r,r1,r2,r3,_⟩:=ha.el hi
  obtain ⟨s,s1,s2,s3⟩:=qfs r3
  refine Ev.T (dT (by rw [ha.1]; omega)) (Ev.T (by rw [ha.1]; omega) (Ev.X r1 (Ev.X (qcL r3) (Ev.X s1 (Ev.T (by rw [hx.1]; omega) (Ev.O (hx.any hi) λ_ _=>?_))))))
  rw [wi hi (by omega),Int.toNat_natCast]
  exact next _ (hx.put hi s2 ⟨r,r2,s3⟩)
 ·intro x hx
  refine Ev.N (λk j=>by rw [Q4.l10]) ?_
  exact Ev.F (dF (by rw [ha.1]; omega)) (Ev.S hx)
def Bnd (a:List qb):Prop:=∀ (i:Nat) A,a[i]?=some A->A≠Zd
theorem WX (hn:n<=3)(ha:a.length<=n):Ev (λk _=>Q9 k a) (λr=>r=false->Bnd a):=by
 unfold Q9
 refine Ev.B (Q:=λr=>r<0->Bnd a) ?_ λr hr=>Ev.S λh=>hr (by simpa using h)
 unfold Qt
 refine Ev.B (Q:=λr=>(∃ z,r = .inl z∧0<=z)∨Bnd a) (Ev.D (f:=λk j=>Qt.l6 k a j 0) ?_) λr hr=>?_
 ·refine Ev.loop (λk j (_:Unit) i=>Qt.l6 k a j i) a.length (λm _=>∀ (i:Nat) A,i<m->a[i]?=some A->A≠Zd) ?_ ?_ (s:=()) λi A hi=>by omega
  ·intro i hi x hx next
   refine Ev.N (λk j=>by rw [Qt.l6]) ?_
   have hg:a[((i:Int)).toNat]?=some a[i]:=by rw [Int.toNat_natCast]; exact List.getElem?_eq_getElem hi
   refine Ev.T (dT (by omega)) (Ev.T (by omega) (Ev.X hg (Ev.X qaB (Ev.C (λ_=>Ev.S (.inl ⟨_,rfl,by omega⟩)) λhc=>?_))))
   rw [wi hi (by omega)]
   refine next () λm A hm hA=>?_
   by_cases e:m=i
   ·subst e
    rw [List.getElem?_eq_getElem hi] at hA
    obtain rfl:=Option.some.inj hA
    simpa using hc
   ·exact hx m A (by omega) hA
  ·intro x hx
   refine Ev.N (λk j=>by rw [Qt.l6]) ?_
   exact Ev.F (dF (by omega)) (Ev.S (.inr λi A hA=>hx i A (List.getElem?_eq_some_iff.1 hA).1 hA))
 ·rcases hr with ⟨z,rfl,hz⟩ | hr
  ·exact Ev.S λh=>by omega
  ·cases r with
   | inl r=>exact Ev.S λ_=>hr
   | inr r=>exact Ev.S λ_=>hr
theorem Wa (hn:n<=3)(ha:Bs n S a):Ev (λk _=>XI k a) (λr=>r=true->Bnd a):=by
 unfold XI
 exact Ev.B (WX hn (by rw [ha.1]; exact Nat.le_refl _)) λr hr=>Ev.S λh=>hr (by simpa using h)
theorem qfV (hn:n<=3)(ha:Bs n S a)(hb:Bs n S' b):Ev (λk _=>Xe k a b) (λl=>∀ (i:Nat) A B,a[i]?=some A->b[i]?=some B->(A,B) ∈ l):=by
 unfold Xe
 have key:∀ r i:Nat,i+r=n->Ev (λk j=>Xe.l3 k a b j (i:Int)) (λl=>∀ (m:Nat) A B,i<=m->a[m]?=some A->b[m]?=some B->(A,B) ∈ l):=by
  intro r
  induction r with
  | zero =>
   intro i hi
   refine Ev.N (λk j=>by rw [Xe.l3]) ?_
   exact Ev.F (dF (by rw [ha.1]; omega)) (Ev.S λm A B hm hA _=>by have:=ha.lt hA; omega)
  | succ r ih =>
   intro i hi
   refine Ev.N (λk j=>by rw [Xe.l3]) ?_
   obtain ⟨r,r1,r2,_,_⟩:=ha.el (show i<n by omega)
   obtain ⟨p,p1,p2,_,_⟩:=hb.el (show i<n by omega)
   refine Ev.T (dT (by rw [ha.1]; omega)) (Ev.T (by rw [ha.1]; omega) (Ev.X r1 (Ev.T (by rw [hb.1]; omega) (Ev.X p1 ?_))))
   rw [wi (show i<n by omega) (by omega)]
   refine Ev.B (ih (i+1) (by omega)) λl hl=>Ev.S λm A B hm hA hB=>?_
   by_cases e:m=i
   ·subst e
    rw [r2] at hA; rw [p2] at hB
    obtain rfl:=Option.some.inj hA
    obtain rfl:=Option.some.inj hB
    exact List.mem_cons_self ..
   ·exact List.mem_cons_of_mem _ (hl m A B (by omega) hA hB)
 exact (Ev.D (f:=λk j=>Xe.l3 k a b j 0) (key n 0 (by omega))).I λl hl m A B=>hl m A B (by omega)
theorem qbE (k:Nat)(a b:List qb):∀ l:List (qb×qb),∃ r,XH.l5 k a b l=some r∧(r=true -> ∀ z ∈ l,z.2.Lo<=z.1.Lo∧z.1.Hi<=z.2.Hi)
 | []=>⟨_,rfl,λ_ z hz=>by cases hz⟩
 | x :: l=>by
  obtain ⟨r,h1,h2⟩:=qbE k a b l
  rw [XH.l5,qeM,Option.bind_some]
  by_cases h:(!decide ((⟨x.2.Lo,x.2.Hi⟩:qb).Lo<=(⟨x.1.Lo,x.1.Hi⟩:qb).Lo∧(⟨x.1.Lo,x.1.Hi⟩:qb).Hi<=(⟨x.2.Lo,x.2.Hi⟩:qb).Hi))=true
  ·rw [if_pos h]; exact ⟨_,rfl,λh=>by cases h⟩
  ·rw [if_neg h]
   refine ⟨r,h1,λhr z hz=>?_⟩
   rcases List.mem_cons.1 hz with rfl | hz
   ·simpa using h
   ·exact h2 hr z hz
theorem qf6 (a b:List qb)(k k':Nat):∀ (l:List (qb×qb)),XH.l5 k a b l=XH.l5 k' a b l:=by
 intro l
 induction l with
 | nil=>rfl
 | cons x l ih=>rw [XH.l5,XH.l5,ih]
theorem qgr (hn:n<=3)(ha:Bs n S a)(hb:Bs n S' b):Ev (λk _=>XH k a b) (λr=>r=true -> ∀ (i:Nat) A B,a[i]?=some A->b[i]?=some B->B.Lo<=A.Lo∧A.Hi<=B.Hi):=by
 unfold XH
 refine Ev.B (qfV hn ha hb) λl hl=>?_
 obtain ⟨r,hr,h2⟩:=qbE 0 a b l
 exact Ev.L (r:=r) 0 (λh i A B hA hB=>h2 h _ (hl i A B hA hB)) λk j _=>by rw [qf6 a b k 0,hr]
def Cd (y v:Nat->Nat->Nat->Rat)(c:QE)(n:Nat)(x:List qb)(t q:qb)(z:List qb×List qb):Prop :=
 Bs n (λi B=>B≠Zd ∧ ∃ X,x[i]?=some X∧B.Lo+1<=X.Lo∧X.Hi+1<=B.Hi) z.1∧Bs n (Ig y v c x z.1 t q) z.2∧Bnd z.2
theorem qf3 (h:Wt c n)(T:Tr c y v)(ha:Bs n S a)(s:Q0)(hH:0<=s.H)(hT:s.T<=qc (s.T+s.H)):Ev (λk _=>Qd k a c s) (λl=>∀ z ∈ l,Cd y v c n a (nw s.T (qc (s.T+s.H))) (nw 0 s.H) z):=by
 unfold Qd
 refine Ev.B (qcJ h T ha ha s hH hT) λt2 h2=>Ev.B (qct h.pos.2 ha h2) λt3 h3=>?_
 refine Ev.D (f:=λk j=>Qd.l7 k a c s t2 t3 j t3 0) ?_
 refine Ev.loop (λk j x i=>Qd.l7 k a c s t2 t3 j x i) 8 (λ_ x=>Bs n (Hl a) x) ?_ ?_ h3
 ·intro i hi x hx next
  have nil:∀ z ∈ ([]:List (List qb×List qb)),Cd y v c n a (nw s.T (qc (s.T+s.H))) (nw 0 s.H) z:=λz hz=>by cases hz
  refine Ev.N (λk j=>by rw [Qd.l7]) ?_
  refine Ev.T (dT (by omega)) (Ev.B (Wa h.pos.2 hx) λr _=>Ev.C (λ_=>Ev.S nil) λ_=>?_)
  refine Ev.B (qcY h.pos.2 hx) λz hz=>Ev.B (Wa h.pos.2 hz) λr hr=>Ev.C (λ_=>Ev.S nil) λhc=>?_
  have hzb:=hr (by simpa using hc)
  have hz2:Bs n (λi B=>B≠Zd ∧ ∃ X,a[i]?=some X∧B.Lo+1<=X.Lo∧X.Hi+1<=B.Hi) z:=hz.imp λk B hk hB ⟨A,g1,g2⟩=>by
   have h1:=hzb k B hB
   obtain ⟨X,x1,x2,x3⟩:=(hx.2 k A g1).2 hk
   have:=g2 h1
   exact ⟨h1,X,x1,by omega,by omega⟩
  refine Ev.B (qcJ h T ha hz s hH hT) λw hw=>Ev.B (Wa h.pos.2 hw) λr hr=>Ev.V ?_
  cases r with
  | false=>exact Ev.T rfl (Ev.S nil)
  | true =>
   refine Ev.F (by decide) (Ev.T rfl ?_)
   refine Ev.B (Q:=λl=>∀ z ∈ l,Cd y v c n a (nw s.T (qc (s.T+s.H))) (nw 0 s.H) z) (Ev.B (qct h.pos.2 hz hw) λu hu=>?_) λr hr2=>Ev.S λp hp=>?_
   ·rw [wi hi (by omega)]
    refine next u (hu.imp λk D hk hD ⟨B,g1,g2,g3⟩=>?_)
    obtain ⟨_,X,x1,x2,x3⟩:=(hz2.2 k B g1).2 hk
    exact ⟨X,x1,by omega,by omega⟩
   ·rcases List.mem_cons.1 hp with rfl | hp
    ·exact ⟨hz2,hw,hr rfl⟩
    ·exact hr2 p hp
 ·intro x hx
  refine Ev.N (λk j=>by rw [Qd.l7]) ?_
  exact Ev.F (dF (by decide)) (Ev.S λp hp=>by cases hp)
def En (y v:Nat->Nat->Nat->Rat)(c:QE)(n:Nat)(x:List qb)(t q:qb)(d:List qb):Prop :=
 ∃ b,Cd y v c n x t q (b,d) ∧ ∀ (i:Nat) D B,d[i]?=some D->b[i]?=some B->B.Lo<=D.Lo∧D.Hi<=B.Hi
theorem qgt (h:Wt c n)(T:Tr c y v)(ha:Bs n S a)(s:Q0)(hH:0<=s.H)(hT:s.T<=qc (s.T+s.H)):Ev (λk _=>QT k c a s) (λr=>r.2=true->En y v c n a (nw s.T (qc (s.T+s.H))) (nw 0 s.H) r.1):=by
 unfold QT
 refine Ev.B (qf3 h T ha s hH hT) λl hl=>?_
 induction l with
 | nil=>exact Ev.S λhc=>by cases hc
 | cons x l ih =>
  simp only [QT.l6]
  have hx:=hl x (List.mem_cons_self ..)
  refine Ev.B (qgr h.pos.2 hx.2.1 hx.1) λr hr=>Ev.C (λhc=>?_) λ_=>ih λy hy=>hl y (List.mem_cons_of_mem _ hy)
  unfold QT.l8
  exact Ev.T (by rw [hx.2.1.1]; have:=h.pos; omega) (Ev.S λ_=>⟨x.1,hx,hr hc⟩)
end
end Go.Proofs.YtpmgpcklieincaaGreatDoor
set_option maxRecDepth 10000
set_option linter.unusedVariables false
set_option linter.unusedSimpArgs false
namespace Go.Proofs.YtpmgpcklieincaaGreatDoor
open Go Go.Sx
def One:Vd Unit where
 ev p:=p ()
 all h:=h ()
 two a b h:=h () a b
theorem qgT {A:qb}{r:Rat}(h:NI One (λ_=>r) A)(hA:Y2 A):rr A.Lo<=r∧r<=rr A.Hi:=by
 have k:=h.fin hA
 constructor
 ·by_cases c:rr A.Lo<=r
  ·exact c
  ·have:=(k ((rr A.Lo-r)/2) (by grind)).1; grind
 ·by_cases c:r<=rr A.Hi
  ·exact c
  ·have:=(k ((r-rr A.Hi)/2) (by grind)).2; grind
theorem Ok.finOf {A:qb}(h:Ok A)(hn:A≠Zd):Y2 A:=h.elim (λe=>absurd e hn) id
theorem qgp {F:Vd (Nat×Nat)}{T H:Nat}(h:F.ev λw=>gi T w.1<=w.2∧w.2<=gi (T+H) w.1):NI F (λw=>(w.2:Rat)*dl w.1) ⟨(T:Int),((T+H:Nat):Int)⟩:=.inr λe he=>F.mono h λw hw=>by
 have h1:=qag T w.1; have h2:=qag (T+H) w.1
 have m1:=Zu (Rat.natCast_le_natCast.2 hw.1) (Rat.le_of_lt (Yo w.1))
 have m2:=Zu (Rat.natCast_le_natCast.2 hw.2) (Rat.le_of_lt (Yo w.1))
 show rr (T:Int)-e<=_∧_<=rr ((T+H:Nat):Int)+e
 constructor <;> grind
theorem Bp.gd {n:Nat}{S:Nat->qb->Prop}{a:List qb}(h:Bs n S a){i:Nat}(hi:i<n):a[i]?=some (a.getD i ⟨0,0⟩)∧Ok (a.getD i ⟨0,0⟩)∧S i (a.getD i ⟨0,0⟩):=by
 obtain ⟨r,_,h2,h3,h4⟩:=h.el hi
 rw [List.getD_eq_getElem?_getD,h2]
 exact ⟨rfl,h3,h4⟩
section
variable {n T H:Nat} {c:QE} {y v:Nat->Nat->Nat->Rat} {x d:List qb} {S:Nat->qb->Prop}
theorem qek (R:Tr c y v)(hH:1<=H)(hx:Bs n S x)(h0:∀ (i:Nat) X,x[i]?=some X->NI (W (gi T) (gi T) 0) (λw=>y w.1 i w.2) X)(hq:Y2 ⟨0,(H:Int)⟩)
  (hd:En y v c n x ⟨(T:Int),((T+H:Nat):Int)⟩ ⟨0,(H:Int)⟩ d) :
  ∀ i,i<n->(∀ D,d[i]?=some D->Y2 D∧NI (W (gi T) (gi (T+H)) 0) (λw=>y w.1 i w.2) D) ∧ ∃ E,Y2 E∧NI (W (gi T) (gi (T+H)) 0) (λw=>v w.1 (oi c i) w.2) E:=by
 obtain ⟨b,⟨hb,hd1,hd2⟩,hs⟩:=hd
 have hE:∀ i,∃ E,i<n->Y2 E∧VE y v b ⟨(T:Int),((T+H:Nat):Int)⟩ (oi c i) E∧XA (x.getD i ⟨0,0⟩) E ⟨0,(H:Int)⟩=some (d.getD i ⟨0,0⟩):=λi=>by
  by_cases hi:i<n
  ·obtain ⟨e1,e2,A,E,g1,g2,g3,g4⟩:=hd1.gd hi
   obtain ⟨x1,x2,_⟩:=hx.gd hi
   rw [x1] at g1
   obtain rfl:=Option.some.inj g1
   obtain ⟨r,r1,r2,r3,_⟩:=qam x2 g2 (.inr hq)
   rw [g4] at r1
   obtain rfl:=Option.some.inj r1
   exact ⟨E,λ_=>⟨g2.finOf (r3 (hd2 i _ e1)).2,g3,g4⟩⟩
  ·exact ⟨⟨0,0⟩,λh=>absurd h hi⟩
 obtain ⟨E,hE⟩:∃ E:Nat->qb,∀ i,i<n->Y2 (E i)∧VE y v b ⟨(T:Int),((T+H:Nat):Int)⟩ (oi c i) (E i)∧XA (x.getD i ⟨0,0⟩) (E i) ⟨0,(H:Int)⟩=some (d.getD i ⟨0,0⟩):=⟨λi=>Classical.choose (hE i),λi=>Classical.choose_spec (hE i)⟩
 have fB:∀ i,i<n->Y2 (b.getD i ⟨0,0⟩)∧(b.getD i ⟨0,0⟩).Lo+1<=(x.getD i ⟨0,0⟩).Lo∧(x.getD i ⟨0,0⟩).Hi+1<=(b.getD i ⟨0,0⟩).Hi:=λi hi=>by
  obtain ⟨_,g2,g3,X,g4,g5,g6⟩:=hb.gd hi
  obtain ⟨x1,_,_⟩:=hx.gd hi
  rw [x1] at g4
  obtain rfl:=Option.some.inj g4
  exact ⟨g2.finOf g3,g5,g6⟩
 have fX:∀ i,i<n->Y2 (x.getD i ⟨0,0⟩):=λi hi=>by
  obtain ⟨_,x2,_⟩:=hx.gd hi
  obtain ⟨b1,b2,b3⟩:=fB i hi
  refine x2.finOf λe=>?_
  rw [e] at b2
  unfold Y2 at b1
  unfold Zd at b2
  dsimp only at b2
  omega
 have fD:∀ i,i<n->Y2 (d.getD i ⟨0,0⟩):=λi hi=>by
  obtain ⟨e1,e2,_⟩:=hd1.gd hi
  exact e2.finOf (hd2 i _ e1)
 -- the ends of the image lie in the box
 have ends:∀ i,i<n -> ∀ p r s:Rat,rr (x.getD i ⟨0,0⟩).Lo<=p->p<=rr (x.getD i ⟨0,0⟩).Hi->rr (E i).Lo<=r->r<=rr (E i).Hi->0<=s->s<=rr (H:Int)->rr (b.getD i ⟨0,0⟩).Lo<=p+s*r∧p+s*r<=rr (b.getD i ⟨0,0⟩).Hi:=λi hi p r s h1 h2 h3 h4 h5 h6=>by
  obtain ⟨g1,_,g3⟩:=hE i hi
  obtain ⟨D,d1,d2,d3,d4⟩:=qam (.inr (fX i hi)) (.inr g1) (.inr hq)
  rw [g3] at d1
  obtain rfl:=Option.some.inj d1
  have k:=qgT (d4 One (λ_=>p) (λ_=>r) (λ_=>s) (.point h1 h2) (.point h3 h4) (.point (by show rr 0<=s; rw [J6]; exact h5) h6)) (fD i hi)
  have:=hs i _ _ (hd1.gd hi).1 (hb.gd hi).1
  have m1:=Jy this.1; have m2:=Jy this.2
  constructor <;> grind
 have hp:0<=rr (H:Int):=by have:=Jy (show 0<=(H:Int) by omega); rwa [J6] at this
 have near:=qcs (n:=n) hH (y:=y) (f:=λN i m=>v N (oi c i) m) R.ode (X:=λi=>x.getD i ⟨0,0⟩) (B:=λi=>b.getD i ⟨0,0⟩) (E:=E) fX (λi hi=>(fB i hi).1) (λi hi=>(hE i hi).1) (λi hi=>h0 i _ (hx.gd hi).1) (λi hi=>(fB i hi).2.1) (λi hi=>(fB i hi).2.2)
  (λF hF hw hi i hin=>(hE i hin).2.1 F hi (λj B hB=>by
   have hj:=hb.lt hB
   have e:=(hb.gd hj).1
   rw [hB] at e
   obtain rfl:=Option.some.inj e
   exact hF j hj) (qgp hw))
  (λi hi=>(ends i hi _ _ _ (Jz (fX i hi)) Rat.le_refl (Jz (hE i hi).1) Rat.le_refl hp Rat.le_refl).2)
  (λi hi=>(ends i hi _ _ _ Rat.le_refl (Jz (fX i hi)) Rat.le_refl (Jz (hE i hi).1) hp Rat.le_refl).1)
 have nearE:∀ i,i<n->NI (W (gi T) (gi (T+H)) 0) (λw=>v w.1 (oi c i) w.2) (E i):=λi hi=>(hE i hi).2.1 _ (W.inf _ _ _) (λj B hB=>by
  have hj:=hb.lt hB
  have e:=(hb.gd hj).1
  rw [hB] at e
  obtain rfl:=Option.some.inj e
  exact near j hj) (qbl (λN=>⟨Nat.le_refl _,Nat.le_refl _⟩) rfl)
 intro i hi
 refine ⟨λD hD=>?_,E i,(hE i hi).1,nearE i hi⟩
 have eD:=(hd1.gd hi).1
 rw [hD] at eD
 obtain rfl:=Option.some.inj eD
 refine ⟨fD i hi,?_⟩
 obtain ⟨g,g1,g2⟩:=qfO (T:=T) (H:=H) (y:=λN m=>y N i m) (f:=λN m=>v N (oi c i) m) (λN m=>R.ode N i m) (hE i hi).1 (nearE i hi)
 obtain ⟨r,r1,r2,r3,r4⟩:=qam (.inr (fX i hi)) (.inr (hE i hi).1) (.inr hq)
 rw [(hE i hi).2.2] at r1
 obtain rfl:=Option.some.inj r1
 have hx0:NI (W (gi T) (gi (T+H)) 0) (λw=>y w.1 i (gi T w.1)) (x.getD i ⟨0,0⟩):=NI.via (F:=W (gi T) (gi T) 0) (G:=W (gi T) (gi (T+H)) 0) (f:=λw:Nat×Nat=>y w.1 i w.2) (λw:Nat×Nat=>(w.1,gi T w.1)) (λp ⟨N0,hp⟩=>⟨N0,λN hN m _ _=>hp N hN _ (Nat.le_refl _) (Nat.le_refl _)⟩) (h0 i _ (hx.gd hi).1)
 have hs0:NI (W (gi T) (gi (T+H)) 0) (el T) ⟨0,(H:Int)⟩:=(qbe (T:=T) (H:=H) 0 rfl).eq λw=>by
  have:((0:Nat):Rat)=0:=rfl
  rw [this]; grind
 exact (r4 _ _ _ _ hx0 g1 hs0).congr g2
end
end Go.Proofs.YtpmgpcklieincaaGreatDoor
set_option maxRecDepth 10000
set_option linter.unusedVariables false
set_option linter.unusedSimpArgs false
namespace Go.Proofs.YtpmgpcklieincaaGreatDoor
open Go Go.Sx
section
variable {ι:Type} {F:Vd ι} {SA SB SC:Nat->qb->Prop} {t1 t2:Nat->ι->Rat} {a b c:List qb}
theorem qdv {p q:Nat}(ha:Bs p SA a)(hb:Bs q SB b){lo n m:Nat}(hn:lo<=n)(hn3:n<=1000)(hm:m<=1000)(hx:∀ i,lo<=i->i<n->i<p∧i<=m∧m-i<q)
    (h1:∀ i I,lo<=i->i<n->SA i I->NI F (t1 i) I) (h2:∀ i I,lo<=i->i<n->SB (m-i) I->NI F (t2 i) I) :
    Ev (λk _=>qG k a b (lo:Int) ((n:Int)-1) (m:Int)) (λr=>Ok r∧NI F (λw=>sm (λj=>t1 (lo+j) w*t2 (lo+j) w) (n-lo)) r):=by
  unfold qG
  refine Ev.X (v:=(⟨0,0⟩:qb)) rfl ?_
  refine Ev.B (Q:=λr:Int×Int=>Ok ⟨r.1,r.2⟩∧NI F (λw=>sm (λj=>t1 (lo+j) w*t2 (lo+j) w) (n-lo)) ⟨r.1,r.2⟩) (Ev.D (f:=λk j=>qG.l12 k a b (lo:Int) ((n:Int)-1) (m:Int) ⟨0,0⟩ j 0 0 (lo:Int)) ?_) λr hr=>Ev.S hr
  refine Ev.from (λk j (s:Int×Int) i=>qG.l12 k a b (lo:Int) ((n:Int)-1) (m:Int) ⟨0,0⟩ j s.1 s.2 i) n (λi s=>lo<=i∧Ok ⟨s.1,s.2⟩∧NI F (λw=>sm (λj=>t1 (lo+j) w*t2 (lo+j) w) (i-lo)) ⟨s.1,s.2⟩) ?_ ?_ (s:=(0,0)) hn ⟨Nat.le_refl _,W9,by rw [Nat.sub_self]; exact ni0⟩
  · intro i hi s hs next
    obtain ⟨g1,g2,g3⟩:=hx i hs.1 hi
    obtain ⟨u,u1,_,u2,u3⟩:=ha.el g1
    obtain ⟨z,z1,_,z2,z3⟩:=hb.el g3
    obtain ⟨w,w1,w2,w3⟩:=qcF u2 z2
    have hw:=w3 F _ _ (h1 i u hs.1 hi u3) (h2 i z hs.1 hi z3)
    refine Ev.N (λk j=>by rw [qG.l12]) ?_
    refine Ev.T (dT (by omega)) (Ev.T (by rw [ha.1]; omega) (Ev.X u1 ?_))
    have e:qc ((m:Int)-(i:Int))=((m-i:Nat):Int):=by rw [Zy (by omega) (by omega)]; omega
    rw [e]
    refine Ev.T (by rw [hb.1]; omega) (Ev.X z1 (Ev.X w1 ?_))
    have en:i+1-lo=(i-lo)+1:=by have:=hs.1; omega
    have ei:lo+(i-lo)=i:=by have:=hs.1; omega
    refine Ev.B (Q:=λr:Int×Int=>Ok ⟨r.1,r.2⟩∧NI F (λw=>sm (λj=>t1 (lo+j) w*t2 (lo+j) w) (i+1-lo)) ⟨r.1,r.2⟩) (Ev.C (λ_=>Ev.O (qbA hs.2.1 w2) λz hz=>Ev.S ⟨hz.1,?_⟩) λhc=>Ev.S ⟨w2,?_⟩) λr hr=>?_
    · refine (hz.2 F _ _ hs.2.2 hw).eq λw=>?_
      rw [en,sm,ei]
    · have : i = lo := by have := hs.1; have : ¬ ((i : Int) > (lo : Int)) := by simpa using hc
                          omega
      subst this
      refine hw.eq λw=>?_
      rw [en,sm,Nat.sub_self,sm,Nat.add_zero,Rat.zero_add]
    · rw [wi hi (by omega)]
      exact next r ⟨by omega,hr⟩
  · intro s hs
    refine Ev.N (λk j=>by rw [qG.l12]) ?_
    exact Ev.F (dF (by omega)) (Ev.S hs.2)
def Nz (S:qb->Prop):Prop:=∀ {κ:Type} (G:Vd κ) (g:κ->Rat),(∀ I,S I->NI G g I)->G.ev λw=>g w≠0
theorem qgy {k:Nat}(hk:k<=10)(ha:Bs (k+1) SA a)(hb:Bs (k+1) SB b)(hc:Bs k SC c){f g:ι->Rat}(hf:∀ I,SA k I->NI F f I)(hg:∀ I,SB 0 I->NI F g I)
    (h1:∀ i I,1<=i->i<k+1->SB i I->NI F (t1 i) I) (h2:∀ i I,1<=i->i<k+1->SC (k-i) I->NI F (t2 i) I) :
    Ev (λf _=>Qw f a b c) (λr=>Ok r∧NI F (λw=>(f w-sm (λj=>t1 (1+j) w*t2 (1+j) w) k)/g w) r∧(r=Zd∨Nz (SB 0))):=by
  unfold Qw
  have hcl:=hc.1
  obtain ⟨u,u1,_,u2,u3⟩:=ha.el (show k<k+1 by omega)
  obtain ⟨z,z1,_,z2,z3⟩:=hb.el (show 0<k+1 by omega)
  refine Ev.C (λh0=>?_) λh0=>?_
  · have hk0:k=0:=by rw [hcl] at h0; simpa using h0
    subst hk0
    refine Ev.T (by rw [ha.1]; omega) (Ev.X u1 (Ev.T (by rw [hb.1]; omega) (Ev.X z1 (Ev.O (qdQ u2 z2) λr hr=>Ev.S ⟨hr.1,?_,?_⟩))))
    · refine (hr.2.1 F _ _ (hf u u3) (hg z z3)).eq λw=>?_
      rw [sm]; congr 1; grind
    · exact hr.2.2.imp id λh κ G g hg=>h G g (hg z z3)
  · have hk0:k≠0:=λe=>h0 (by rw [hcl,e]; rfl)
    refine Ev.B (Q:=λr:Int×Int=>Ok ⟨r.1,r.2⟩∧NI F (λw=>sm (λj=>t1 (1+j) w*t2 (1+j) w) (k+1-1)) ⟨r.1,r.2⟩) (Ev.D (f:=λf j=>Qw.l29 f a b c j 0 0 1) ?_) λr hr=>?_
    · refine Ev.from (λf j (s:Int×Int) i=>Qw.l29 f a b c j s.1 s.2 i) (k+1) (λi s=>1<=i∧Ok ⟨s.1,s.2⟩∧NI F (λw=>sm (λj=>t1 (1+j) w*t2 (1+j) w) (i-1)) ⟨s.1,s.2⟩) ?_ ?_ (s:=(0,0)) (m:=1) (by omega) ⟨Nat.le_refl _,W9,by rw [Nat.sub_self]; exact ni0⟩
      · intro i hi s hs next
        have g1:=hs.1
        obtain ⟨p,p1,_,p2,p3⟩:=hb.el hi
        obtain ⟨q,q1,_,q2,q3⟩:=hc.el (show k-i<k by omega)
        obtain ⟨w,w1,w2,w3⟩:=qcF p2 q2
        have hw:=w3 F _ _ (h1 i p g1 hi p3) (h2 i q g1 hi q3)
        refine Ev.N (λk j=>by rw [Qw.l29]) ?_
        refine Ev.T (dT (by omega)) (Ev.T (by rw [hb.1]; omega) (Ev.X p1 ?_))
        have e:qc ((c.length:Int)-(i:Int))=((k-i:Nat):Int):=by rw [Zy (by omega) (by omega)]; omega
        rw [e]
        refine Ev.T (by omega) (Ev.X q1 (Ev.X w1 ?_))
        have en:i+1-1=(i-1)+1:=by omega
        have ei:1+(i-1)=i:=by omega
        refine Ev.B (Q:=λr:Int×Int=>Ok ⟨r.1,r.2⟩∧NI F (λw=>sm (λj=>t1 (1+j) w*t2 (1+j) w) (i+1-1)) ⟨r.1,r.2⟩) (Ev.C (λ_=>Ev.O (qbA hs.2.1 w2) λz hz=>Ev.S ⟨hz.1,?_⟩) λhc=>Ev.S ⟨w2,?_⟩) λr hr=>?_
        · refine (hz.2 F _ _ hs.2.2 hw).eq λw=>?_
          rw [en,sm,ei]
        · have : i = 1 := by have : ¬ ((i : Int) > 1) := by simpa using hc
                             omega
          subst this
          refine hw.eq λw=>?_
          rw [en,sm,Nat.sub_self,sm,Nat.add_zero,Rat.zero_add]
        · rw [wi hi (by omega)]
          exact next r ⟨by omega,hr⟩
      · intro s hs
        refine Ev.N (λk j=>by rw [Qw.l29]) ?_
        exact Ev.F (dF (by omega)) (Ev.S hs.2)
    · rw [Nat.add_sub_cancel] at hr
      rw [<- hcl] at u1
      refine Ev.T (by rw [ha.1]; omega) (Ev.X u1 (Ev.O (qec u2 hr.1) λy hy=>Ev.T (by rw [hb.1]; omega) (Ev.X z1 (Ev.O (qdQ hy.1 z2) λo ho=>Ev.S ⟨ho.1,?_,?_⟩))))
      · exact ho.2.1 F _ _ (hy.2 F _ _ (hf u u3) hr.2) (hg z z3)
      · exact ho.2.2.imp id λh κ G g hg=>h G g (hg z z3)
theorem NI.avg {f g:ι->Rat}{A:qb}(h:NI F f A)(k:NI F g A):NI F (λw=>(f w+g w)/2) A:=by
  rcases h with h | h
  · exact .inl h
  · rcases k with k | k
    · exact .inl k
    · exact .inr λe he=>F.two (h e he) (k e he) λi h1 h2=>by constructor <;> grind
theorem qel (ha:Bs 1 SA a){f q t:ι->Rat}(hf:∀ I,SA 0 I->NI F f I)(hq:∀ i,Rt (t i) (f i) (q i))(ht:Yy F t 0 0):Ev (λf _=>Yd f a []) (λr=>Ok r∧NI F q r):=by
  unfold Yd
  obtain ⟨u,u1,_,u2,u3⟩:=ha.el (show 0<1 by omega)
  refine Ev.T (by rfl) (Ev.T (by rw [ha.1]; omega) (Ev.X u1 (Ev.B (qd2 u2) λr hr=>Ev.T (by rw [ha.1]; omega) (Ev.X u1 (Ev.C (λhc=>Ev.S ⟨hr.1,?_⟩) λ_=>Ev.X (v:=Zd) rfl (Ev.S ⟨.inl rfl,.ent⟩))))))
  exact hr.2 (by simpa using hc) F f q t (hf u u3) hq ht
theorem qfg {k:Nat}(hk:k+1<=10)(ha:Bs (k+2) SA a)(hc:Bs (k+1) SC c){u1 u2:ι->Rat}(hu1:∀ I,SC 0 I->NI F u1 I)(hu2:∀ I,SC 0 I->NI F u2 I)
    (h1:∀ i I,1<=i->i<k+1->SC i I->NI F (t1 i) I) (h2:∀ i I,1<=i->i<k+1->SC (k+1-i) I->NI F (t2 i) I) :
    Ev (λf _=>Yd f a c) (λr=>Ok r∧(∃ B,SA (k+1) B ∧ ∀ f,NI F f B->NI F (λw=>(f w-sm (λj=>t1 (1+j) w*t2 (1+j) w) k)/((u1 w+u2 w)/2*2/1)) r)∧(r=Zd ∨ ∀ {κ:Type} (G:Vd κ) (g:κ->Rat),(∀ I,SC 0 I->NI G g I)->G.ev λw=>g w*2/1≠0)):=by
  unfold Yd
  have hcl:=hc.1
  obtain ⟨u,e1,_,e2,e3⟩:=ha.el (show k+1<k+2 by omega)
  obtain ⟨z,z1,_,z2,z3⟩:=hc.el (show 0<k+1 by omega)
  refine Ev.F (by rw [hcl]; simp; omega) ?_
  have q1:qc ((c.length:Int)-1)=((k+1:Nat):Int)-1:=by rw [hcl,Zy (by omega) (by omega)]
  rw [q1,hcl]
  refine Ev.B (qdv (F:=F) (t1:=t1) (t2:=t2) hc hc (lo:=1) (n:=k+1) (m:=k+1) (by omega) (by omega) (by omega) (λi h1 h2=>⟨h2,by omega,by omega⟩) h1 h2) λw hw=>?_
  rw [Nat.add_sub_cancel] at hw
  obtain ⟨d,d1,d2,d3⟩:=qdX z2 (p:=2) (d:=1) (by omega) (by omega)
  have two:((2:Int):Rat)=2∧((1:Int):Rat)=1:=⟨rfl,rfl⟩
  rw [two.1,two.2] at d3
  refine Ev.T (by rw [ha.1]; omega) (Ev.X e1 (Ev.O (qec e2 hw.1) λy hy=>Ev.T (by omega) (Ev.X z1 (Ev.X d1 (Ev.O (qdQ hy.1 d2) λo ho=>Ev.S ⟨ho.1,⟨u,e3,λf hf=>?_⟩,?_⟩)))))
  · exact ho.2.1 F _ _ (hy.2 F _ _ hf hw.2) (d3 F _ ((hu1 z z3).avg (hu2 z z3)))
  · exact ho.2.2.imp id λh κ G g hg=>h G _ (d3 G _ (hg z z3))
end
section
variable {n k i L:Nat} {c:QE} {y v:Nat->Nat->Nat->Rat} {a b:Nat->Nat} {rows:List (List qb)} {own:List qb} {t:qb}
abbrev Si (v:Nat->Nat->Nat->Rat)(a b:Nat->Nat)(j k:Nat)(I:qb):Prop:=Sq a b (λN=>v N j) k I
theorem qge (hk:k<=4)(hi:i<L)(T:Tr c y v){x:qh}(hg:c.L[i]?=some x)(hx:Fit n i x)(h2:x.Op≠2)(hr:Rs (Si v a b) (k+1) k i L rows)(ho:Bs k (Si v a b i) own)(ht:Ok t)(hT:NI (W a b 0) (λw=>(w.2:Rat)*dl w.1) t) :
    Ev (λf _=>X5 f x rows own t) (λr=>Ok r∧Si v a b i k r):=by
  unfold X5
  have hol:=ho.1
  have mulh:∀ {A B:Nat} {r s:List qb},Bs (k+1) (Si v a b A) r->Bs (k+1) (Si v a b B) s->Ev (λf _=>qG f r s 0 (k:Int) (k:Int)) (λz=>Ok z∧NI (W a b k) (λw=>sm (λi=>tm (λN=>v N A) (λN=>v N B) k (0+i) w) (k+1-0)) z):=fun {A B r s} hr hs=>by
    have:=qdv (F:=W a b k) (t1:=λi w=>D (λN=>v N A) i w) (t2:=λi w=>dd (dl w.1) (v w.1 B) (k-i) (w.2+i)) hr hs (lo:=0) (n:=k+1) (m:=k) (by omega) (by omega) (by omega) (λi _ h2=>⟨h2,by omega,by omega⟩)
      (λi I _ h h1=>h1.up k (by omega)) (λi I _ h h1=>h1.at i k (by omega))
    rwa [show (((k+1:Nat):Int)-1)=(k:Int) by omega] at this
  rcases hx with ⟨hop,hc⟩ | ⟨hop,h3,h4⟩ | hop | ⟨hop,h3,h4⟩ | ⟨hop,⟨h3,h4⟩,h5,h6⟩
  · rw [hop]
    refine Ev.F (by decide) (Ev.F (by decide) (Ev.F (by decide) (Ev.F (by decide) (Ev.F (by decide) (Ev.F (by decide) (Ev.F (by decide) ?_))))))
    refine Ev.B (Q:=λr:Int×Int=>Ok ⟨r.1,r.2⟩∧Si v a b i k ⟨r.1,r.2⟩) (Ev.C (λhc0=>Ev.S ⟨hc,?_⟩) λhc0=>Ev.F (by simp) (Ev.F (by simp) (Ev.S ⟨W9,?_⟩))) λr hr=>Ev.X rfl (Ev.S hr)
    · have:k=0:=by rw [hol] at hc0; simpa using hc0
      subst this
      exact T.num0 hg hop hc
    · have:k≠0:=λe=>hc0 (by rw [hol,e]; rfl)
      obtain ⟨k,rfl⟩:∃ m,k=m+1:=⟨k-1,by omega⟩
      exact T.numk hg hop
  · exact absurd hop h2
  · rw [hop]
    refine Ev.F (by decide) (Ev.F (by decide) (Ev.F (by decide) (Ev.F (by decide) (Ev.F (by decide) (Ev.F (by decide) (Ev.F (by decide) ?_))))))
    refine Ev.B (Q:=λr:Int×Int=>Ok ⟨r.1,r.2⟩∧Si v a b i k ⟨r.1,r.2⟩) (Ev.F (by simp) (Ev.C (λhc0=>Ev.S ⟨ht,?_⟩) λhc0=>Ev.C (λhc1=>?_) λhc1=>Ev.S ⟨W9,?_⟩)) λr hr=>Ev.X rfl (Ev.S hr)
    · have:k=0:=by rw [hol] at hc0; simpa using hc0
      subst this
      exact T.time0 hg hop hT
    · have:k=1:=by rw [hol] at hc1; simp at hc1; omega
      subst this
      exact Ev.X (v:=(⟨65536,65536⟩:qb)) rfl (Ev.S ⟨.inr (by unfold Y2; simp),T.time1 hg hop⟩)
    · have h0:k≠0:=λe=>hc0 (by rw [hol,e]; rfl)
      have h1:k≠1:=λe=>hc1 (by rw [hol,e]; rfl)
      obtain ⟨k,rfl⟩:∃ m,k=m+2:=⟨k-2,by omega⟩
      exact T.timek hg hop
  · obtain ⟨hA,r,r1,r2⟩:=hr.lo h3 h4 (by omega)
    have:x.Op=4∨x.Op=5∨x.Op=6:=by omega
    obtain ⟨u,u1,_,u2,u3⟩:=r2.el (show k<k+1 by omega)
    rw [<- hol] at u1
    rcases this with hop | hop | hop <;> rw [hop]
    · exact Ev.T rfl (Ev.T hA (Ev.X r1 (Ev.T (by rw [r2.1]; omega) (Ev.X u1 (Ev.O (qg3 u2) λz hz=>Ev.S ⟨hz.1,T.negq hg hop (hz.2 _ _ u3)⟩)))))
    · refine Ev.F (by decide) (Ev.F (by decide) (Ev.F (by decide) (Ev.F (by decide) (Ev.T rfl ?_))))
      refine Ev.C (λhc0=>?_) λ_=>?_
      · have:k=0:=by rw [hol] at hc0; simpa using hc0
        subst this
        rw [hol] at u1
        exact Ev.T hA (Ev.X r1 (Ev.T (by rw [r2.1]; omega) (Ev.X u1 (Ev.O (qhX u2) λz hz=>Ev.S ⟨hz.1,T.sqr0 hg hop (hz.2 _ _ u3)⟩))))
      · refine Ev.T hA (Ev.X r1 (Ev.T hA (Ev.X r1 ?_)))
        rw [hol]
        exact Ev.B (mulh r2 r2) λz hz=>Ev.S ⟨hz.1,T.sqrq hg hop hz.2⟩
    · refine Ev.F (by decide) (Ev.F (by decide) (Ev.F (by decide) (Ev.F (by decide) (Ev.F (by decide) (Ev.F (by decide) (Ev.T rfl ?_))))))
      refine Ev.T hA (Ev.X r1 ?_)
      cases k with
      | zero =>
        obtain rfl:own=[]:=List.length_eq_zero_iff.1 hol
        exact Ev.B (qel (F:=W a b 0) (q:=λw=>v w.1 i w.2) (t:=λw=>tau w.1) (f:=λw=>v w.1 x.A.toNat w.2) r2 (λI h=>h) (λw=>T.rt hg hop w.1 w.2) (W.inf a b 0).tau) λz hz=>Ev.S hz
      | succ k =>
        refine Ev.B (qfg (F:=W a b (k+1)) (t1:=λj w=>D (λN=>v N i) j w) (t2:=λj w=>dd (dl w.1) (v w.1 i) (k+1-j) (w.2+j)) (u1:=λw=>v w.1 i w.2) (u2:=λw=>v w.1 i (w.2+(k+1))) (by omega) r2 ho
          (λI h=>h.up (k+1) (by omega)) (λI h=>h.at (k+1) (k+1) (by omega)) (λj I h1 h h2=>h2.up (k+1) (by omega)) (λj I h1 h h2=>h2.at j (k+1) (by omega))) λz hz=>Ev.S ⟨hz.1,?_⟩
        obtain ⟨_,⟨B,hB,hz2⟩,hz3⟩:=hz
        refine T.rootk hg hk hop hB hz2 (hz3.imp id λh=>⟨h (W a b 0) (λw=>v w.1 i w.2) λI hI=>hI,?_⟩)
        exact h (W a b (k+1)) (λw=>(v w.1 i w.2+v w.1 i (w.2+(k+1)))/2) λI hI=>NI.avg (hI.up (k+1) (by omega)) (hI.at (k+1) (k+1) (by omega))
  · obtain ⟨hA,r,r1,r2⟩:=hr.lo h3 h4 (by omega)
    obtain ⟨hB,s,s1,s2⟩:=hr.lo h5 h6 (by omega)
    obtain ⟨u,u1,_,u2,u3⟩:=r2.el (show k<k+1 by omega)
    obtain ⟨z,z1,_,z2,z3⟩:=s2.el (show k<k+1 by omega)
    rw [<- hol] at u1 z1
    have:x.Op=7∨x.Op=8∨x.Op=9∨x.Op=10:=by omega
    rcases this with hop | hop | hop | hop <;> rw [hop]
    · refine Ev.F (by decide) (Ev.T rfl ?_)
      exact Ev.T hA (Ev.X r1 (Ev.T (by rw [r2.1]; omega) (Ev.X u1 (Ev.T hB (Ev.X s1 (Ev.T (by rw [s2.1]; omega) (Ev.X z1 (Ev.O (qbA u2 z2) λo ho=>Ev.S ⟨ho.1,T.addq hg hop (ho.2 _ _ _ u3 z3)⟩))))))))
    · refine Ev.F (by decide) (Ev.F (by decide) (Ev.T rfl ?_))
      exact Ev.T hA (Ev.X r1 (Ev.T (by rw [r2.1]; omega) (Ev.X u1 (Ev.T hB (Ev.X s1 (Ev.T (by rw [s2.1]; omega) (Ev.X z1 (Ev.O (qec u2 z2) λo ho=>Ev.S ⟨ho.1,T.subq hg hop (ho.2 _ _ _ u3 z3)⟩))))))))
    · refine Ev.F (by decide) (Ev.F (by decide) (Ev.F (by decide) (Ev.T rfl ?_)))
      refine Ev.T hA (Ev.X r1 (Ev.T hB (Ev.X s1 ?_)))
      rw [hol]
      exact Ev.B (mulh r2 s2) λo ho=>Ev.S ⟨ho.1,T.mulq hg hop ho.2⟩
    · refine Ev.F (by decide) (Ev.F (by decide) (Ev.F (by decide) (Ev.F (by decide) (Ev.F (by decide) (Ev.T rfl ?_)))))
      refine Ev.T hA (Ev.X r1 (Ev.T hB (Ev.X s1 ?_)))
      refine Ev.B (qgy (F:=W a b k) (t1:=λj w=>D (λN=>v N x.B.toNat) j w) (t2:=λj w=>dd (dl w.1) (v w.1 i) (k-j) (w.2+j)) (f:=D (λN=>v N x.A.toNat) k) (g:=λw=>v w.1 x.B.toNat w.2) (by omega) r2 s2 ho (λI h=>h) (λI h=>h.up k (by omega))
        (λj I h1 h h2=>h2.up k (by omega)) (λj I h1 h h2=>h2.at j k (by omega))) λo ho=>Ev.S ⟨ho.1,T.divq hg hop ho.2.1 (ho.2.2.imp id λh=>h (W a b 0) (λw=>v w.1 x.B.toNat w.2) λI h=>h)⟩
end
end Go.Proofs.YtpmgpcklieincaaGreatDoor
set_option maxRecDepth 10000
set_option linter.unusedVariables false
set_option linter.unusedSimpArgs false
namespace Go.Proofs.YtpmgpcklieincaaGreatDoor
open Go Go.Sx
section
variable {n:Nat} {c:QE} {y v:Nat->Nat->Nat->Rat} {a b:Nat->Nat} {x u d:List qb} {t p:qb} {S S':Nat->qb->Prop}
theorem qdA (h:Wt c n)(T:Tr c y v)(hb:Bs n S x)(hx:∀ i X,x[i]?=some X->NI (W a b 0) (λw=>y w.1 i w.2) X)(ht:Ok t)(hT:NI (W a b 0) (λw=>(w.2:Rat)*dl w.1) t){m:Nat}(hm:m<=4):Ev (λk _=>Xv k c x t (m:Int)) (Rs (Si y a b) 0 (m+1) 0 n):=by
 have hn:=h.pos
 have hL:=h.L
 unfold Xv
 refine Ev.B (Q:=Rs (Si y a b) 0 (m+1) 0 n) ?_ λr hr=>Ev.S hr
 unfold qo
 have hN:=h.N
 refine Ev.T (by show 0<=c.N∧c.N<1000000; omega) (Ev.T (by show 0<=(c.L.length:Int)∧(c.L.length:Int)<1000000; omega) ?_)
 show Ev (λk j=>(qo.l88 k c x t (m:Int) k (List.replicate c.N.toNat ([]:List qb)) 0).bind λj6=>(qo.l14 k c x t (m:Int) j6 k j6 (List.replicate (c.L.length:Int).toNat ([]:List qb)) 0).bind λj8=>some j8) _
 have hNn:c.N.toNat=n:=by omega
 refine Ev.B (Q:=Rs (Si y a b) 0 1 0 n) (Ev.D (f:=λk j=>qo.l88 k c x t (m:Int) j (List.replicate c.N.toNat ([]:List qb)) 0) ?_) λj6 hj6=>?_
 ·refine Ev.loop (λk j s i=>qo.l88 k c x t (m:Int) j s i) n (λi s=>Rs (Si y a b) 1 0 i n s) ?_ ?_ (by rw [hNn]; exact Rs.nil _ 1 n)
  ·intro i hi s hs next
   obtain ⟨g1,g2⟩:=hs.own hi
   obtain ⟨u,u1,u2,u3,_⟩:=hb.el hi
   refine Ev.N (λk j=>by rw [qo.l88]) ?_
   refine Ev.T (dT (by simp only [List.length_replicate]; omega)) (Ev.T (by rw [hb.1]; omega) (Ev.X u1 (Ev.T g1 (Ev.O g2 λ_ _=>?_))))
   rw [wi hi (by omega),Int.toNat_natCast]
   exact next _ (hs.put (Bp.nil.app u3 (hx i u u2)))
  ·intro s hs
   refine Ev.N (λk j=>by rw [qo.l88]) ?_
   exact Ev.F (dF (by simp only [List.length_replicate]; omega)) (Ev.S (hs.all 0))
 ·refine Ev.B (Q:=Rs (Si y a b) 0 (m+1) 0 n) (Ev.D (f:=λk j=>qo.l14 k c x t (m:Int) j6 j j6 (List.replicate (c.L.length:Int).toNat ([]:List qb)) 0) ?_) λr hr=>Ev.S hr
  refine Ev.loop (λk j (s:List (List qb)×List (List qb)) i=>qo.l14 k c x t (m:Int) j6 j s.1 s.2 i) m (λi s=>Rs (Si y a b) 0 (i+1) 0 n s.1∧Rs (Si v a b) 0 i 0 c.L.length s.2) ?_ ?_ (s:=(j6,List.replicate (c.L.length:Int).toNat ([]:List qb))) ⟨hj6,by rw [Int.toNat_natCast]; exact Rs.nil _ 0 _⟩
  ·intro i hi s hs next
   obtain ⟨o,l⟩:=s
   obtain ⟨hso,hsl⟩:=hs
   dsimp only at hso hsl
   refine Ev.N (λk j=>by rw [qo.l14]) ?_
   refine Ev.T (dT (by omega)) (Ev.B (Q:=λr:List (List qb)×List (List qb)=>Rs (Si y a b) 0 (i+1+1) 0 n r.1∧Rs (Si v a b) 0 (i+1) 0 c.L.length r.2) ?_ λr hr=>?_)
   ·refine Ev.B (Q:=Rs (Si v a b) (i+1) (i+1) 0 c.L.length) (Ev.D (f:=λk j=>qo.l50 k c x t (m:Int) j6 o l (i:Int) j l 0) ?_) λj22 h22=>?_
    ·refine Ev.loop (λk j s p=>qo.l50 k c x t (m:Int) j6 o l (i:Int) j s p) c.L.length (λp s=>Rs (Si v a b) (i+1) i p c.L.length s) ?_ ?_ ⟨hsl.1,hsl.2⟩
     ·intro p hp s hs next
      obtain ⟨g1,g2⟩:=hs.own hp
      refine Ev.N (λk j=>by rw [qo.l50]) ?_
      refine Ev.T (dT (by omega)) (Ev.B (Q:=Rs (Si v a b) (i+1) i (p+1) c.L.length) ?_ λr hr=>?_)
      ·refine Ev.T (by omega) ?_
       have hg:c.L[((p:Int)).toNat]?=some c.L[p]:=by rw [Int.toNat_natCast]; exact List.getElem?_eq_getElem hp
       have hg2:c.L[p]?=some c.L[p]:=List.getElem?_eq_getElem hp
       have hf:=h.fit p c.L[p] hg2
       generalize c.L[p]=z at hg hg2 hf
       refine Ev.X hg (Ev.C (λh2=>?_) λh2=>?_)
       ·have ho:z.Op=2:=by simpa using h2
        have hA:0<=z.A∧z.A<(n:Int):=by unfold Fit at hf; omega
        refine Ev.T g1 (Ev.O g2 λown hown=>?_)
        obtain ⟨v1,r,r1,r2⟩:=hso.any hA.1 hA.2
        obtain ⟨w,w1,_,w2,w3⟩:=r2.el (show i<i+1 by omega)
        refine Ev.T v1 (Ev.X r1 (Ev.T (by rw [r2.1]; omega) (Ev.X w1 ?_)))
        refine Ev.T (by rw [hown.1]; omega) (Ev.T g1 (Ev.O g2 λ_ _=>Ev.S ?_))
        rw [Int.toNat_natCast]
        exact hs.put (hown.app w2 (T.varq hg2 ho w3))
       ·refine Ev.T g1 (Ev.O g2 λown hown=>Ev.T g1 (Ev.O g2 λown2 hown2=>?_))
        refine Ev.B (qge (by omega) hp T hg2 hf (by simpa using h2) hs hown2 ht hT) λw hw=>?_
        refine Ev.T (by rw [hown.1]; omega) (Ev.T g1 (Ev.O g2 λ_ _=>Ev.S ?_))
        rw [Int.toNat_natCast]
        exact hs.put (hown.app hw.1 hw.2)
      ·rw [wi hp (by omega)]; exact next r hr
     ·intro s hs
      refine Ev.N (λk j=>by rw [qo.l50]) ?_
      exact Ev.F (dF (by omega)) (Ev.S (hs.all _))
    ·refine Ev.D (f:=λk j=>qo.l26 k c x t (m:Int) j6 o l (i:Int) j22 j o 0) ?_
     refine Ev.loop (λk j s p=>qo.l26 k c x t (m:Int) j6 o l (i:Int) j22 j s p) n (λp s=>Rs (Si y a b) (i+1+1) (i+1) p n s) ?_ ?_ ⟨hso.1,hso.2⟩
     ·intro p hp s hs next
      obtain ⟨g1,g2⟩:=hs.own hp
      have hin:0<=(p:Int)∧(p:Int)<(c.Out.length:Int):=by rw [h.O]; omega
      obtain ⟨u,hu,hum⟩:=qci hin
      refine Ev.N (λk j=>by rw [qo.l26]) ?_
      refine Ev.T (dT hin.2) (Ev.T hin (Ev.X hu (Ev.T g1 (Ev.O g2 λown hown=>?_))))
      have hu2:=h.out u hum
      rw [Int.toNat_natCast] at hu
      have hoi:=qg4 hu
      obtain ⟨v1,r,r1,r2⟩:=h22.any hu2.1 hu2.2
      have e:qc ((i:Int)+1)=((i+1:Nat):Int):=wi hi (by omega)
      obtain ⟨w,w1,_,w2,w3⟩:=r2.el (show i<i+1 by omega)
      refine Ev.T v1 (Ev.X r1 (Ev.T (by rw [r2.1]; omega) (Ev.X w1 ?_)))
      have hq:∃ z,Yg w (qc ((i:Int)+1))=some z∧Ok z∧Si y a b p (i+1) z:=by
       rw [e]
       obtain ⟨z,h1,h2,h3⟩:=qdX w2 (p:=1) (d:=((i+1:Nat):Int)) (by omega) (by omega)
       refine ⟨z,by unfold Yg; rw [h1]; rfl,h2,T.odeq (h3 _ _ ?_)⟩
       rw [hoi]
       exact w3.up (i+1) (by omega)
      refine Ev.O hq λz hz=>Ev.T (by rw [hown.1]; omega) (Ev.T g1 (Ev.O g2 λ_ _=>?_))
      rw [wi hp (by omega),Int.toNat_natCast]
      exact next _ (hs.put (hown.app hz.1 hz.2))
     ·intro s hs
      refine Ev.N (λk j=>by rw [qo.l26]) ?_
      exact Ev.F (dF (by rw [h.O]; omega)) (Ev.S ⟨hs.all _,⟨h22.1,h22.2⟩⟩)
   ·rw [wi hi (by omega)]
    exact next r hr
  ·intro s hs
   refine Ev.N (λk j=>by rw [qo.l14]) ?_
   exact Ev.F (dF (by omega)) (Ev.S hs.1)
theorem qhd (h:Wt c n)(T:Tr c y v)(hb:Bs n S x)(hx:∀ i X,x[i]?=some X->NI (W a b 0) (λw=>y w.1 i w.2) X)(s:Q0)(ht:Ok ⟨s.T,qc (s.T+s.H)⟩)(hT:NI (W a b 0) (λw=>(w.2:Rat)*dl w.1) ⟨s.T,qc (s.T+s.H)⟩){m:Nat}(hm:m<=3) :
  Ev (λk _=>YY k c x s (m:Int)) (Bs n λi=>Si y a b i (m+1)):=by
 have hn:=h.pos
 unfold YY
 rw [show qc ((m:Int)+1)=((m+1:Nat):Int) from wi (n:=8) (by omega) (by omega)]
 refine Ev.B (qdA h T hb hx ht hT (m:=m+1) (by omega)) λrows hr=>?_
 refine Ev.B (Q:=Bs n λi=>Si y a b i (m+1)) ?_ λr hr=>Ev.S hr
 unfold Qn
 refine Ev.T (by rw [hr.1]; omega) ?_
 refine Ev.B (Q:=Bs n λi=>Si y a b i (m+1)) (Ev.D (f:=λk j=>Qn.l10 k rows (m:Int) j _ 0) ?_) λr hr=>Ev.S hr
 refine Ev.loop (λk j x i=>Qn.l10 k rows (m:Int) j x i) n (λi x=>Bp n i (λi=>Si y a b i (m+1)) x) ?_ ?_ (by rw [Int.toNat_natCast,hr.1]; exact Bp.zero _ _)
 ·intro i hi x hx next
  obtain ⟨v1,r,r1,r2⟩:=hr.any (A:=(i:Int)) (by omega) (by omega)
  obtain ⟨z,z1,z2,z3,z4⟩:=r2.el (show m+1<m+1+1 by omega)
  refine Ev.N (λk j=>by rw [Qn.l10]) ?_
  refine Ev.T (dT v1.2) (Ev.T v1 (Ev.X r1 ?_))
  have hq:Yf (i:Int) r (m:Int)=some z:=by
   unfold Yf
   rw [show qc ((m:Int)+1)=((m+1:Nat):Int) from wi (n:=8) (by omega) (by omega),if_pos (by rw [r2.1]; omega),z1,Option.bind_some]
  refine Ev.X hq (Ev.T (by rw [hx.1]; omega) (Ev.O (hx.any hi) λ_ _=>?_))
  rw [wi hi (by omega),Int.toNat_natCast]
  exact next _ (hx.put hi z3 (by rw [Int.toNat_natCast] at z4; exact z4))
 ·intro x hx
  refine Ev.N (λk j=>by rw [Qn.l10]) ?_
  exact Ev.F (dF (by rw [hr.1]; omega)) (Ev.S hx)
end
end Go.Proofs.YtpmgpcklieincaaGreatDoor
set_option maxRecDepth 10000
set_option linter.unusedVariables false
set_option linter.unusedSimpArgs false
namespace Go.Proofs.YtpmgpcklieincaaGreatDoor
open Go Go.Sx
section
variable {n:Nat} {c:QE} {y v:Nat->Nat->Nat->Rat} {a b:Nat->Nat} {x u d:List qb} {t p:qb} {S S':Nat->qb->Prop} {Z:Nat->Nat->qb->Prop} {rows:List (List qb)}
theorem qgn {m:Nat}(hn:n<=3)(hm:m<=8)(hr:Rs Z 0 m 0 n rows)(hb:Bs n (λi=>Z i m) u):Ev (λk _=>Qk k rows u) (Rs Z 0 (m+1) 0 n):=by
 unfold Qk
 refine Ev.T (by rw [hr.1]; omega) ?_
 refine Ev.B (Q:=Rs Z 0 (m+1) 0 n) (Ev.D (f:=λk j=>Qk.l10 k rows u j _ 0) ?_) λr hr=>Ev.S hr
 refine Ev.loop (λk j x i=>Qk.l10 k rows u j x i) n (λi x=>Rs Z (m+1) 0 i n x) ?_ ?_ (by rw [Int.toNat_natCast,hr.1]; exact Rs.nil _ _ _)
 ·intro i hi x hx next
  obtain ⟨v1,r,r1,r2⟩:=hr.any (A:=(i:Int)) (by omega) (by omega)
  obtain ⟨g1,g2⟩:=hx.own hi
  obtain ⟨z,z1,_,z2,z3⟩:=hb.el hi
  refine Ev.N (λk j=>by rw [Qk.l10]) ?_
  refine Ev.T (dT v1.2) (Ev.T v1 (Ev.X r1 ?_))
  have hq:XU (i:Int) r u=some (r++[z]):=by
   unfold XU
   rw [if_pos (by rw [hb.1]; omega),z1,Option.bind_some,if_pos (by rw [r2.1]; omega)]
  refine Ev.X hq (Ev.T g1 (Ev.O g2 λ_ _=>?_))
  rw [wi hi (by omega),Int.toNat_natCast]
  rw [Int.toNat_natCast] at r2
  exact next _ (hx.put (r2.app z2 z3))
 ·intro x hx
  refine Ev.N (λk j=>by rw [Qk.l10]) ?_
  exact Ev.F (dF (by rw [hr.1]; omega)) (Ev.S (hx.all 0))
def Hn (Z:Nat->Nat->qb->Prop)(m:Nat)(p:qb)(i:Nat)(I:qb):Prop:=∃ (l:Nat->qb) (r:qb),(∀ j,j<m->Z i j (l j))∧Z i m r∧Ok r∧HS m l r p I
theorem qeq {m:Nat}(h3:n<=3)(hm:m<=8)(hr:Rs Z 0 (m+1) 0 n rows)(hp:Ok p):Ev (λk _=>ZH k rows p) (Bs n (Hn Z m p)):=by
 unfold ZH
 refine Ev.B (Q:=Bs n (Hn Z m p)) ?_ λr hr=>Ev.S hr
 unfold qz
 refine Ev.T (by rw [hr.1]; omega) ?_
 refine Ev.B (Q:=Bs n (Hn Z m p)) (Ev.D (f:=λk j=>qz.l10 k rows p j _ 0) ?_) λr hr=>Ev.S hr
 refine Ev.loop (λk j x i=>qz.l10 k rows p j x i) n (λi x=>Bp n i (Hn Z m p) x) ?_ ?_ (by rw [Int.toNat_natCast,hr.1]; exact Bp.zero _ _)
 ·intro i hi x hx next
  obtain ⟨v1,r,r1,r2⟩:=hr.any (A:=(i:Int)) (by omega) (by omega)
  rw [Int.toNat_natCast] at r2
  refine Ev.N (λk j=>by rw [qz.l10]) ?_
  refine Ev.T (dT v1.2) (Ev.B (Q:=Bp n (i+1) (Hn Z m p)) (Ev.T v1 (Ev.X r1 ?_)) λs hs=>?_)
  ·have hrl:=r2.1
   have e1:qc ((r.length:Int)-1)=(m:Int):=by rw [hrl,Zy (by omega) (by omega)]; omega
   have e2:qc ((r.length:Int)-2)=(m:Int)-1:=by rw [hrl,Zy (by omega) (by omega)]; omega
   rw [e1,e2]
   obtain ⟨z,z1,_,z2,z3⟩:=r2.el (show m<m+1 by omega)
   refine Ev.T (by omega) (Ev.X z1 ?_)
   have key:∀ (q:Nat),q<=m -> ∀ s o:Int,Ok ⟨s,o⟩->(∀ (F:Vd (Nat×Nat)) (s' R d:Nat×Nat->Rat) (c:Nat->Nat×Nat->Rat),(∀ j,j<m->NI F (c j) (r.getD j ⟨0,0⟩))->NI F R z->(∀ j,j<m->NI F (λw=>s' w-(j:Rat)*d w) p)->NI F (λw=>hn (d w) (s' w) (λj=>c j w) (R w) (m-q) q) ⟨s,o⟩) ->
     Ev (λk j=>qz.l31 k rows p x (i:Int) r z j s o ((q:Int)-1)) (λw=>Ok ⟨w.1,w.2⟩∧HS m (λj=>r.getD j ⟨0,0⟩) z p ⟨w.1,w.2⟩):=by
    intro q
    induction q with
    | zero =>
     intro _ s o hso hH
     refine Ev.N (λk j=>by rw [qz.l31]) ?_
     exact Ev.F (by decide) (Ev.S ⟨hso,λF s' R d c k1 k2 k3=>hH F s' R d c k1 k2 k3⟩)
    | succ q ih =>
     intro hq s o hso hH
     have e3:((q+1:Nat):Int)-1=(q:Int):=by omega
     rw [e3]
     obtain ⟨f1,f2,f3⟩:=r2.gd (show q<m+1 by omega)
     have f4:r[((q:Int)).toNat]?=some (r.getD q ⟨0,0⟩):=by rw [Int.toNat_natCast]; exact f1
     obtain ⟨w,w1,w2,w3⟩:=qcF hso hp
     obtain ⟨w',w1',w2',w3'⟩:=qbA w2 f2
     have hq1:YN (⟨s,o⟩:qb) p=some w:=by unfold YN; rw [w1]; rfl
     refine Ev.N (λk j=>by rw [qz.l31]) ?_
     refine Ev.T (dT (by omega)) (Ev.X hq1 (Ev.T (by omega) (Ev.X f4 (Ev.X w1' ?_))))
     rw [Zy (by omega) (by omega)]
     refine ih (by omega) _ _ w2' λF s' R d c k1 k2 k3=>?_
     refine (w3' F _ _ (w3 F _ _ (hH F s' R d c k1 k2 k3) (k3 q (by omega))) (k1 q (by omega))).eq λg=>?_
     rw [show m-q=(m-(q+1))+1 by omega,hn]
   refine Ev.B (Q:=λw:Int×Int=>Ok ⟨w.1,w.2⟩∧HS m (λj=>r.getD j ⟨0,0⟩) z p ⟨w.1,w.2⟩) (Ev.D (f:=λk j=>qz.l31 k rows p x (i:Int) r z j z.Lo z.Hi ((m:Int)-1)) (key m (Nat.le_refl _) _ _ z2 λF s' R d c k1 k2 k3=>?_)) λq hq=>Ev.T (by rw [hx.1]; omega) (Ev.O (hx.any hi) λ_ _=>Ev.S (hx.put hi hq.1 ⟨_,z,λj hj=>(r2.gd (show j<m+1 by omega)).2.2,z3,z2,hq.2⟩))
   rw [Nat.sub_self]
   exact k2
  ·rw [wi hi (by omega)]
   exact next _ hs
 ·intro x hx
  refine Ev.N (λk j=>by rw [qz.l10]) ?_
  exact Ev.F (dF (by rw [hr.1]; omega)) (Ev.S hx)
theorem qhh {a b:qb}(ha:Ok a)(hb:Ok b)(h:mx a.Lo b.Lo<=mn a.Hi b.Hi):Ok ⟨mx a.Lo b.Lo,mn a.Hi b.Hi⟩ ∧ ∀ {ι:Type} (F:Vd ι) (f:ι->Rat),NI F f a->NI F f b->NI F f ⟨mx a.Lo b.Lo,mn a.Hi b.Hi⟩:=by
 have l1:=mxl a.Lo b.Lo; have l2:=mnl a.Hi b.Hi
 rcases ha with rfl | fa
 ·have h1:=hb.b
  have e1:mx Zd.Lo b.Lo=b.Lo:=by unfold mx Zd; simp only; split <;> omega
  have e2:mn Zd.Hi b.Hi=b.Hi:=by unfold mn Zd; simp only; split <;> omega
  rw [e1,e2]; exact ⟨hb,λF f _ h=>h⟩
 ·rcases hb with rfl | fb
  ·have h1:=fa
   unfold Y2 at h1
   have e1:mx a.Lo Zd.Lo=a.Lo:=by unfold mx Zd; simp only; split <;> omega
   have e2:mn a.Hi Zd.Hi=a.Hi:=by unfold mn Zd; simp only; split <;> omega
   rw [e1,e2]; exact ⟨.inr fa,λF f h _=>h⟩
  ·refine ⟨.inr ⟨?_,h,?_⟩,λF f h1 h2=>.inr λe he=>F.two (h1.fin fa e he) (h2.fin fb e he) λi i1 i2=>⟨?_,?_⟩⟩
   ·have:=fa.1; show _<mx a.Lo b.Lo; omega
   ·have:=fa.2.2; show mn a.Hi b.Hi<_; omega
   ·show rr (mx a.Lo b.Lo)-e<=_
    rcases l1.2.2 with e | e <;> rw [e]
    ·exact i1.1
    ·exact i2.1
   ·show _<=rr (mn a.Hi b.Hi)+e
    rcases l2.2.2 with e | e <;> rw [e]
    ·exact i1.2
    ·exact i2.2
theorem qf7 (hn:n<=3)(ha:Bs n S x)(hb:Bs n S' u):Ev (λk _=>X1 k x u) (Bs n λi D=>∃ A B,S i A∧S' i B ∧ ∀ {ι:Type} (F:Vd ι) (f:ι->Rat),NI F f A->NI F f B->NI F f D):=by
 unfold X1
 generalize hQ:(λ(i:Nat) (D:qb)=>∃ A B,S i A∧S' i B ∧ ∀ {ι:Type} (F:Vd ι) (f:ι->Rat),NI F f A->NI F f B->NI F f D)=Q
 refine Ev.B (Q:=Bs n Q) ?_ λr hr=>Ev.S hr
 unfold Qm
 refine Ev.T (by rw [ha.1]; omega) ?_
 refine Ev.B (Q:=Bs n Q) (Ev.D (f:=λk j=>Qm.l10 k x u j _ 0) ?_) λr hr=>Ev.S hr
 refine Ev.loop (λk j s i=>Qm.l10 k x u j s i) n (λi s=>Bp n i Q s) ?_ ?_ (by rw [Int.toNat_natCast,ha.1]; exact Bp.zero _ _)
 ·intro i hi s hs next
  obtain ⟨r,r1,_,r2,r3⟩:=ha.el hi
  obtain ⟨z,z1,_,z2,z3⟩:=hb.el hi
  refine Ev.N (λk j=>by rw [Qm.l10]) ?_
  refine Ev.T (dT (by rw [ha.1]; omega)) (Ev.T (by rw [ha.1]; omega) (Ev.X r1 ?_))
  have hq:∃ w,XK (i:Int) r u=some w∧Ok w∧Q i w:=by
   unfold XK
   rw [if_pos (by rw [hb.1]; omega),z1,Option.bind_some]
   unfold Xs
   by_cases h:mx r.Lo z.Lo<=mn r.Hi z.Hi
   ·rw [decide_eq_true h]
    have m:=qhh r2 z2 h
    exact ⟨_,rfl,m.1,by rw [<- hQ]; exact ⟨r,z,r3,z3,m.2⟩⟩
   ·rw [decide_eq_false h]
    refine ⟨z,?_,z2,by rw [<- hQ]; exact ⟨r,z,r3,z3,λF f _ h=>h⟩⟩
    refine bT (v:=((⟨0,0⟩:qb),false)) rfl (iF (by decide) (iT (by rw [hb.1]; omega) rfl))
  refine Ev.O hq λz hz=>Ev.T (by rw [hs.1]; omega) (Ev.O (hs.any hi) λ_ _=>?_)
  rw [wi hi (by omega),Int.toNat_natCast]
  exact next _ (hs.put hi hz.1 hz.2)
 ·intro s hs
  refine Ev.N (λk j=>by rw [Qm.l10]) ?_
  exact Ev.F (dF (by rw [ha.1]; omega)) (Ev.S hs)
abbrev Ny (y:Nat->Nat->Nat->Rat)(s t:Nat)(i:Nat)(I:qb):Prop:=NI (W (gi s) (gi t) 0) (λw=>y w.1 i w.2) I
theorem qbw (h:Wt c n)(R:Tr c y v){T H:Nat}(hH:1<=H)(hTH:T+H<=1000000)(hx:Bs n (Ny y T T) x)
  (hd:Bs n (Ny y T (T+H)) d) (hE:∀ i,i<n -> ∃ E,Y2 E∧NI (W (gi T) (gi (T+H)) 0) (λw=>v w.1 (oi c i) w.2) E) {m:Nat} (hm:m<=3) (hp:Ok p) {s t:Nat} (hs:T<=s∧t<=T+H)
  (hpart:∀ j:Nat,NI (W (gi s) (gi t) 0) (λw=>el T w-(j:Rat)*dl w.1) p):Ev (λk _=>YB k c x d ⟨(T:Int),(H:Int),p,(m:Int)⟩) (Bs n (Ny y s t)):=by
 have hw:qc ((T:Int)+(H:Int))=((T+H:Nat):Int):=by rw [Zy (by omega) (by omega)]; omega
 have okt:Ok ⟨(T:Int),((T+H:Nat):Int)⟩:=.inr (by unfold Y2; simp only; omega)
 have okp:Ok ⟨(T:Int),(T:Int)⟩:=.inr (by unfold Y2; simp only; omega)
 unfold YB
 refine Ev.B (qhd (a:=gi T) (b:=gi (T+H)) h R hd (λi X hX=>(hd.2 i X hX).2 (hd.lt hX)) ⟨(T:Int),(H:Int)⟩ (by rw [hw]; exact okt) (by rw [hw]; exact qbl (λN=>⟨Nat.le_refl _,Nat.le_refl _⟩) rfl) hm) λu hu=>?_
 refine Ev.X (v:=⟨(T:Int),(T:Int)⟩) (by unfold YE; rw [JI,qb9 (by unfold Y2; simp only; omega)]; rfl) ?_
 refine Ev.B (qdA (a:=gi T) (b:=λN=>gi T N+m) h R hx (λi X hX=>by
  obtain ⟨E,e1,e2⟩:=hE i (hx.lt hX)
  exact qh8 (y:=λN=>y N i) (f:=λN=>v N (oi c i)) hH (λN k=>R.ode N i k) e1 e2 ((hx.2 i X hX).2 (hx.lt hX)) m) okp (qdg m rfl) (m:=m) (by omega)) λrows hr=>?_
 -- what row i holds
 have hZ:Rs (λi k I=>(k<=m->Si y (gi T) (λN=>gi T N+m) i k I)∧(k=m+1->Si y (gi T) (gi (T+H)) i k I)) 0 (m+1) 0 n rows:=⟨hr.1,λi r h=>(hr.2 i r h).imp λk z hk _ g=>⟨λ_=>g,λe=>by simp at hk; omega⟩⟩
 refine Ev.B (qgn h.pos.2 (by omega) hZ (hu.imp λk z _ _ g=>⟨λh=>by omega,λ_=>g⟩)) λrows' hr'=>?_
 refine Ev.B (qeq h.pos.2 (by omega) hr' hp) λw hw=>Ev.B (qf7 h.pos.2 hw hd) λz hz=>Ev.S (hz.imp λi D hi _ g=>?_)
 obtain ⟨A,B,⟨l,r,l1,l2,l3,l4⟩,g2,g3⟩:=g
 have hab:∀ N,gi T N<=gi s N∧gi t N<=gi (T+H) N:=λN=>⟨qd1 hs.1 N,qd1 hs.2 N⟩
 refine g3 _ _ ?_ ?_
 ·exact qhm (y:=λN=>y N i) hH l3 (K0:=m) (λj hj=>(l1 j hj).1 (by omega)) (Nat.le_refl _) (l2.2 rfl) hab (λj _=>hpart j) l4
 ·exact NI.via (F:=W (gi T) (gi (T+H)) 0) (G:=W (gi s) (gi t) 0) (f:=λw=>y w.1 i w.2) (λw=>w) (λq hq=>W.sub ⟨0,λN _ m h1 h2=>by have:=hab N; omega⟩ hq) g2
structure Sg (y:Nat->Nat->Nat->Rat) (n:Nat) (s:qW) (T H:Nat):Prop where
 tT:s.T=(T:Int)
 tH:s.H=(H:Int)
 fr:Bs n (Ny y T T) s.From
 tu:Bs n (Ny y T (T+H)) s.Tube
 to:Bs n (Ny y (T+H) (T+H)) s.To
 bt:Bnd s.Tube
 bo:Bnd s.To
 bf:Bnd s.From
theorem qgl (h:Wt c n)(R:Tr c y v){T H:Nat}(hH:1<=H)(hTH:T+H<=1000000)(hx:Bs n (Ny y T T) x)(hB:Bnd x){m:Nat}(hm:m<=3):Ev (λk _=>Yt k c x ⟨(T:Int),(H:Int)⟩ (m:Int)) (λr=>r.2=true->Sg y n r.1 T H):=by
 have hw:qc ((T:Int)+(H:Int))=((T+H:Nat):Int):=by rw [Zy (by omega) (by omega)]; omega
 have fq:Y2 ⟨0,(H:Int)⟩:=by unfold Y2; simp only; omega
 unfold Yt
 refine Ev.B (qgt h R hx ⟨(T:Int),(H:Int)⟩ (by show 0<=(H:Int); omega) (by show (T:Int)<=qc ((T:Int)+(H:Int)); rw [hw]; omega)) λr hr=>Ev.C (λ_=>Ev.S λhc=>by cases hc) λh2=>?_
 have hb:=hr (by simpa using h2)
 dsimp only at hb
 rw [hw,qb9 (x:=(T:Int)) (y:=((T+H:Nat):Int)) (by unfold Y2; simp only; omega),qb9 fq] at hb
 have nr:=qek R hH hx (λi X hX=>(hx.2 i X hX).2 (hx.lt hX)) fq hb
 have hd:Bs n (Ny y T (T+H)) r.1:=by
  obtain ⟨b,⟨_,hb2,_⟩,_⟩:=hb
  exact hb2.imp λi D hi hD _=>((nr i hi).1 D hD).2
 have hE:=λi hi=>(nr i hi).2
 have e1:Ev (λk _=>QX k 0 (H:Int) c x r.1 ⟨(T:Int),(H:Int)⟩ (m:Int)) (Bs n (Ny y T (T+H))):=by
  unfold QX
  exact Ev.B (qbw h R hH hTH hx hd hE hm (.inr fq) (s:=T) (t:=T+H) ⟨Nat.le_refl _,Nat.le_refl _⟩ λj=>qbe j rfl) λu hu=>Ev.S hu
 have e2:Ev (λk _=>QX k (H:Int) (H:Int) c x r.1 ⟨(T:Int),(H:Int)⟩ (m:Int)) (Bs n (Ny y (T+H) (T+H))):=by
  unfold QX
  exact Ev.B (qbw h R hH hTH hx hd hE hm (.inr (by unfold Y2; simp only; omega)) (s:=T+H) (t:=T+H) ⟨by omega,Nat.le_refl _⟩ λj=>qgH j rfl) λu hu=>Ev.S hu
 refine Ev.B e1 λu hu=>Ev.B e2 λw hw'=>?_
 refine Ev.B (Q:=λr=>r.2=true->Sg y n r.1 T H) ?_ λq hq=>Ev.S hq
 unfold ZJ
 refine Ev.B (WX h.pos.2 (by rw [hu.1]; exact Nat.le_refl _)) λp1 g1=>Ev.B (Q:=λr=>(p1=false->r=false->Bnd w)) (Ev.C (λ_=>(WX h.pos.2 (by rw [hw'.1]; exact Nat.le_refl _)).I λr hr _=>hr) λhc=>Ev.S λh1=>absurd (by simp [h1]) hc) λp2 g2=>?_
 refine Ev.C (λ_=>Ev.S λhc=>by cases hc) λhc=>Ev.S λ_=>?_
 have hc':p1=false∧p2=false:=by simpa using hc
 exact ⟨rfl,rfl,hx,hu,hw',g1 hc'.1,g2 hc'.1 hc'.2,hB⟩
end
end Go.Proofs.YtpmgpcklieincaaGreatDoor
