/- A symbolic machine for Go code over plain data, and functions of the program as it shows them. No statement is proved in this file. -/
import Derived.KernelRfl
import Derived.Test.YtohjofabochgfaaGreatXd
set_option linter.unusedSimpArgs false
set_option linter.unusedVariables false
set_option linter.unusedSectionVars false

namespace Go.Proofs.YtohjofabochgfaaGreat
theorem K2 {α:Type} [BEq α] [LawfulBEq α]:∀ {l1 l2:List α},l1.Nodup->(∀ x ∈ l1,x ∈ l2)->l2.length<=l1.length->l1.Perm l2
 | [],l2,_,_,h=>by
  have:l2= []:=List.length_eq_zero_iff.1 (Nat.le_zero.1 h)
  rw [this]
 |a::t,l2,hn,hs,hl=>by
  have ha:a ∈ l2:=hs a (List.mem_cons_self ..)
  have hp:l2.Perm (a::l2.erase a):=List.perm_cons_erase ha
  rw [List.nodup_cons] at hn
  have hl2:=List.length_erase_of_mem ha
  have hpos:0<l2.length:=List.length_pos_of_mem ha
  have ih:t.Perm (l2.erase a):=K2 hn.2 (λx hx=>by
   have hne:x≠a:=λe=>hn.1 (e▸hx)
   exact (List.mem_erase_of_ne hne).2 (hs x (List.mem_cons_of_mem _ hx))) (by rw [List.length_cons] at hl;omega)
  exact (ih.cons a).trans hp.symm
def Pr (p:Nat):Prop:=2<=p/\∀ d,d∣p->d=1\/d=p
theorem Pr.pos {p:Nat} (h:Pr p):0<p:=by have:=h.1;omega
theorem Pr.cop {p a:Nat} (h:Pr p) (ha:¬p∣a):Nat.Coprime p a:=by
 rcases h.2 (Nat.gcd p a) (Nat.gcd_dvd_left ..) with e|e
 ·exact e
 ·exact absurd (e▸Nat.gcd_dvd_right p a) ha
theorem Pr.akS {p a b:Nat} (h:Pr p) (hd:p∣a*b):p∣a\/p∣b:=by
 by_cases ha:p∣a
 ·exact .inl ha
 ·exact .inr ((h.cop ha).dvd_of_dvd_mul_left hd)
def xZ:List Nat->Nat
 | []=>1
 |a::l=>a*xZ l
theorem ane {l1 l2:List Nat} (h:l1.Perm l2):xZ l1=xZ l2:=by
 induction h with
 |nil=>rfl
 |cons x _ ih=>simp only [xZ,ih]
 |swap x y l=>simp only [xZ];rw [<-Nat.mul_assoc,<-Nat.mul_assoc,Nat.mul_comm x y]
 |trans _ _ a b=>exact a.trans b
theorem YQ (p a:Nat):∀ l:List Nat,xZ (l.map λx=>a*x%p)%p=a^l.length*xZ l%p
 | []=>by simp [xZ]
 |x::l=>by
  have ih:=YQ p a l
  simp only [List.map_cons,xZ,List.length_cons]
  rw [Nat.mul_mod,Nat.mod_mod,ih,<-Nat.mul_mod,Nat.pow_succ]
  congr 1
  rw [Nat.mul_assoc,Nat.mul_assoc,Nat.mul_left_comm x]
  rw [Nat.mul_left_comm a]
theorem YP {p:Nat} (h:Pr p):∀ l:List Nat,(∀ x ∈ l,¬p∣x)->¬p∣xZ l
 | [],_,hd=>by
  have:=Nat.le_of_dvd (by decide) hd
  have:=h.1
  simp only [xZ] at*
  omega
 |x::l,hx,hd=>by
  rcases h.akS hd with h1|h1
  ·exact hx x (List.mem_cons_self ..) h1
  ·exact YP h l (λy hy=>hx y (List.mem_cons_of_mem _ hy)) h1
theorem anP {p a b:Nat} (hab:a<=b) (h:a%p=b%p):p∣b-a:=by
 have h1:=Nat.div_add_mod a p
 have h2:=Nat.div_add_mod b p
 refine ⟨b/p-a/p,?_⟩
 rw [Nat.mul_sub]
 omega
theorem ra {p x:Nat} (h0:0<x) (h1:x<p):¬p∣x:=λh=>by
 have:=Nat.le_of_dvd h0 h
 omega
theorem auR {p a:Nat} (h:Pr p) (ha:¬p∣a) {x y:Nat} (hx:x<p) (hy:y<p) (e:a*x%p=a*y%p):x=y:=by
 have aux:∀ {x y:Nat},x<p->y<p->x<=y->a*x%p=a*y%p->x=y:=λ{x y} hx hy hxy e=>by
  have hd:=anP (Nat.mul_le_mul_left a hxy) e
  rw [<-Nat.mul_sub] at hd
  rcases h.akS hd with h1|h1
  ·exact absurd h1 ha
  ·by_cases h0:y-x=0
   ·omega
   ·exact absurd h1 (ra (by omega) (by omega))
 rcases Nat.le_total x y with hxy|hxy
 ·exact aux hx hy hxy e
 ·exact (aux hy hx hxy e.symm).symm
theorem Hc {α β:Type} {f:α->β}:∀ {l:List α},l.Nodup->(∀ x ∈ l,∀ y ∈ l,f x=f y->x=y)->(l.map f).Nodup
 | [],_,_=>List.nodup_nil
 |a::l,hn,hi=>by
  rw [List.nodup_cons] at hn
  rw [List.map_cons,List.nodup_cons]
  refine ⟨λhm=> ?_,Hc hn.2 λx hx y hy=>hi x (List.mem_cons_of_mem _ hx) y (List.mem_cons_of_mem _ hy)⟩
  obtain ⟨b,hb,e⟩:=List.mem_map.1 hm
  have:=hi a (List.mem_cons_self ..) b (List.mem_cons_of_mem _ hb) e.symm
  exact hn.1 (this▸hb)
theorem avD {p a:Nat} (h:Pr p) (ha:¬p∣a):a^(p-1)%p=1:=by
 have hp:=h.1
 have hn:(List.range' 1 (p-1)).Nodup:=List.nodup_range' ..
 have hm:((List.range' 1 (p-1)).map λx=>a*x%p).Nodup:=Hc hn λx hx y hy e=>by
  rw [List.mem_range'_1] at hx hy
  exact auR h ha (by omega) (by omega) e
 have hperm:=K2 (l2:=List.range' 1 (p-1)) hm (λy hy=>by
  obtain ⟨x,hx,rfl⟩:=List.mem_map.1 hy
  rw [List.mem_range'_1] at hx⊢
  have hlt:=Nat.mod_lt (a*x) h.pos
  have hne:a*x%p≠0:=λe=>by
   rcases h.akS (Nat.dvd_of_mod_eq_zero e) with h1|h1
   ·exact ha h1
   ·exact ra (by omega) (by omega) h1
  omega) (by rw [List.length_map];exact Nat.le_refl _)
 have e:=YQ p a (List.range' 1 (p-1))
 rw [ane hperm,List.length_range'] at e
 have hnot:¬p∣xZ (List.range' 1 (p-1)):=YP h _ λx hx=>by
  rw [List.mem_range'_1] at hx
  exact ra (by omega) (by omega)
 have hmul:∀ z,z*xZ (List.range' 1 (p-1))%p=xZ (List.range' 1 (p-1))*(z%p)%p:=λz=>by
  rw [Nat.mul_comm,Nat.mul_mod_mod]
 rw [hmul] at e
 have e1:xZ (List.range' 1 (p-1))%p=xZ (List.range' 1 (p-1))*1%p:=by rw [Nat.mul_one]
 rw [e1] at e
 exact (auR h hnot (by omega) (Nat.mod_lt _ h.pos) e).symm
theorem LR:∀ (k n:Nat),2<=n->n<=k->∃ r,Pr r/\r∣n
 |0,n,h2,hk=>by omega
 |k+1,n,h2,hk=>by
  by_cases hp:Pr n
  ·exact ⟨n,hp,Nat.dvd_refl _⟩
  ·have:∃ d,d∣n/\d≠1/\d≠n:=by
    apply Classical.byContradiction
    intro hc
    refine hp ⟨h2,λd hd=> ?_⟩
    apply Classical.byContradiction
    intro hd2
    exact hc ⟨d,hd,λe=>hd2 (.inl e),λe=>hd2 (.inr e)⟩
   obtain ⟨d,hd,h1,h3⟩:=this
   have hle:=Nat.le_of_dvd (by omega) hd
   have h0:d≠0:=λe=>by subst e;have:=Nat.eq_zero_of_zero_dvd hd;omega
   obtain ⟨r,hr,hrd⟩:=LR k d (by omega) (by omega)
   exact ⟨r,hr,Nat.dvd_trans hrd hd⟩
theorem Xa {n:Nat} (h2:2<=n) (hp:¬Pr n):∃ r,Pr r/\r∣n/\r*r<=n:=by
 have:∃ d,d∣n/\d≠1/\d≠n:=by
  apply Classical.byContradiction
  intro hc
  refine hp ⟨h2,λd hd=> ?_⟩
  apply Classical.byContradiction
  intro hd2
  exact hc ⟨d,hd,λe=>hd2 (.inl e),λe=>hd2 (.inr e)⟩
 obtain ⟨d,⟨e,rfl⟩,h1,h3⟩:=this
 have hd0:d≠0:=λe'=>by subst e';omega
 have he0:e≠0:=λe'=>by subst e';omega
 have he1:e≠1:=λe'=>by subst e';omega
 rcases Nat.le_total d e with hde|hde
 ·obtain ⟨r,hr,hrd⟩:=LR d d (by omega) (Nat.le_refl _)
  have hle:=Nat.le_of_dvd (by omega) hrd
  exact ⟨r,hr,Nat.dvd_trans hrd (Nat.dvd_mul_right ..),Nat.le_trans (Nat.mul_le_mul hle hle) (Nat.mul_le_mul_left d hde)⟩
 ·obtain ⟨r,hr,hrd⟩:=LR e e (by omega) (Nat.le_refl _)
  have hle:=Nat.le_of_dvd (by omega) hrd
  exact ⟨r,hr,Nat.dvd_trans hrd (Nat.dvd_mul_left ..),Nat.le_trans (Nat.mul_le_mul hle hle) (Nat.mul_le_mul_right e hde)⟩
theorem aFY {r a:Nat} (hr:2<=r) (m k:Nat):a^m%r=1->a^k%r=1->a^Nat.gcd m k%r=1:=by
 induction m,k using Nat.gcd.induction with
 |H0 n=>intro _ h;rw [Nat.gcd_zero_left];exact h
 |H1 m n hm ih=>
  intro h1 h2
  rw [Nat.gcd_rec]
  refine ih ?_ h1
  have e:a^n%r=a^(n%m)%r:=by
   conv=>lhs;rw [<-Nat.div_add_mod n m,Nat.pow_add,Nat.pow_mul,Nat.mul_mod,Nat.pow_mod,h1,Nat.one_pow,Nat.mod_eq_of_lt (show 1<r by omega),Nat.one_mul,Nat.mod_mod]
  rw [<-e]
  exact h2
theorem aAD {n q e a m:Nat} (hn2:2<=n) (hq:Pr q) (he:n-1=q^(e+1)*m) (h1:a^(n-1)%n=1) (h2:Nat.gcd (a^(q^e*m)%n+n-1) n=1)
 {r:Nat} (hr:Pr r) (hd:r∣n):q^(e+1)∣r-1:=by
 have hr2:=hr.1
 have ha1:a^(n-1)%r=1:=by
  have:=congrArg (· %r) h1
  simp only [Nat.mod_mod_of_dvd _ hd] at this
  rw [this,Nat.mod_eq_of_lt (by omega)]
 have hna:¬r∣a:=λh=>by
  have:r∣a^(n-1):=Nat.dvd_trans h (by
   have:=Nat.pow_dvd_pow a (show 1<=n-1 by omega)
   rwa [Nat.pow_one] at this)
  rw [Nat.mod_eq_zero_of_dvd this] at ha1
  omega
 have hg:=aFY hr2 _ _ ha1 (avD hr hna)
 obtain ⟨h,hh⟩:=Nat.gcd_dvd_left (n-1) (r-1)
 by_cases hqh:q∣h
 ·obtain ⟨k,rfl⟩:=hqh
  have hk:q^e*m=Nat.gcd (n-1) (r-1)*k:=by
   have:q*(q^e*m)=q*(Nat.gcd (n-1) (r-1)*k):=by
    rw [<-Nat.mul_assoc,<-Nat.pow_succ',<-he,Nat.mul_left_comm q,<-hh]
   exact Nat.eq_of_mul_eq_mul_left hq.pos this
  have hone:a^(q^e*m)%r=1:=by
   rw [hk,Nat.pow_mul,Nat.pow_mod,hg,Nat.one_pow,Nat.mod_eq_of_lt (by omega)]
  have hmn:a^(q^e*m)%n%r=1:=by rw [Nat.mod_mod_of_dvd _ hd,hone]
  have hdv:r∣a^(q^e*m)%n+n-1:=by
   obtain ⟨c,rfl⟩:=hd
   have:=Nat.div_add_mod (a^(q^e*m)%(r*c)) r
   refine ⟨a^(q^e*m)%(r*c)/r+c,?_⟩
   rw [Nat.mul_add]
   omega
  have:=Nat.dvd_gcd hdv hd
  rw [h2] at this
  have:=Nat.le_of_dvd (by decide) this
  omega
 ·have hc:Nat.Coprime (q^(e+1)) h:=Nat.Coprime.pow_left _ (hq.cop hqh)
  have hdg:q^(e+1)∣Nat.gcd (n-1) (r-1)*h:=by rw [<-hh,he];exact Nat.dvd_mul_right ..
  exact Nat.dvd_trans (hc.dvd_of_dvd_mul_right hdg) (Nat.gcd_dvd_right ..)
theorem aAE {n F:Nat} (h2:2<=n) (hF:n<F*F) (h:∀ r,Pr r->r∣n->F∣r-1):Pr n:=by
 apply Classical.byContradiction
 intro hp
 obtain ⟨r,hr,hd,hle⟩:=Xa h2 hp
 have h1:=hr.1
 have:=Nat.le_of_dvd (by omega) (h r hr hd)
 have:F*F<=r*r:=Nat.mul_le_mul (by omega) (by omega)
 omega
def ZS {α:Type} (n:Nat) (f:Nat->α):α:=match n with
 |0=>f 0
 |k+1=>f (k+1)
theorem ZR {α:Type} (n:Nat) (f:Nat->α):ZS n f=f n:=by cases n<;>rfl
def pw (n:Nat):Nat->Nat->Nat->Nat->Nat
 |0,o,_,_=>o
 |f+1,o,x,k=>ZS k λk=>cond (Nat.beq k 0) o (ZS (x*x%n) λy=>ZS (cond (Nat.beq (k%2) 1) (o*x%n) o) λo=>pw n f o y (k/2))
theorem aFV {p:Nat}:∀ (n o x k:Nat),k<2^n->o<p->pw p n o x k=o*x^k%p
 |0,o,x,k,hk,ho=>by
  have:k=0:=by omega
  subst this
  show o=_
  rw [Nat.pow_zero,Nat.mul_one,Nat.mod_eq_of_lt ho]
 |n+1,o,x,k,hk,ho=>by
  unfold pw
  simp only [ZR]
  rw [Nat.pow_succ] at hk
  cases h0:Nat.beq k 0
  ·simp only [cond_false]
   have hsq:(x*x%p)^(k/2)%p=x^(2*(k/2))%p:=by
    rw [<-Nat.pow_mod,Nat.pow_mul,Nat.pow_two]
   cases h1:Nat.beq (k%2) 1
   ·have h1':¬k%2=1:=λe=>by rw [e] at h1;cases h1
    simp only [cond_false]
    rw [aFV n _ _ _ (by omega) ho,Nat.mul_mod,hsq,<-Nat.mul_mod,show 2*(k/2)=k by omega]
   ·have h1:=Nat.eq_of_beq_eq_true h1
    simp only [cond_true]
    rw [aFV n _ _ _ (by omega) (Nat.mod_lt _ (by omega)),Nat.mul_mod,hsq,Nat.mod_mod,<-Nat.mul_mod,Nat.mul_assoc,<-Nat.pow_succ',show (2*(k/2)).succ=k by omega]
  ·have h0:=Nat.eq_of_beq_eq_true h0
   subst h0
   simp only [cond_true]
   rw [Nat.pow_zero,Nat.mul_one,Nat.mod_eq_of_lt ho]
def pwm (n a k:Nat):Nat:=pw n 256 1 (a%n) k
theorem ajx {n:Nat} (hn:2<=n) {a k:Nat} (hk:Nat.blt k (2^256)=true):pwm n a k=a^k%n:=by
 have hk':k<2^256:=Nat.le_of_ble_eq_true hk
 unfold pwm
 rw [aFV 256 1 _ _ hk' (by omega),Nat.one_mul,<-Nat.pow_mod]
def aIL (n q e a m:Nat):Bool:=Nat.beq (n-1) (q^(e+1)*m)&&(Nat.blt n (2^256)&&(Nat.beq (pwm n a (n-1)) 1&&Nat.beq (Nat.gcd (pwm n a (q^e*m)+n-1) n) 1))
theorem fK {n q e a m:Nat} (h2:2<=n) (hq:Pr q) (h:aIL n q e a m=true) {r:Nat} (hr:Pr r) (hd:r∣n):q^(e+1)∣r-1:=by
 simp only [aIL,Bool.and_eq_true] at h
 obtain ⟨h1,h3,h4,h5⟩:=h
 have h1:=Nat.eq_of_beq_eq_true h1
 have h3:n<2^256:=Nat.le_of_ble_eq_true h3
 have hm:q^e*m<=n-1:=by
  rw [h1,Nat.pow_succ,Nat.mul_right_comm]
  exact Nat.le_mul_of_pos_right _ hq.pos
 rw [ajx h2 (Nat.ble_eq_true_of_le (show n-1+1<=2^256 by omega))] at h4
 rw [ajx h2 (Nat.ble_eq_true_of_le (show q^e*m+1<=2^256 by omega))] at h5
 exact aAD h2 hq h1 (Nat.eq_of_beq_eq_true h4) (Nat.eq_of_beq_eq_true h5) hr hd
def aJW (n:Nat):Nat->Nat->Bool
 |0,_=>false
 |f+1,d=>ZS d λd=>cond (Nat.blt n (d*d)) true (cond (Nat.beq (n%d) 0) false (aJW n f (d+1)))
theorem aqD {n:Nat}:∀ (f d:Nat),aJW n f d=true->0<d->(∀ x,1<x->x<d->¬x∣n)->∀ x,1<x->x*x<=n->¬x∣n
 |0,d,h,_,_=>by cases h
 |f+1,d,h,hd0,hb=>by
  unfold aJW at h
  rw [ZR] at h
  cases h1:Nat.blt n (d*d)
  ·rw [h1] at h
   cases h2:Nat.beq (n%d) 0
   ·rw [h2] at h
    refine aqD f (d+1) h (by omega) λx hx hxd hdv=> ?_
    by_cases hxd2:x=d
    ·subst hxd2
     rw [Nat.mod_eq_zero_of_dvd hdv] at h2
     cases h2
    ·exact hb x hx (by omega) hdv
   ·rw [h2] at h;cases h
  ·have h1:n<d*d:=Nat.le_of_ble_eq_true h1
   intro x hx hxx
   refine hb x hx ?_
   apply Classical.byContradiction
   intro hc
   have:=Nat.mul_le_mul (show d<=x by omega) (show d<=x by omega)
   omega
theorem AM {n:Nat} (f:Nat) (h2:2<=n) (h:aJW n f 2=true):Pr n:=by
 apply Classical.byContradiction
 intro hp
 obtain ⟨r,hr,hd,hle⟩:=Xa h2 hp
 have:=hr.1
 exact aqD f 2 h (by decide) (λx a b=>by omega) r (by omega) hle hd
end Go.Proofs.YtohjofabochgfaaGreat

set_option maxRecDepth 100000
namespace Go.Proofs.YtohjofabochgfaaGreat
theorem KW:Pr 16513537:=AM 4065 (by decide) (by decide+kernel)
theorem KV:Pr 16521217:=AM 4066 (by decide) (by decide+kernel)
theorem atT:Pr 772231:=AM 880 (by decide) (by decide+kernel)
theorem atU:Pr 413527:=AM 645 (by decide) (by decide+kernel)
theorem BK:Pr 325086459374267:=aAE (F:=319338368737) (by decide) (by decide+kernel) λr hr hd=>by
 have h0:772231∣r-1:=fK (n:=325086459374267) (q:=772231) (e:=0) (a:=2) (m:=420970486) (by decide) atT (by decide+kernel) hr hd
 have h1:413527∣r-1:=fK (n:=325086459374267) (q:=413527) (e:=0) (a:=2) (m:=786131158) (by decide) atU (by decide+kernel) hr hd
 have k1:319338368737∣r-1:=Nat.Coprime.mul_dvd_of_dvd_of_dvd (m:=772231) (n:=413527) (show Nat.gcd 772231 413527=1 by decide+kernel) h0 h1
 exact k1
theorem anf:Pr 6942563:=AM 2636 (by decide) (by decide+kernel)
theorem ad2:Pr 41655379:=aAE (F:=6942563) (by decide) (by decide+kernel) λr hr hd=>by
 have h0:6942563∣r-1:=fK (n:=41655379) (q:=6942563) (e:=0) (a:=2) (m:=6) (by decide) anf (by decide+kernel) hr hd
 exact h0
theorem Pg:Pr 22160661629:=aAE (F:=41655379) (by decide) (by decide+kernel) λr hr hd=>by
 have h0:41655379∣r-1:=fK (n:=22160661629) (q:=41655379) (e:=0) (a:=2) (m:=532) (by decide) ad2 (by decide+kernel) hr hd
 exact h0
theorem eG:Pr 8999194758858563409123804352480028797519453:=aAE (F:=7204131026362786056900943) (by decide) (by decide+kernel) λr hr hd=>by
 have h0:325086459374267∣r-1:=fK (n:=8999194758858563409123804352480028797519453) (q:=325086459374267) (e:=0) (a:=2) (m:=27682465692912573825889481556) (by decide) BK (by decide+kernel) hr hd
 have h1:22160661629∣r-1:=fK (n:=8999194758858563409123804352480028797519453) (q:=22160661629) (e:=0) (a:=2) (m:=406088721966766121824069856270988) (by decide) Pg (by decide+kernel) hr hd
 have k1:7204131026362786056900943∣r-1:=Nat.Coprime.mul_dvd_of_dvd_of_dvd (m:=325086459374267) (n:=22160661629) (show Nat.gcd 325086459374267 22160661629=1 by decide+kernel) h0 h1
 exact k1
theorem bl:Pr 28948022309329048855892746252171976963363056481941560715954676764349967630337:=aAE (F:=8999194758858563409123804352480028797519453) (by decide) (by decide+kernel) λr hr hd=>by
 have h0:8999194758858563409123804352480028797519453∣r-1:=fK (n:=28948022309329048855892746252171976963363056481941560715954676764349967630337) (q:=8999194758858563409123804352480028797519453) (e:=0) (a:=2) (m:=3216734728497058061019394250637312) (by decide) eG (by decide+kernel) hr hd
 exact h0
theorem aAA:Pr 31649:=AM 179 (by decide) (by decide+kernel)
theorem aAB:Pr 12149:=AM 112 (by decide) (by decide+kernel)
theorem Il:Pr 5239247429827:=aAE (F:=384503701) (by decide) (by decide+kernel) λr hr hd=>by
 have h0:31649∣r-1:=fK (n:=5239247429827) (q:=31649) (e:=0) (a:=2) (m:=165542274) (by decide) aAA (by decide+kernel) hr hd
 have h1:12149∣r-1:=fK (n:=5239247429827) (q:=12149) (e:=0) (a:=2) (m:=431249274) (by decide) aAB (by decide+kernel) hr hd
 have k1:384503701∣r-1:=Nat.Coprime.mul_dvd_of_dvd_of_dvd (m:=31649) (n:=12149) (show Nat.gcd 31649 12149=1 by decide+kernel) h0 h1
 exact k1
theorem ang:Pr 5701177:=AM 2389 (by decide) (by decide+kernel)
theorem YS:Pr 399082391:=aAE (F:=5701177) (by decide) (by decide+kernel) λr hr hd=>by
 have h0:5701177∣r-1:=fK (n:=399082391) (q:=5701177) (e:=0) (a:=2) (m:=70) (by decide) ang (by decide+kernel) hr hd
 exact h0
theorem gB:Pr 10427374428728808478656897599072717:=aAE (F:=2090891391335963876357) (by decide) (by decide+kernel) λr hr hd=>by
 have h0:5239247429827∣r-1:=fK (n:=10427374428728808478656897599072717) (q:=5239247429827) (e:=0) (a:=2) (m:=1990242791238649418308) (by decide) Il (by decide+kernel) hr hd
 have h1:399082391∣r-1:=fK (n:=10427374428728808478656897599072717) (q:=399082391) (e:=0) (a:=2) (m:=26128375152309860944621076) (by decide) YS (by decide+kernel) hr hd
 have k1:2090891391335963876357∣r-1:=Nat.Coprime.mul_dvd_of_dvd_of_dvd (m:=5239247429827) (n:=399082391) (show Nat.gcd 5239247429827 399082391=1 by decide+kernel) h0 h1
 exact k1
theorem aKU:Pr 2:=AM 3 (by decide) (by decide+kernel)
theorem bk:Pr 28948022309329048855892746252171976963363056481941647379679742748393362948097:=aAE (F:=44785232154536915268878889192838239440863232) (by decide) (by decide+kernel) λr hr hd=>by
 have h0:10427374428728808478656897599072717∣r-1:=fK (n:=28948022309329048855892746252171976963363056481941647379679742748393362948097) (q:=10427374428728808478656897599072717) (e:=0) (a:=2) (m:=2776156405161148062854777934377771323097088) (by decide) gB (by decide+kernel) hr hd
 have h1:4294967296∣r-1:=fK (n:=28948022309329048855892746252171976963363056481941647379679742748393362948097) (q:=2) (e:=31) (a:=5) (m:=6739986666787659948666753771754907668419893943225417141728043264801) (by decide) aKU (by decide+kernel) hr hd
 have k1:44785232154536915268878889192838239440863232∣r-1:=Nat.Coprime.mul_dvd_of_dvd_of_dvd (m:=10427374428728808478656897599072717) (n:=4294967296) (show Nat.gcd 10427374428728808478656897599072717 4294967296=1 by decide+kernel) h0 h1
 exact k1
end Go.Proofs.YtohjofabochgfaaGreat

namespace Go.Proofs.YtohjofabochgfaaGreat
theorem Pr.avS {p:Nat} (h:Pr p) {a b:Int} (hd:(p:Int)∣a*b):(p:Int)∣a\/(p:Int)∣b:=by
 rw [Int.ofNat_dvd_left,Int.natAbs_mul] at hd
 rcases h.akS hd with h1|h1
 ·exact .inl (Int.ofNat_dvd_left.2 h1)
 ·exact .inr (Int.ofNat_dvd_left.2 h1)
def nm (p:Nat) (z:Int):Nat:=(z%(p:Int)).toNat
theorem auk {p:Nat} (hp:0<p) (z:Int):((nm p z:Nat):Int)=z%(p:Int):=by
 unfold nm
 have:=Int.emod_nonneg z (show (p:Int)≠0 by omega)
 omega
theorem aIU {p:Nat} (hp:0<p) (z:Int):(p:Int)∣((nm p z:Nat):Int)-z:=by
 rw [auk hp]
 have:=Int.emod_add_mul_ediv z p
 exact ⟨-(z/p),by grind⟩
theorem anz {p:Nat} (hp:0<p) (z:Int):nm p z<p:=by
 have h:=auk hp z
 have:=Int.emod_lt_of_pos z (show (0:Int)<p by omega)
 omega
theorem acB {p a b:Nat} (ha:a<p) (hb:b<p) (h:(p:Int)∣(a:Int)-(b:Int)):a=b:=by
 obtain ⟨k,hk⟩:=h
 have hpk:(p:Int)*k<p*1/\(p:Int)*(-1)<p*k:=by constructor<;>omega
 have h1:=Int.lt_of_mul_lt_mul_left hpk.1 (by omega)
 have h2:=Int.lt_of_mul_lt_mul_left hpk.2 (by omega)
 have:k=0:=by omega
 subst this
 omega
def aKN (p:Nat) (a:Int):Int:=((nm p a^(p-2):Nat):Int)
structure Cur (p b:Nat):Prop where
 pr:Pr p
 big:5<=p
 n2:∀ x:Int,¬(p:Int)∣x*x*x+b
theorem Cur.pos {p b:Nat} (c:Cur p b):0<p:=c.pr.pos
abbrev PtQ:Type:=Option (Nat×Nat)
structure Lin (p:Nat) (x1 y1 x2 y2 l:Int):Prop where
 a:(p:Int)∣l*(x1-x2)-(y1-y2)
 b:(p:Int)∣l*(y1+y2)-(x1*x1+x1*x2+x2*x2)
structure Thd (p:Nat) (x1 y1 x2 l x3 y3:Int):Prop where
 x:(p:Int)∣x3-(l*l-x1-x2)
 y:(p:Int)∣y3-(l*(x1-x3)-y1)
def aIx (p:Nat) (P R:Nat×Nat):Int:=if P.1=R.1 then 3*P.1*P.1*aKN p (P.2+P.2) else ((R.2:Int)-P.2)*aKN p ((R.1:Int)-P.1)
def aIl (p:Nat) (P R:Nat×Nat) (l:Int):Nat×Nat:=(nm p (l*l-P.1-R.1),nm p (l*(P.1-nm p (l*l-P.1-R.1))-P.2))
def aK0 (p:Nat):PtQ->PtQ->PtQ
 |none,R=>R
 |some P,none=>some P
 |some P,some R=>if P.1=R.1/\P.2≠R.2 then none else some (aIl p P R (aIx p P R))
variable {p b:Nat}
theorem gZ (P:PtQ):aK0 p P none=P:=by cases P<;>rfl
end Go.Proofs.YtohjofabochgfaaGreat

namespace Go.Proofs.YtohjofabochgfaaGreat
open Sx Go
abbrev Sm (p:Nat):Prop:=0<p/\p<57896044618658097711785492504343953926634992332820282019728792003956564819968
theorem aJ2 {p:Nat} (n:Nat):(p:Int)∣((n%p:Nat):Int)-(n:Int):=by
 have:=Nat.div_add_mod n p
 refine ⟨-((n/p:Nat):Int),?_⟩
 have h:((p*(n/p)+n%p:Nat):Int)=(n:Int):=by rw [this]
 rw [Int.natCast_add,Int.natCast_mul] at h
 rw [Int.mul_neg]
 omega
variable {p:Nat}
theorem aCX (hp:Sm p) (a b:aa):(p:Int)∣((bP p a b).nat:Int)-((a.nat:Int)*(b.nat:Int)):=by
 have e:(bP p a b).nat=a.nat*b.nat%p:=dy hp
 rw [e]
 have:=aJ2 (p:=p) (a.nat*b.nat)
 rwa [Int.natCast_mul] at this
theorem aJN (hp:Sm p) (a b:aa):(p:Int)∣((Gg p a b).nat:Int)-((a.nat:Int)+(b.nat:Int)):=by
 have e:(Gg p a b).nat=(a.nat+b.nat)%p:=dy hp
 rw [e]
 have:=aJ2 (p:=p) (a.nat+b.nat)
 rwa [Int.natCast_add] at this
theorem tI (hp:Sm p) (a b:aa):(bP p a b).nat<p:=by
 rw [show (bP p a b).nat=a.nat*b.nat%p from dy hp]
 exact Nat.mod_lt _ hp.1
theorem aHK (hp:Sm p) (a b:aa):(Gg p a b).nat<p:=by
 rw [show (Gg p a b).nat=(a.nat+b.nat)%p from dy hp]
 exact Nat.mod_lt _ hp.1
theorem anx:(aa.mk 0 0 0 0).nat=0:=by decide
theorem UB {p b m:Nat} (pr:Pr p) (h3:p=3*m+1) (hb0:0<b) (hb:b<p) (hm:Nat.blt m (2^256)=true) (hk:Nat.beq (pwm p (p-b) m) 1=false) (x:Int):¬(p:Int)∣x*x*x+b:=λhd=>by
 have h2:=pr.1
 rw [ajx h2 hm] at hk
 obtain ⟨k,hk1⟩:=hd
 obtain ⟨j,hj⟩:=aIU pr.pos x
 have hn:p∣nm p x*nm p x*nm p x+b:=Int.natCast_dvd_natCast.1 (by
  rw [Int.natCast_add,Int.natCast_mul,Int.natCast_mul]
  generalize ((nm p x:Nat):Int)=n at*
  exact ⟨k+j*(n*n+n*x+x*x),by grind⟩)
 generalize nm p x=n at*
 have hpn:¬p∣n:=λhd=>by
  have h1:p∣n*n*n:=Nat.dvd_trans hd (Nat.dvd_mul_left ..)
  have:=(Nat.dvd_add_right h1).1 hn
  have:=Nat.le_of_dvd hb0 this
  omega
 have hf:=avD pr hpn
 have e:n^3%p=(p-b)%p:=by
  obtain ⟨c,hc⟩:=hn
  have hc0:c≠0:=λe=>by rw [e] at hc;omega
  obtain ⟨d,rfl⟩:∃ d,c=d+1:=⟨c-1,by omega⟩
  have:n^3=(p-b)+p*d:=by
   rw [show n^3=n*n*n by rw [Nat.pow_succ,Nat.pow_succ,Nat.pow_one]]
   rw [Nat.mul_succ] at hc
   omega
  rw [this,Nat.add_mul_mod_self_left]
 have:(p-b)^m%p=1:=by
  rw [Nat.pow_mod,<-e,<-Nat.pow_mod,<-Nat.pow_mul,show 3*m=p-1 by omega]
  exact hf
 rw [this] at hk
 cases hk
theorem aDi {s:Int} (h:ap s=true):Cur (pS s) (bS s).nat:=by
 rcases cy h with rfl|rfl|rfl|rfl
 ·have e:pS 0=16513537:=by decide+kernel
  have e2:(bS 0).nat=23:=by decide+kernel
  rw [e,e2]
  exact ⟨KW,by decide,UB (m:=5504512) KW (by decide) (by decide) (by decide) (by decide+kernel) (by decide+kernel)⟩
 ·have e:pS 1=16521217:=by decide+kernel
  have e2:(bS 1).nat=21:=by decide+kernel
  rw [e,e2]
  exact ⟨KV,by decide,UB (m:=5507072) KV (by decide) (by decide) (by decide) (by decide+kernel) (by decide+kernel)⟩
 ·have e:pS 2=28948022309329048855892746252171976963363056481941560715954676764349967630337:=by decide+kernel
  have e2:(bS 2).nat=5:=by decide+kernel
  rw [e,e2]
  exact ⟨bl,by decide,UB (m:=9649340769776349618630915417390658987787685493980520238651558921449989210112) bl (by decide) (by decide) (by decide) (by decide+kernel) (by decide+kernel)⟩
 ·have e:pS 3=28948022309329048855892746252171976963363056481941647379679742748393362948097:=by decide+kernel
  have e2:(bS 3).nat=5:=by decide+kernel
  rw [e,e2]
  exact ⟨bk,by decide,UB (m:=9649340769776349618630915417390658987787685493980549126559914249464454316032) bk (by decide) (by decide) (by decide) (by decide+kernel) (by decide+kernel)⟩
end Go.Proofs.YtohjofabochgfaaGreat

namespace Go.Proofs.YtohjofabochgfaaGreat
open Sx Go
theorem hY (a n p:Nat):(a%p)^n%p=a^n%p:=(Nat.pow_mod a n p).symm
theorem aKm {p a b c d:Nat} (h1:a%p=c%p) (h2:b%p=d%p):a*b%p=c*d%p:=by rw [Nat.mul_mod,h1,h2,<-Nat.mul_mod]
theorem aCL {p t:Nat} (pr:Pr p) (ht:t<p) (h:t*t%p=1):t=1\/t=p-1:=by
 have h2:=pr.1
 have hd:(p:Int)∣((t:Int)-1)*((t:Int)+1):=by
  have e:=Nat.div_add_mod (t*t) p
  rw [h] at e
  refine ⟨((t*t/p:Nat):Int),?_⟩
  have e:((p*(t*t/p)+1:Nat):Int)=((t*t:Nat):Int):=congrArg (λn:Nat=>(n:Int)) e
  rw [Int.natCast_add,Int.natCast_mul,Int.natCast_mul] at e
  have e2:((t:Int)-1)*((t:Int)+1)=(t:Int)*t-1:=by grind
  rw [e2,<-e]
  omega
 rcases pr.avS hd with h|h
 ·left
  exact acB ht (by omega) h
 ·right
  refine acB ht (by omega) ?_
  obtain ⟨k,hk⟩:=h
  have:((p-1:Nat):Int)=(p:Int)-1:=by omega
  rw [this]
  exact ⟨k-1,by rw [Int.mul_sub];omega⟩
theorem aIV {p:Nat} (h2:2<=p):(p-1)*(p-1)%p=1:=by
 obtain ⟨q,rfl⟩:∃ q,p=q+2:=⟨p-2,by omega⟩
 have:(q+2-1)*(q+2-1)=1+(q+2)*q:=by
  rw [show q+2-1=q+1 by omega]
  grind
 rw [this,Nat.add_mul_mod_self_left]
 exact Nat.mod_eq_of_lt (by omega)
section
variable {p:Nat}
theorem BV (hp:Sm p) (a b:aa):(bP p a b).nat=a.nat*b.nat%p:=dy hp
theorem kO (hp:Sm p) (h2:2<=p) (a k:aa):(gX p a k).nat=a.nat^k.nat%p:=by
 rw [avO (by omega)]
 exact dy hp
theorem aFf (hp:Sm p) {b:aa} (hb:b.nat<p):∀ n,(sqN p b n).nat=b.nat^2^n%p
 |0=>by
  show b.nat=_
  rw [Nat.pow_zero,Nat.pow_one,Nat.mod_eq_of_lt hb]
 |n+1=>by
  show (bP p (sqN p b n) (sqN p b n)).nat=_
  rw [BV hp,aFf hp hb n,<-Nat.mul_mod,<-Nat.pow_add,<-Nat.two_mul,<-Nat.pow_succ']
theorem FP (t:aa):eqE t eU=Nat.beq t.nat 1:=by rw [aG9];rfl
theorem zt {a b:Nat} (h:Nat.beq a b=false):a≠b:=λe=>by rw [e,Nat.beq_refl] at h;cases h
structure aCv (p a i:Nat) (w:Ton):Prop where
 x:w.1.nat<p
 b:w.2.1.nat<p
 z:w.2.2.nat<p
 sq:w.1.nat*w.1.nat%p=a*w.2.1.nat%p
 one:w.2.1.nat^2^i%p=1
 neg:w.2.2.nat^2^i%p=p-1
theorem anh (b i:Nat):b^2^(i+1)=b^2^i*b^2^i:=by rw [<-Nat.pow_add,<-Nat.two_mul,<-Nat.pow_succ']
theorem ar1 (z i:Nat) (p:Nat):(z*z%p)^2^i%p=z^2^(i+1)%p:=by rw [hY,<-Nat.pow_two,<-Nat.pow_mul,<-Nat.pow_succ']
theorem ZB (pr:Pr p) {b i:Nat} (h:b^2^(i+1)%p=1):b^2^i%p=1\/b^2^i%p=p-1:=by
 rw [anh,Nat.mul_mod] at h
 exact aCL pr (Nat.mod_lt _ pr.pos) h
theorem aqE (hp:Sm p) (pr:Pr p) {a i:Nat} {x b z u:aa} (hx:x.nat*x.nat%p=a*b.nat%p) (hb:b.nat^2^i%p=p-1) (hu:u.nat*u.nat%p=z.nat%p) (hz:z.nat^2^i%p=p-1):
 (bP p x u).nat*(bP p x u).nat%p=a*(bP p b z).nat%p/\(bP p b z).nat^2^i%p=1:=by
 constructor
 ·rw [BV hp,BV hp,<-Nat.mul_mod,Nat.mul_mod_mod,show x.nat*u.nat*(x.nat*u.nat)=x.nat*x.nat*(u.nat*u.nat) by ac_rfl,show a*(b.nat*z.nat)=a*b.nat*z.nat from (Nat.mul_assoc ..).symm]
  exact aKm hx hu
 ·rw [BV hp,hY,Nat.mul_pow,Nat.mul_mod,hb,hz]
  exact aIV pr.1
theorem al2 (hp:Sm p) (pr:Pr p) {a m k:Nat} {w:Ton} (hk:k<m) (h:aCv p a (m-k) w):aCv p a (m-(k+1)) (yP p m k w):=by
 obtain ⟨x,b,z⟩:=w
 have e:m-k=(m-(k+1))+1:=by omega
 rw [e] at h
 obtain ⟨hx,hb,hz,h1,h2,h3⟩:=h
 dsimp only at*
 have ht:=aFf hp hb (m-(k+1))
 have hz2:(bP p z z).nat^2^(m-(k+1))%p=p-1:=by rw [BV hp,ar1];exact h3
 unfold yP
 dsimp only
 rw [show m-k-1=m-(k+1) by omega,FP]
 cases hq:Nat.beq (sqN p b (m-(k+1))).nat 1
 ·simp only [cond_false]
  have hn:=zt hq
  rw [ht] at hn
  have hb1:=(ZB pr h2).resolve_left hn
  obtain ⟨g1,g2⟩:=aqE hp pr (u:=z) h1 hb1 (by rw [BV hp,Nat.mod_mod]) hz2
  exact ⟨tI hp _ _,tI hp _ _,tI hp _ _,g1,g2,hz2⟩
 ·simp only [cond_true]
  have hb1:=Nat.eq_of_beq_eq_true hq
  rw [ht] at hb1
  exact ⟨hx,hb,tI hp _ _,h1,hb1,hz2⟩
theorem aDS (hp:Sm p) (pr:Pr p) {a m:Nat} {w:Ton} (h:aCv p a m w):(axH p m w).1.nat<p/\(axH p m w).1.nat*(axH p m w).1.nat%p=a%p:=by
 have key:∀ n,n<=m->aCv p a (m-n) (upto (yP p m) w n):=by
  intro n
  induction n with
  |zero=>intro _;exact h
  |succ n ih=>intro hn;exact al2 hp pr (by omega) (ih (by omega))
 have hk:=key m (Nat.le_refl _)
 rw [Nat.sub_self] at hk
 obtain ⟨hx,hb,hz,h1,h2,h3⟩:=hk
 refine ⟨hx,?_⟩
 rw [Nat.pow_zero,Nat.pow_one,Nat.mod_eq_of_lt hb] at h2
 rw [h2,Nat.mul_one] at h1
 exact h1
end
def IQ (s:Int):aa:=dX (eE (aY s.toNat).1 eU).1 (aY s.toNat).2.1.toNat
def adS (s:Int):Nat:=(aY s.toNat).2.1.toNat
structure alH (s:Int):Prop where
 od:(IQ s).nat*2^adS s=pS s-1
 up:2*(dr (qq (IQ s) eU).1).nat=(IQ s).nat+1
 hf:(dr (eE (aY s.toNat).1 eU).1).nat=(pS s-1)/2
 ad:1<=adS s
 ai:(aY s.toNat).2.1=(adS s:Int)
 nr:pwm (pS s) 5 ((pS s-1)/2)=pS s-1
 pr:Pr (pS s)
 sm:Sm (pS s)
 o2:pS s%2=1
theorem W7 {s:Int} (hs:ap s=true):alH s:=by
 have pr:=(aDi hs).pr
 have sm:Sm (pS s):=tF hs
 rcases cy hs with rfl|rfl|rfl|rfl<;>
  exact ⟨by decide+kernel,by decide+kernel,by decide+kernel,by decide+kernel,by decide+kernel,by decide+kernel,pr,sm,by decide+kernel⟩
section
variable {s:Int} (k:alH s)
include k
theorem atV (a:Nat):(a^(IQ s).nat)^2^(adS s-1)=a^((pS s-1)/2):=by
 rw [<-Nat.pow_mul]
 congr 1
 have h:=k.od
 have ha:=k.ad
 obtain ⟨n,hn⟩:∃ n,adS s=n+1:=⟨adS s-1,by omega⟩
 rw [hn] at h⊢
 rw [Nat.pow_succ,<-Nat.mul_assoc] at h
 rw [show n+1-1=n by omega]
 omega
theorem akF:(5^(IQ s).nat)^2^(adS s-1)%pS s=pS s-1:=by
 rw [atV k]
 have h:=k.nr
 have hp:=k.sm
 rw [ajx k.pr.1 (Nat.ble_eq_true_of_le (by have:=hp.2;omega))] at h
 exact h
omit k in
theorem akG:(aa.mk 5 0 0 0).nat=5:=by decide
theorem asp {a:aa} (he:a.nat^((pS s-1)/2)%pS s=1):(sN s a).nat<pS s/\(sN s a).nat*(sN s a).nat%pS s=a.nat%pS s:=by
 have hp:=k.sm
 have pr:=k.pr
 have e:sN s a=(axH (pS s) (adS s-1) (gX (pS s) a (dr (qq (IQ s) eU).1),gX (pS s) a (IQ s),gX (pS s) ⟨5,0,0,0⟩ (IQ s))).1:=by
  show (axH (pS s) ((aY s.toNat).2.1-1).toNat _).1=_
  rw [k.ai,show ((adS s:Int)-1).toNat=adS s-1 by omega]
  rfl
 rw [e]
 refine aDS hp pr (a:=a.nat) ⟨?_,?_,?_,?_,?_,?_⟩
 ·rw [kO hp pr.1];exact Nat.mod_lt _ pr.pos
 ·rw [kO hp pr.1];exact Nat.mod_lt _ pr.pos
 ·rw [kO hp pr.1];exact Nat.mod_lt _ pr.pos
 ·show (gX (pS s) a (dr (qq (IQ s) eU).1)).nat*(gX (pS s) a (dr (qq (IQ s) eU).1)).nat%pS s=a.nat*(gX (pS s) a (IQ s)).nat%pS s
  rw [kO hp pr.1,kO hp pr.1,<-Nat.mul_mod,Nat.mul_mod_mod,<-Nat.pow_add,<-Nat.two_mul,k.up,Nat.pow_succ,Nat.mul_comm]
 ·show (gX (pS s) a (IQ s)).nat^_%pS s=1
  rw [kO hp pr.1,hY,atV k]
  exact he
 ·show (gX (pS s) ⟨5,0,0,0⟩ (IQ s)).nat^_%pS s=pS s-1
  rw [kO hp pr.1,hY,akG]
  exact akF k
end
theorem aff {p:Nat} (hp:Sm p) (ho:p%2=1) {x:aa} (hx:x.nat<p):(la p x).nat<p/\(la p x).nat%2=0/\(la p x).nat*(la p x).nat%p=x.nat*x.nat%p:=by
 have hb:(x.w0%2==1)=Nat.beq (x.nat%2) 1:=by
  have e:x.nat%2=x.w0.toNat%2:=by unfold Sx.aa.nat;omega
  rw [e]
  have h2:(x.w0%2).toNat=x.w0.toNat%2:=by rw [UInt64.toNat_mod];rfl
  rw [<-h2]
  by_cases h:x.w0%2=1
  ·rw [h];rfl
  ·have hn:¬(x.w0%2).toNat=1:=λe=>h (UInt64.toNat_inj.1 e)
   have:Nat.beq (x.w0%2).toNat 1=false:=by
    cases hb:Nat.beq (x.w0%2).toNat 1
    ·rfl
    ·exact absurd (Nat.eq_of_beq_eq_true hb) hn
   rw [this]
   simpa using h
 unfold la
 rw [hb]
 cases hq:Nat.beq (x.nat%2) 1
 ·simp only [cond_false]
  have:=zt hq
  exact ⟨hx,by omega,trivial⟩
 ·simp only [cond_true]
  have h1:=Nat.eq_of_beq_eq_true hq
  have e:(IR p x).nat=p-x.nat:=by
   rw [show (IR p x).nat=(p-x.nat%p)%p from dy hp,Nat.mod_eq_of_lt hx,Nat.mod_eq_of_lt (by omega)]
  rw [e]
  refine ⟨by omega,by omega,?_⟩
  obtain ⟨d,hd⟩:∃ d,p=x.nat+d:=⟨p-x.nat,by omega⟩
  have e2:p-x.nat=d:=by omega
  rw [e2]
  have e3:d*d+p*x.nat=x.nat*x.nat+p*d:=by rw [hd];grind
  have:=congrArg (· %p) e3
  simp only [Nat.add_mul_mod_self_left] at this
  exact this
theorem avQ {p:Nat} (pr:Pr p) (ho:p%2=1) {x y:Nat} (hx:x<p) (hy:y<p) (ex:x%2=0) (ey:y%2=0) (h:x*x%p=y*y%p):x=y:=by
 have hd:(p:Int)∣((x:Int)-y)*((x:Int)+y):=by
  obtain ⟨a,ha⟩:=aJ2 (p:=p) (x*x)
  obtain ⟨b,hb⟩:=aJ2 (p:=p) (y*y)
  rw [h] at ha
  rw [Int.natCast_mul] at ha hb
  generalize (((y*y%p):Nat):Int)=r at*
  exact ⟨b-a,by grind⟩
 rcases pr.avS hd with h|h
 ·exact acB hx hy h
 ·have h:(p:Int)∣((x+y:Nat):Int):=by rw [Int.natCast_add];exact h
  have h:=Int.natCast_dvd_natCast.1 h
  obtain ⟨c,hc⟩:=h
  have hc2:c<2:=by
   apply Classical.byContradiction
   intro h2
   have:=Nat.mul_le_mul_left p (show 2<=c by omega)
   omega
  rcases (show c=0\/c=1 by omega) with rfl|rfl<;>omega
end Go.Proofs.YtohjofabochgfaaGreat

namespace Go.Proofs.YtohjofabochgfaaGreat
open Sx Go
def kF (p:Nat):Nat->aa->Nat->Nat
 |0,_,k=>k
 |n+1,s,k=>cond (eqE s eU) k (kF p n (bP p s s) (k+1))
def tsB (p m k:Nat) (w:Ton):aa:=sqN p w.2.2 (m-k-1)
def tsW (p m k:Nat) (w:Ton):Ton:=(bP p w.1 (tsB p m k w),bP p w.2.1 (bP p (tsB p m k w) (tsB p m k w)),bP p (tsB p m k w) (tsB p m k w))
def tsF (p:Nat):Nat->Nat->Ton->Option aa
 |0,_,_=>none
 |f+1,m,w=>cond (eqE w.2.1 eU) (some w.1) (cond (Nat.beq (kF p m w.2.1 0) m) none (tsF p f (kF p m w.2.1 0) (tsW p m (kF p m w.2.1 0) w)))
section
variable {p:Nat}
theorem aeF (hp:Sm p):∀ (n:Nat) (s:aa) (k:Nat),s.nat<p->k<=kF p n s k/\kF p n s k<=k+n/\(kF p n s k<k+n->s.nat^2^(kF p n s k-k)%p=1)/\∀ j,k<=j->j<kF p n s k->s.nat^2^(j-k)%p≠1
 |0,s,k,_=>⟨Nat.le_refl _,Nat.le_refl _,λh=>absurd h (Nat.lt_irrefl _),λj h1 h2=>absurd h2 (by show ¬j<k;omega)⟩
 |n+1,s,k,hs=>by
  unfold kF
  rw [FP]
  cases hq:Nat.beq s.nat 1
  ·simp only [cond_false]
   obtain ⟨h1,h2,h3,h4⟩:=aeF hp n (bP p s s) (k+1) (tI hp _ _)
   have e:∀ j,(bP p s s).nat^2^j%p=s.nat^2^(j+1)%p:=λj=>by rw [BV hp,ar1]
   refine ⟨by omega,by omega,λh=> ?_,λj hj1 hj2=> ?_⟩
   ·have:=h3 (by omega)
    rw [e] at this
    rw [show kF p n (bP p s s) (k+1)-k=kF p n (bP p s s) (k+1)-(k+1)+1 by omega]
    exact this
   ·by_cases hj:j=k
    ·subst hj
     rw [Nat.sub_self,Nat.pow_zero,Nat.pow_one,Nat.mod_eq_of_lt hs]
     exact zt hq
    ·have:=h4 j (by omega) hj2
     rw [e] at this
     rw [show j-k=j-(k+1)+1 by omega]
     exact this
  ·simp only [cond_true]
   have h1:=Nat.eq_of_beq_eq_true hq
   refine ⟨Nat.le_refl _,by omega,λ_=> ?_,λj hj1 hj2=>by omega⟩
   rw [Nat.sub_self,Nat.pow_zero,Nat.pow_one,Nat.mod_eq_of_lt hs]
   exact h1
structure aJO (p a m:Nat) (w:Ton):Prop where
 x:w.1.nat<p
 t:w.2.1.nat<p
 z:w.2.2.nat<p
 sq:w.1.nat*w.1.nat%p=a*w.2.1.nat%p
 m1:1<=m
 neg:w.2.2.nat^2^(m-1)%p=p-1
theorem aDN (hp:Sm p) (pr:Pr p) {a m k:Nat} {w:Ton} (h:aJO p a m w) (hk0:1<=k) (hk:k<m) (h1:w.2.1.nat^2^k%p=1) (h2:w.2.1.nat^2^(k-1)%p≠1):
 aJO p a k (tsW p m k w)/\(tsW p m k w).2.1.nat^2^(k-1)%p=1:=by
 have hb:=aFf hp h.z (m-k-1)
 have hz':(bP p (tsB p m k w) (tsB p m k w)).nat^2^(k-1)%p=p-1:=by
  rw [BV hp,ar1]
  show (sqN p w.2.2 (m-k-1)).nat^_%p=_
  rw [hb,hY,<-Nat.pow_mul,<-Nat.pow_add,show m-k-1+(k-1+1)=m-1 by omega]
  exact h.neg
 have ht:w.2.1.nat^2^(k-1)%p=p-1:=by
  have e:k=(k-1)+1:=by omega
  rw [e] at h1
  exact (ZB pr h1).resolve_left h2
 obtain ⟨g1,g2⟩:=aqE hp pr (u:=tsB p m k w) (z:=bP p (tsB p m k w) (tsB p m k w)) h.sq ht (by rw [BV hp,Nat.mod_mod]) hz'
 exact ⟨⟨tI hp _ _,tI hp _ _,tI hp _ _,g1,hk0,hz'⟩,g2⟩
theorem aqC (hp:Sm p) (pr:Pr p) {a:Nat}:∀ (f m:Nat) (w:Ton),m<f->aJO p a m w->w.2.1.nat^2^(m-1)%p=1->∃ x,tsF p f m w=some x/\x.nat<p/\x.nat*x.nat%p=a%p
 |0,m,w,h,_,_=>absurd h (Nat.not_lt_zero _)
 |f+1,m,w,hf,h,hr=>by
  unfold tsF
  rw [FP]
  cases hq:Nat.beq w.2.1.nat 1
  ·simp only [cond_false]
   obtain ⟨k1,k2,k3,k4⟩:=aeF hp m w.2.1 0 h.t
   have m1:=h.m1
   have hk:kF p m w.2.1 0<m:=by
    apply Classical.byContradiction
    intro hn
    exact k4 (m-1) (by omega) (by omega) hr
   have hk0:1<=kF p m w.2.1 0:=by
    apply Classical.byContradiction
    intro hn
    have e:kF p m w.2.1 0=0:=by omega
    have:=k3 (by omega)
    rw [e,Nat.sub_self,Nat.pow_zero,Nat.pow_one,Nat.mod_eq_of_lt h.t] at this
    exact zt hq this
   have e1:=k3 (by omega)
   have e2:=k4 (kF p m w.2.1 0-1) (by omega) (by omega)
   rw [Nat.sub_zero] at e1 e2
   have hb:Nat.beq (kF p m w.2.1 0) m=false:=by
    cases hb:Nat.beq (kF p m w.2.1 0) m
    ·rfl
    ·have:=Nat.eq_of_beq_eq_true hb;omega
   rw [hb]
   obtain ⟨g1,g2⟩:=aDN hp pr h hk0 hk e1 e2
   exact aqC hp pr f _ _ (by omega) g1 g2
  ·simp only [cond_true]
   have h1:=Nat.eq_of_beq_eq_true hq
   have:=h.sq
   rw [h1,Nat.mul_one] at this
   exact ⟨w.1,rfl,h.x,this⟩
theorem aDP (hp:Sm p) (pr:Pr p) (h3:3<=p) {a f m:Nat} {w:Ton} (h:aJO p a m w) (hr:w.2.1.nat^2^(m-1)%p=p-1):tsF p f m w=none:=by
 cases f with
 |zero=>rfl
 |succ f=>
  unfold tsF
  rw [FP]
  have m1:=h.m1
  have up:∀ j,j<=m-1->w.2.1.nat^2^j%p≠1:=λj hj e=>by
   have:w.2.1.nat^2^(m-1)%p=1:=by
    rw [show m-1=j+(m-1-j) by omega,Nat.pow_add,Nat.pow_mul,Nat.pow_mod,e,Nat.one_pow,Nat.mod_eq_of_lt (by omega)]
   omega
  have hq:Nat.beq w.2.1.nat 1=false:=by
   cases hq:Nat.beq w.2.1.nat 1
   ·rfl
   ·have:=up 0 (by omega)
    rw [Nat.pow_zero,Nat.pow_one,Nat.mod_eq_of_lt h.t] at this
    exact absurd (Nat.eq_of_beq_eq_true hq) this
  rw [hq]
  obtain ⟨k1,k2,k3,k4⟩:=aeF hp m w.2.1 0 h.t
  have e:kF p m w.2.1 0=m:=by
   apply Classical.byContradiction
   intro hn
   have:=k3 (by omega)
   rw [Nat.sub_zero] at this
   exact up _ (by omega) this
  rw [e,Nat.beq_refl]
  rfl
end
section
variable {s:Int} (k:alH s)
include k
def fI (s:Int) (a:aa):Ton:=(gX (pS s) a (dr (qq (IQ s) eU).1),gX (pS s) a (IQ s),gX (pS s) ⟨5,0,0,0⟩ (IQ s))
theorem al1 (a:aa):aJO (pS s) a.nat (adS s) (fI s a):=by
 have hp:=k.sm
 have pr:=k.pr
 refine ⟨?_,?_,?_,?_,k.ad,?_⟩
 ·show (gX (pS s) a _).nat<_
  rw [kO hp pr.1];exact Nat.mod_lt _ pr.pos
 ·show (gX (pS s) a _).nat<_
  rw [kO hp pr.1];exact Nat.mod_lt _ pr.pos
 ·show (gX (pS s) _ _).nat<_
  rw [kO hp pr.1];exact Nat.mod_lt _ pr.pos
 ·show (gX (pS s) a (dr (qq (IQ s) eU).1)).nat*(gX (pS s) a (dr (qq (IQ s) eU).1)).nat%pS s=a.nat*(gX (pS s) a (IQ s)).nat%pS s
  rw [kO hp pr.1,kO hp pr.1,<-Nat.mul_mod,Nat.mul_mod_mod,<-Nat.pow_add,<-Nat.two_mul,k.up,Nat.pow_succ,Nat.mul_comm]
 ·show (gX (pS s) ⟨5,0,0,0⟩ (IQ s)).nat^_%pS s=pS s-1
  rw [kO hp pr.1,hY,akG]
  exact akF k
theorem acn (a:aa):(fI s a).2.1.nat^2^(adS s-1)%pS s=a.nat^((pS s-1)/2)%pS s:=by
 show (gX (pS s) a (IQ s)).nat^_%pS s=_
 rw [kO k.sm k.pr.1,hY,atV k]
theorem avR {a:Nat} (ha:¬pS s∣a):a^((pS s-1)/2)%pS s=1\/a^((pS s-1)/2)%pS s=pS s-1:=by
 have hf:=avD k.pr ha
 have ho:=k.o2
 have h2:=k.pr.1
 have e:pS s-1=(pS s-1)/2+(pS s-1)/2:=by omega
 rw [e,Nat.pow_add,Nat.mul_mod] at hf
 exact aCL k.pr (Nat.mod_lt _ k.pr.pos) hf
theorem aDO {a:aa} (ha:a.nat<pS s) (hz:bZ a=false):(tsF (pS s) (adS s+1) (adS s) (fI s a)).map (la (pS s))=
 cond (eqE (gX (pS s) a (dr (eE (aY s.toNat).1 eU).1)) eU) (some (la (pS s) (sN s a))) none:=by
 have hp:=k.sm
 have pr:=k.pr
 have h2:=pr.1
 have ho:=k.o2
 have h0:=al1 k a
 have hpw:=acn k a
 rw [FP,kO hp h2,k.hf]
 have hn:¬pS s∣a.nat:=λhd=>by
  have:=Nat.eq_zero_of_dvd_of_lt hd ha
  rw [oc,this] at hz
  cases hz
 rcases avR k hn with h|h
 ·rw [h]
  obtain ⟨x,e1,e2,e3⟩:=aqC hp pr (adS s+1) (adS s) _ (by omega) h0 (by rw [hpw];exact h)
  rw [e1]
  obtain ⟨r1,r2⟩:=asp k h
  obtain ⟨v1,v2,v3⟩:=aff hp ho e2
  obtain ⟨w1,w2,w3⟩:=aff hp ho r1
  show some _=some _
  rw [rc (avQ pr ho v1 w1 v2 w2 (by rw [v3,w3,e3,r2]))]
 ·have h3:3<=pS s:=by omega
  rw [aDP hp pr h3 h0 (by rw [hpw];exact h),h]
  have:Nat.beq (pS s-1) 1=false:=by
   cases hb:Nat.beq (pS s-1) 1
   ·rfl
   ·have:=Nat.eq_of_beq_eq_true hb;omega
  rw [this]
  rfl
end
end Go.Proofs.YtohjofabochgfaaGreat

namespace Go.Proofs.YtohjofabochgfaaGreat
open Sx Go
theorem zero_eq {e:aa} (h:bZ e=true):e=⟨0,0,0,0⟩:=rc (by rw [oc] at h;rw [Nat.eq_of_beq_eq_true h];exact anx.symm)
def sqA (s:Int) (x:aa):aa:=ofP (pS s) (Cz (pS s) x (bS s))
def sqB (s:Int) (x:aa):Bool:=eqE (gX (pS s) (sqA s x) (dr (eE (aY s.toNat).1 eU).1)) eU
def sqY (s:Int) (x:aa):aa:=la (pS s) (sN s (sqA s x))
def ptD (s:Int) (x:aa) (odd:Bool):Pt:=(x,cond odd (IR (pS s) (sqY s x)) (sqY s x),false)
theorem aJ9 {s:Int} (hs:ap s=true) (x:aa):(sqA s x).nat<pS s/\((pS s:Nat):Int)∣((sqA s x).nat:Int)-((x.nat:Int)*x.nat*x.nat+(bS s).nat):=by
 have hp:Sm (pS s):=tF hs
 have e:(sqA s x).nat=(Cz (pS s) x (bS s)).nat%pS s:=dy hp
 have hlt:(Cz (pS s) x (bS s)).nat<pS s:=aHK hp _ _
 rw [e,Nat.mod_eq_of_lt hlt]
 refine ⟨hlt,?_⟩
 have c2:=aCX hp x x
 have c3:=aCX hp (bP (pS s) x x) x
 have c4:=aJN hp (bP (pS s) (bP (pS s) x x) x) (bS s)
 unfold Cz
 generalize bP (pS s) (bP (pS s) x x) x=xxx at*
 generalize bP (pS s) x x=xx at*
 generalize Gg (pS s) xxx (bS s)=z at*
 have:(z.nat:Int)-((x.nat:Int)*x.nat*x.nat+(bS s).nat)=((z.nat:Int)-(xxx.nat+(bS s).nat))+(((xxx.nat:Int)-xx.nat*x.nat)+(((xx.nat:Int)-x.nat*x.nat)*x.nat)):=by grind
 rw [this]
 exact Int.dvd_add c4 (Int.dvd_add c3 (Int.dvd_trans c2 (Int.dvd_mul_right ..)))
theorem ar2 {s:Int} (hs:ap s=true) (x:aa):bZ (sqA s x)=false:=by
 have h:=(aJ9 hs x).2
 cases hz:bZ (sqA s x)
 ·rfl
 ·exfalso
  rw [oc] at hz
  rw [Nat.eq_of_beq_eq_true hz] at h
  obtain ⟨k,hk⟩:=h
  exact (aDi hs).n2 (x.nat:Int) ⟨-k,by rw [Int.mul_neg,<-hk];simp⟩
theorem azF {s:Int} (hs:ap s=true):sqB s ⟨0,0,0,0⟩=false:=by
 rcases cy hs with rfl|rfl|rfl|rfl<;>decide+kernel
theorem aJ8 {s:Int} (hs:ap s=true) {x:aa} (h:sqB s x=true):(sqY s x).nat<pS s/\(sqY s x).nat%2=0/\(sqY s x).nat*(sqY s x).nat%pS s=(sqA s x).nat%pS s:=by
 have k:=W7 hs
 unfold sqB at h
 rw [FP,kO k.sm k.pr.1,k.hf] at h
 obtain ⟨r1,r2⟩:=asp k (Nat.eq_of_beq_eq_true h)
 obtain ⟨e1,e2,e3⟩:=aff k.sm k.o2 r1
 exact ⟨e1,e2,e3.trans r2⟩
section
variable {s:Int} (hs:ap s=true)
include hs
end
end Go.Proofs.YtohjofabochgfaaGreat

namespace Go.Proofs.YtohjofabochgfaaGreat
open Sx Go
set_option maxRecDepth 100000
def kB:aw:=⟨[.val false .int,.val true .elem],[],true,0,false⟩
abbrev Rv:Type:=((Int)×(aa)×Unit)×(Unit)
def Ci:Shape:=⟨126,[(4,.ptr 0 0 0),(6,.ptr 1 0 0),(8,.ptr 2 0 0),(12,.ptr 3 0 0),(13,.ptr 4 0 0),(16,.ptr 5 0 0),(17,.val false .int)],[(0,.row .u64),(1,.cells [.val false .u64,.val false .u64,.val false .u64,.val false .u64,.val false .int,.val false .u64,.val false .u64,.val false .u64,.val false .u64,.val false .u64,.val false .u64]),(2,.row .u64),(3,.row .u64),(4,.row .u64),(5,.row .u64)],0,true⟩
abbrev bq:Type:=((Unit)×(Unit)×(Unit)×(Unit)×(Unit)×(Unit)×(Int)×Unit)×((List (UInt64))×((UInt64)×(UInt64)×(UInt64)×(UInt64)×(Int)×(UInt64)×(UInt64)×(UInt64)×(UInt64)×(UInt64)×(UInt64)×Unit)×(List (UInt64))×(List (UInt64))×(List (UInt64))×(List (UInt64))×Unit)
def Cg:Shape:=⟨126,[(4,.ptr 0 0 0),(6,.ptr 1 0 0),(8,.ptr 2 0 0),(12,.ptr 3 0 0),(13,.ptr 4 0 0),(16,.ptr 5 0 0),(17,.val false .int),(18,.val false .int),(19,.ptr 6 0 0)],[(0,.row .u64),(1,.cells [.val false .u64,.val false .u64,.val false .u64,.val false .u64,.val false .int,.val false .u64,.val false .u64,.val false .u64,.val false .u64,.val false .u64,.val false .u64]),(2,.row .u64),(3,.row .u64),(4,.row .u64),(5,.row .u64),(6,.row .u64)],0,true⟩
abbrev bN:Type:=((Unit)×(Unit)×(Unit)×(Unit)×(Unit)×(Unit)×(Int)×(Int)×(Unit)×Unit)×((List (UInt64))×((UInt64)×(UInt64)×(UInt64)×(UInt64)×(Int)×(UInt64)×(UInt64)×(UInt64)×(UInt64)×(UInt64)×(UInt64)×Unit)×(List (UInt64))×(List (UInt64))×(List (UInt64))×(List (UInt64))×(List (UInt64))×Unit)
def py:Shape:=⟨126,[(4,.ptr 0 0 0),(6,.ptr 1 0 0),(8,.ptr 2 0 0),(12,.ptr 3 0 0),(13,.ptr 4 0 0),(16,.ptr 5 0 0),(17,.val false .int),(18,.val false .int)],[(0,.row .u64),(1,.cells [.val false .u64,.val false .u64,.val false .u64,.val false .u64,.val false .int,.val false .u64,.val false .u64,.val false .u64,.val false .u64,.val false .u64,.val false .u64]),(2,.row .u64),(3,.row .u64),(4,.row .u64),(5,.row .u64)],0,true⟩
abbrev eC:Type:=((Unit)×(Unit)×(Unit)×(Unit)×(Unit)×(Unit)×(Int)×(Int)×Unit)×((List (UInt64))×((UInt64)×(UInt64)×(UInt64)×(UInt64)×(Int)×(UInt64)×(UInt64)×(UInt64)×(UInt64)×(UInt64)×(UInt64)×Unit)×(List (UInt64))×(List (UInt64))×(List (UInt64))×(List (UInt64))×Unit)
def akn:SE->Option Shape:=fc [(2,py)] none
def aBo (a17:Int) (a18:Int) (c0:List (UInt64)) (c1_0:UInt64) (c1_1:UInt64) (c1_2:UInt64) (c1_3:UInt64) (c1_4:Int) (c1_5:UInt64) (c1_6:UInt64) (c1_7:UInt64) (c1_8:UInt64) (c1_9:UInt64) (c1_10:UInt64) (c2:List (UInt64)) (c3:List (UInt64)) (c4:List (UInt64)) (c5:List (UInt64)) (c6:List (UInt64)):OT (Sum bN aE):=
 let z0:Nat:=List.length c6
 let z1:Bool:=decide (4<=z0)
 let z2:UInt64:=List.getD c6 0 0
 let z3:UInt64:=List.getD c6 1 0
 let z4:UInt64:=List.getD c6 2 0
 let z5:UInt64:=List.getD c6 3 0
 let z6:aa:= {w0:=c1_0,w1:=c1_1,w2:=c1_2,w3:=c1_3}
 let z7:aa:= {w0:=z2,w1:=z3,w2:=z4,w3:=z5}
 let z8:aa:=bP (aa.nat z6) z7 z7
 let z9:List UInt64:=List.set (List.set (List.set (List.set c6 0 z8.w0) 1 z8.w1) 2 z8.w2) 3 z8.w3
 (gd [z1,decide (4<=List.length c2)] (.br (!(z2==List.getD c2 0 0&&(z3==List.getD c2 1 0&&(z4==List.getD c2 2 0&&(z5==List.getD c2 3 0&&true)))))
 (.br (decide (a18<a17))
  (gd [z1,z1,gj (((z6,c1_4,c1_5,c1_6,{w0:=c1_7,w1:=c1_8,w2:=c1_9,w3:=c1_10}),z7,z7,()),()),decide ((4/1:Nat)+0<=z0),decide (4<=List.length z9),inR (a18+(1:Int))] (.ok (.inl (((),((),((),((),((),((),(a17,(a18+(1:Int),((),()))))))))),(c0,((c1_0,(c1_1,(c1_2,(c1_3,(c1_4,(c1_5,(c1_6,(c1_7,(c1_8,(c1_9,(c1_10,()))))))))))),(c2,(c3,(c4,(c5,([List.getD z9 0 0,List.getD z9 1 0,List.getD z9 2 0,List.getD z9 3 0],())))))))))))
  (.ok (.inr ⟨(.exit 2,py),(((),((),((),((),((),((),(a17,(a18,())))))))),(c0,((c1_0,(c1_1,(c1_2,(c1_3,(c1_4,(c1_5,(c1_6,(c1_7,(c1_8,(c1_9,(c1_10,()))))))))))),(c2,(c3,(c4,(c5,())))))))⟩)))
 (.ok (.inr ⟨(.exit 2,py),(((),((),((),((),((),((),(a17,(a18,())))))))),(c0,((c1_0,(c1_1,(c1_2,(c1_3,(c1_4,(c1_5,(c1_6,(c1_7,(c1_8,(c1_9,(c1_10,()))))))))))),(c2,(c3,(c4,(c5,())))))))⟩))))
def Cl (s:bN):OT (Sum bN aE):=aBo (s.1.2.2.2.2.2.2.1) (s.1.2.2.2.2.2.2.2.1) (s.2.1) (s.2.2.1.1) (s.2.2.1.2.1) (s.2.2.1.2.2.1) (s.2.2.1.2.2.2.1) (s.2.2.1.2.2.2.2.1) (s.2.2.1.2.2.2.2.2.1) (s.2.2.1.2.2.2.2.2.2.1) (s.2.2.1.2.2.2.2.2.2.2.1) (s.2.2.1.2.2.2.2.2.2.2.2.1) (s.2.2.1.2.2.2.2.2.2.2.2.2.1) (s.2.2.1.2.2.2.2.2.2.2.2.2.2.1) (s.2.2.2.1) (s.2.2.2.2.1) (s.2.2.2.2.2.1) (s.2.2.2.2.2.2.1) (s.2.2.2.2.2.2.2.1)
theorem aBh (s:bN) (Q:Sum bN aE->Prop):wps te vp av 1000 (aU (aU (aj Tryz.f97) 0) 2) (Cg.inj s) (bU Cg akn (Q:Sum Cg.T aE->Prop))=(Cl s).wpR Q:=by kernel_rfl
def I1 (g2_2:bN->eC) (s:bN):OT aE:=(.ok ⟨(.exit 2,py),g2_2 s⟩)
def Cf:Shape:=⟨126,[(4,.ptr 0 0 0),(6,.ptr 1 0 0),(8,.ptr 2 0 0),(12,.ptr 3 0 0),(13,.ptr 4 0 0),(16,.ptr 5 0 0),(18,.val false .int),(20,.ptr 6 0 0),(97,.val false .int),(98,.val false .int)],[(0,.row .u64),(1,.cells [.val false .u64,.val false .u64,.val false .u64,.val false .u64,.val false .int,.val false .u64,.val false .u64,.val false .u64,.val false .u64,.val false .u64,.val false .u64]),(2,.row .u64),(3,.row .u64),(4,.row .u64),(5,.row .u64),(6,.row .u64)],0,true⟩
abbrev bM:Type:=((Unit)×(Unit)×(Unit)×(Unit)×(Unit)×(Unit)×(Int)×(Unit)×(Int)×(Int)×Unit)×((List (UInt64))×((UInt64)×(UInt64)×(UInt64)×(UInt64)×(Int)×(UInt64)×(UInt64)×(UInt64)×(UInt64)×(UInt64)×(UInt64)×Unit)×(List (UInt64))×(List (UInt64))×(List (UInt64))×(List (UInt64))×(List (UInt64))×Unit)
def wM:Shape:=⟨126,[(4,.ptr 0 0 0),(6,.ptr 1 0 0),(8,.ptr 2 0 0),(12,.ptr 3 0 0),(13,.ptr 4 0 0),(16,.ptr 5 0 0),(18,.val false .int),(20,.ptr 6 0 0)],[(0,.row .u64),(1,.cells [.val false .u64,.val false .u64,.val false .u64,.val false .u64,.val false .int,.val false .u64,.val false .u64,.val false .u64,.val false .u64,.val false .u64,.val false .u64]),(2,.row .u64),(3,.row .u64),(4,.row .u64),(5,.row .u64),(6,.row .u64)],0,true⟩
abbrev eB:Type:=((Unit)×(Unit)×(Unit)×(Unit)×(Unit)×(Unit)×(Int)×(Unit)×Unit)×((List (UInt64))×((UInt64)×(UInt64)×(UInt64)×(UInt64)×(Int)×(UInt64)×(UInt64)×(UInt64)×(UInt64)×(UInt64)×(UInt64)×Unit)×(List (UInt64))×(List (UInt64))×(List (UInt64))×(List (UInt64))×(List (UInt64))×Unit)
def akm:SE->Option Shape:=fc [(4,wM)] none
def aBn (a18:Int) (a97:Int) (a98:Int) (c0:List (UInt64)) (c1_0:UInt64) (c1_1:UInt64) (c1_2:UInt64) (c1_3:UInt64) (c1_4:Int) (c1_5:UInt64) (c1_6:UInt64) (c1_7:UInt64) (c1_8:UInt64) (c1_9:UInt64) (c1_10:UInt64) (c2:List (UInt64)) (c3:List (UInt64)) (c4:List (UInt64)) (c5:List (UInt64)) (c6:List (UInt64)):OT (Sum bM aE):=
 let z0:Nat:=List.length c6
 let z1:Bool:=decide (4<=z0)
 let z2:aa:= {w0:=c1_0,w1:=c1_1,w2:=c1_2,w3:=c1_3}
 let z3:aa:= {w0:=List.getD c6 0 0,w1:=List.getD c6 1 0,w2:=List.getD c6 2 0,w3:=List.getD c6 3 0}
 let z4:aa:=bP (aa.nat z2) z3 z3
 (.br (decide (a98<a97))
 (gd [z1,z1,gj (((z2,c1_4,c1_5,c1_6,{w0:=c1_7,w1:=c1_8,w2:=c1_9,w3:=c1_10}),z3,z3,()),()),decide ((4/1:Nat)+0<=z0),inR (a98+(1:Int))] (.ok (.inl (((),((),((),((),((),((),(a18,((),(a97,(a98+(1:Int),())))))))))),(c0,((c1_0,(c1_1,(c1_2,(c1_3,(c1_4,(c1_5,(c1_6,(c1_7,(c1_8,(c1_9,(c1_10,()))))))))))),(c2,(c3,(c4,(c5,(List.set (List.set (List.set (List.set c6 0 z4.w0) 1 z4.w1) 2 z4.w2) 3 z4.w3,())))))))))))
 (.ok (.inr ⟨(.exit 4,wM),(((),((),((),((),((),((),(a18,((),())))))))),(c0,((c1_0,(c1_1,(c1_2,(c1_3,(c1_4,(c1_5,(c1_6,(c1_7,(c1_8,(c1_9,(c1_10,()))))))))))),(c2,(c3,(c4,(c5,(c6,()))))))))⟩)))
def Ck (s:bM):OT (Sum bM aE):=aBn (s.1.2.2.2.2.2.2.1) (s.1.2.2.2.2.2.2.2.2.1) (s.1.2.2.2.2.2.2.2.2.2.1) (s.2.1) (s.2.2.1.1) (s.2.2.1.2.1) (s.2.2.1.2.2.1) (s.2.2.1.2.2.2.1) (s.2.2.1.2.2.2.2.1) (s.2.2.1.2.2.2.2.2.1) (s.2.2.1.2.2.2.2.2.2.1) (s.2.2.1.2.2.2.2.2.2.2.1) (s.2.2.1.2.2.2.2.2.2.2.2.1) (s.2.2.1.2.2.2.2.2.2.2.2.2.1) (s.2.2.1.2.2.2.2.2.2.2.2.2.2.1) (s.2.2.2.1) (s.2.2.2.2.1) (s.2.2.2.2.2.1) (s.2.2.2.2.2.2.1) (s.2.2.2.2.2.2.2.1)
theorem aBg (s:bM) (Q:Sum bM aE->Prop):wps te vp av 1000 (aU (aU (aj Tryz.f97) 0) 4) (Cf.inj s) (bU Cf akm (Q:Sum Cf.T aE->Prop))=(Ck s).wpR Q:=by kernel_rfl
def I0 (g4_4:bM->eB) (s:bM):OT aE:=(.ok ⟨(.exit 4,wM),g4_4 s⟩)
def lp:Shape:=⟨126,[(4,.ptr 0 0 0),(5,.val false .int)],[(0,.row .u64)],0,true⟩
abbrev jO:Type:=((Unit)×(Int)×Unit)×((List (UInt64))×Unit)
def pA:Shape:=⟨126,[(4,.ptr 0 0 0),(6,.ptr 1 0 0),(16,.ptr 2 0 0)],[(0,.row .u64),(1,.cells [.val false .u64,.val false .u64,.val false .u64,.val false .u64,.val false .int,.val false .u64,.val false .u64,.val false .u64,.val false .u64,.val false .u64,.val false .u64]),(2,.row .u64)],0,true⟩
abbrev jP:Type:=((Unit)×(Unit)×(Unit)×Unit)×((List (UInt64))×((UInt64)×(UInt64)×(UInt64)×(UInt64)×(Int)×(UInt64)×(UInt64)×(UInt64)×(UInt64)×(UInt64)×(UInt64)×Unit)×(List (UInt64))×Unit)
def ako:SE->Option Shape:=fc [(0,pA)] (some lp)
def Va (ok2:bN->Bool) (g2_2:bN->eC) (ok4:bM->Bool) (g4_4:bM->eB) (a17:Int) (c0:List (UInt64)) (c1_0:UInt64) (c1_1:UInt64) (c1_2:UInt64) (c1_3:UInt64) (c1_4:Int) (c1_5:UInt64) (c1_6:UInt64) (c1_7:UInt64) (c1_8:UInt64) (c1_9:UInt64) (c1_10:UInt64) (c2:List (UInt64)) (c3:List (UInt64)) (c4:List (UInt64)) (c5:List (UInt64)):OT (Sum bq aE):=
 let z0:Bool:=decide (4<=List.length c4)
 let z1:UInt64:=List.getD c4 0 0
 let z2:UInt64:=List.getD c4 1 0
 let z3:UInt64:=List.getD c4 2 0
 let z4:UInt64:=List.getD c4 3 0
 let z5:(PUnit×PUnit×PUnit×PUnit×PUnit×PUnit×Int×Int×PUnit×PUnit)×List UInt64×(UInt64×UInt64×UInt64×UInt64×Int×UInt64×UInt64×UInt64×UInt64×UInt64×UInt64×PUnit)×List UInt64×List UInt64×List UInt64×List UInt64×List UInt64×PUnit:=(((),(),(),(),(),(),a17,(0:Int),(),()),c0,(c1_0,c1_1,c1_2,c1_3,c1_4,c1_5,c1_6,c1_7,c1_8,c1_9,c1_10,()),c2,c3,c4,c5,[z1,z2,z3,z4],())
 let z6:(PUnit×PUnit×PUnit×PUnit×PUnit×PUnit×Int×Int×PUnit)×List UInt64×(UInt64×UInt64×UInt64×UInt64×Int×UInt64×UInt64×UInt64×UInt64×UInt64×UInt64×PUnit)×List UInt64×List UInt64×List UInt64×List UInt64×PUnit:=g2_2 z5
 let z7:=z6.fst.snd.snd.snd.snd.snd.snd
 let z8:=z7.snd.fst
 let z9:=z7.fst
 let z10:=z6.snd
 let z11:=z10.fst
 let z12:=z10.snd
 let z13:=z12.snd
 let z14:=z13.snd
 let z15:=z14.fst
 let z16:Int:=z9-z8
 let z17:=z12.fst
 let z18:=z17.snd
 let z19:=z18.snd
 let z20:=z19.snd
 let z21:=z20.snd
 let z22:=z21.snd
 let z23:=z22.snd
 let z24:=z23.snd
 let z25:=z24.snd
 let z26:=z25.snd
 let z27:=z14.snd
 let z28:(PUnit×PUnit×PUnit×PUnit×PUnit×PUnit×Int×PUnit×Int×Int×PUnit)×List UInt64×(UInt64×UInt64×UInt64×UInt64×Int×UInt64×UInt64×UInt64×UInt64×UInt64×UInt64×PUnit)×List UInt64×List UInt64×List UInt64×List UInt64×List UInt64×PUnit:=(((),(),(),(),(),(),z8,(),z16-(1:Int),(0:Int),()),z11,(z17.fst,z18.fst,z19.fst,z20.fst,z21.fst,z22.fst,z23.fst,z24.fst,z25.fst,z26.fst,z26.snd.fst,()),z13.fst,z15,z27.fst,z27.snd.fst,[List.getD z15 0 0,List.getD z15 1 0,List.getD z15 2 0,List.getD z15 3 0],())
 let z29:(PUnit×PUnit×PUnit×PUnit×PUnit×PUnit×Int×PUnit×PUnit)×List UInt64×(UInt64×UInt64×UInt64×UInt64×Int×UInt64×UInt64×UInt64×UInt64×UInt64×UInt64×PUnit)×List UInt64×List UInt64×List UInt64×List UInt64×List UInt64×PUnit:=g4_4 z28
 let z30:=z29.snd
 let z31:=z30.snd
 let z32:=z31.snd
 let z33:=z32.snd
 let z34:=z33.snd
 let z35:=z34.snd
 let z36:=z35.snd.fst
 let z37:Bool:=decide (4<=List.length z36)
 let z38:=z31.fst
 let z39:=z38.fst
 let z40:=z38.snd
 let z41:=z40.fst
 let z42:=z40.snd
 let z43:=z42.fst
 let z44:=z42.snd
 let z45:=z44.fst
 let z46:aa:= {w0:=z39,w1:=z41,w2:=z43,w3:=z45}
 let z47:=z44.snd
 let z48:=z47.fst
 let z49:=z47.snd
 let z50:=z49.fst
 let z51:=z49.snd
 let z52:=z51.fst
 let z53:=z51.snd
 let z54:=z53.fst
 let z55:=z53.snd
 let z56:=z55.fst
 let z57:=z55.snd
 let z58:=z57.fst
 let z59:=z57.snd.fst
 let z60:aa×Int×UInt64×UInt64×aa:=(z46,z48,z50,z52,{w0:=z54,w1:=z56,w2:=z58,w3:=z59})
 let z61:aa:= {w0:=List.getD z36 0 0,w1:=List.getD z36 1 0,w2:=List.getD z36 2 0,w3:=List.getD z36 3 0}
 let z62:aa×PUnit:=(z61,())
 let z63:=z33.fst
 let z64:=z34.fst
 let z65:Nat:=List.length z64
 let z66:Nat:=aa.nat z46
 let z67:aa:=bP z66 z61 z61
 let z68:List UInt64:=List.set (List.set (List.set (List.set z63 0 z67.w0) 1 z67.w1) 2 z67.w2) 3 z67.w3
 let z69:aa:= {w0:=List.getD z64 0 0,w1:=List.getD z64 1 0,w2:=List.getD z64 2 0,w3:=List.getD z64 3 0}
 let z70:aa:= {w0:=List.getD z68 0 0,w1:=List.getD z68 1 0,w2:=List.getD z68 2 0,w3:=List.getD z68 3 0}
 let z71:=z35.fst
 let z72:Nat:=List.length z71
 let z73:aa:= {w0:=List.getD z71 0 0,w1:=List.getD z71 1 0,w2:=List.getD z71 2 0,w3:=List.getD z71 3 0}
 let z74:aa:=bP z66 z69 z70
 let z75:aa:=bP z66 z73 z61
 (gd [z0,decide (4<=List.length c2)] (.br (!(z1==List.getD c2 0 0&&(z2==List.getD c2 1 0&&(z3==List.getD c2 2 0&&(z4==List.getD c2 3 0&&true)))))
 (gd [z0,ok2 z5] (.br (z8==z9)
  (gd [decide (4<=List.length z11)] (.ok (.inr ⟨(.ret,lp),(((),((22:Int),())),(List.set (List.set (List.set (List.set z11 0 (0:UInt64)) 1 (0:UInt64)) 2 (0:UInt64)) 3 (0:UInt64),()))⟩)))
  (gd [decide (4<=List.length z15),inR z16,inR (z16-(1:Int)),ok4 z28,z37,z37,gj ((z60,z61,z62),()),decide ((4/1:Nat)+0<=List.length z63),decide (4<=z65),decide (4<=List.length z68),gj ((z60,z69,z70,()),()),decide ((4/1:Nat)+0<=z65),decide (4<=z72),z37,gj ((z60,z73,z62),()),decide ((4/1:Nat)+0<=z72)] (.ok (.inl (((),((),((),((),((),((),(z29.fst.snd.snd.snd.snd.snd.snd.fst,()))))))),(z30.fst,((z39,(z41,(z43,(z45,(z48,(z50,(z52,(z54,(z56,(z58,(z59,()))))))))))),(z32.fst,(z68,(List.set (List.set (List.set (List.set z64 0 z74.w0) 1 z74.w1) 2 z74.w2) 3 z74.w3,(List.set (List.set (List.set (List.set z71 0 z75.w0) 1 z75.w1) 2 z75.w2) 3 z75.w3,()))))))))))))
 (.ok (.inr ⟨(.exit 0,pA),(((),((),((),()))),(c0,((c1_0,(c1_1,(c1_2,(c1_3,(c1_4,(c1_5,(c1_6,(c1_7,(c1_8,(c1_9,(c1_10,()))))))))))),(c5,()))))⟩))))
def wN (ok2:bN->Bool) (g2_2:bN->eC) (ok4:bM->Bool) (g4_4:bM->eB) (s:bq):OT (Sum bq aE):=Va ok2 g2_2 ok4 g4_4 (s.1.2.2.2.2.2.2.1) (s.2.1) (s.2.2.1.1) (s.2.2.1.2.1) (s.2.2.1.2.2.1) (s.2.2.1.2.2.2.1) (s.2.2.1.2.2.2.2.1) (s.2.2.1.2.2.2.2.2.1) (s.2.2.1.2.2.2.2.2.2.1) (s.2.2.1.2.2.2.2.2.2.2.1) (s.2.2.1.2.2.2.2.2.2.2.2.1) (s.2.2.1.2.2.2.2.2.2.2.2.2.1) (s.2.2.1.2.2.2.2.2.2.2.2.2.2.1) (s.2.2.2.1) (s.2.2.2.2.1) (s.2.2.2.2.2.1) (s.2.2.2.2.2.2.1)
theorem aBi (ok2:bN->Bool) (g2_2:bN->eC) (ok4:bM->Bool) (g4_4:bM->eB) (s:bq) (Q:Sum bq aE->Prop):wps te vp (aO 4 (cf Cf 4 ok4 (I0 g4_4)) (aO 2 (cf Cg 2 ok2 (I1 g2_2)) av)) 1000 (aU (aj Tryz.f97) 0) (Ci.inj s) (bU Ci ako (Q:Sum Ci.T aE->Prop))=(wN ok2 g2_2 ok4 g4_4 s).wpR Q:=by kernel_rfl
def I2 (g0_r:bq->jO) (c0_r:bq->Bool) (g0_0:bq->jP) (s:bq):OT aE:=(.br (c0_r s) (.ok ⟨(.ret,lp),g0_r s⟩) (.ok ⟨(.exit 0,pA),g0_0 s⟩))
def eH:az:=⟨[.val true .elem,.val false .int],[],false⟩
def ZI:SV->Option az:=λ_=>some eH
def FF (ok2:bN->Bool) (g2_2:bN->eC) (ok4:bM->Bool) (g4_4:bM->eB) (ok0:bq->Bool) (g0_r:bq->jO) (c0_r:bq->Bool) (g0_0:bq->jP) (a0:Int) (a1:aa):OT kB.Y:=
 let z0:aa×Int×UInt64×UInt64×aa:=aY (Int.toNat a0)
 let z1:=z0.fst
 let z2:aa:=ofN (aa.nat a1%aa.nat z1)
 let z3:aa:= {w0:=1,w1:=0,w2:=0,w3:=0}
 let z4:=(eE z1 z3).fst
 let z5:=z0.snd
 let z6:=z5.fst
 let z7:aa:= {w0:=5,w1:=0,w2:=0,w3:=0}
 let z8:aa:=dX z4 (Int.toNat z6)
 let z9:aa×PUnit:=(z8,())
 let z10:aa:=dr (qq z8 z3).fst
 let z11:=z5.snd
 let z12:=z11.snd
 let z13:=z12.snd
 let z14:Nat:=pS a0
 let z15:aa:=gX z14 z7 z8
 let z16:aa:=gX z14 z2 z8
 let z17:aa:=gX z14 z2 z10
 let z18:(PUnit×PUnit×PUnit×PUnit×PUnit×PUnit×Int×PUnit)×List UInt64×(UInt64×UInt64×UInt64×UInt64×Int×UInt64×UInt64×UInt64×UInt64×UInt64×UInt64×PUnit)×List UInt64×List UInt64×List UInt64×List UInt64×PUnit:=(((),(),(),(),(),(),z6,()),[(0:UInt64),(0:UInt64),(0:UInt64),(0:UInt64)],(z1.w0,z1.w1,z1.w2,z1.w3,z6,z11.fst,z12.fst,z13.w0,z13.w1,z13.w2,z13.w3,()),[(1:UInt64),(0:UInt64),(0:UInt64),(0:UInt64)],[z15.w0,z15.w1,z15.w2,z15.w3],[z16.w0,z16.w1,z16.w2,z16.w3],[z17.w0,z17.w1,z17.w2,z17.w3],())
 let z19:(PUnit×Int×PUnit)×List UInt64×PUnit:=g0_r z18
 let z20:=z19.snd.fst
 let z21:=(g0_0 z18).snd
 let z22:=z21.snd
 let z23:=z22.snd.fst
 let z24:Nat:=List.length z23
 let z25:UInt64:=List.getD z23 0 0
 let z26:Bool:=decide (4<=z24)
 let z27:=z22.fst
 let z28:=z27.snd
 let z29:=z28.snd
 let z30:=z29.snd
 let z31:aa:= {w0:=z27.fst,w1:=z28.fst,w2:=z29.fst,w3:=z30.fst}
 let z32:=z30.snd
 let z33:=z32.snd
 let z34:=z33.snd
 let z35:=z34.snd
 let z36:=z35.snd
 let z37:=z36.snd
 let z38:aa:= {w0:=z25,w1:=List.getD z23 1 0,w2:=List.getD z23 2 0,w3:=List.getD z23 3 0}
 let z39:aa:=IR (aa.nat z31) z38
 let z40:List UInt64:=List.set (List.set (List.set (List.set z23 0 z39.w0) 1 z39.w1) 2 z39.w2) 3 z39.w3
 let z41:=z21.fst
 let z42:Nat:=List.length z41
 let z43:List UInt64:=lay z41 z40 4 (0:UInt64)
 let z44:List UInt64:=lay z41 z23 4 (0:UInt64)
 (.br (ap a0)
 (gd [gG ((z0,a1,()),())] (.br (z2.w0==(0:UInt64)&&(z2.w1==(0:UInt64)&&(z2.w2==(0:UInt64)&&(z2.w3==(0:UInt64)&&true))))
  (.ok ⟨eH,((z2,((0:Int),())),())⟩)
  (gd [ry ((z4,z6,()),()),um ((a0,z7,z9),()),um ((a0,z2,z9),()),um ((a0,z2,z10,()),()),ok0 z18] (.br (c0_r z18)
   (gd [decide (4<=List.length z20)] (.ok ⟨eH,(({w0:=List.getD z20 0 0,w1:=List.getD z20 1 0,w2:=List.getD z20 2 0,w3:=List.getD z20 3 0},(z19.fst.snd.fst,())),())⟩))
   (gd [decide (0<z24)] (.br (z25&&&(1:UInt64)==(1:UInt64))
    (gd [z26,Cs (((z31,z32.fst,z33.fst,z34.fst,{w0:=z35.fst,w1:=z36.fst,w2:=z37.fst,w3:=z37.snd.fst}),z38,()),()),decide ((4/1:Nat)+0<=z24),decide (4<=List.length z40),decide ((4/1:Nat)+0<=z42),decide (4<=List.length z43)] (.ok ⟨eH,(({w0:=List.getD z43 0 0,w1:=List.getD z43 1 0,w2:=List.getD z43 2 0,w3:=List.getD z43 3 0},((0:Int),())),())⟩))
    (gd [z26,decide ((4/1:Nat)+0<=z42),decide (4<=List.length z44)] (.ok ⟨eH,(({w0:=List.getD z44 0 0,w1:=List.getD z44 1 0,w2:=List.getD z44 2 0,w3:=List.getD z44 3 0},((0:Int),())),())⟩))))))))
 (.ok ⟨eH,(({w0:=0,w1:=0,w2:=0,w3:=0},((20:Int),())),())⟩))
theorem aGA (ok2:bN->Bool) (g2_2:bN->eC) (ok4:bM->Bool) (g4_4:bM->eB) (ok0:bq->Bool) (g0_r:bq->jO) (c0_r:bq->Bool) (g0_0:bq->jP) (x:Rv) (Q:kB.Y->Prop):wpf te vp (aO 0 (cf Ci 0 ok0 (I2 g0_r c0_r g0_0)) av) 1000 Tryz.f97 (kB.inp.inj x).tm (kB.inp.inj x).hp (fnK kB ZI Q) (λ_ _=>False)=(FF ok2 g2_2 ok4 g4_4 ok0 g0_r c0_r g0_0 (x.1.1) (x.1.2.1)).wpR Q:=by kernel_rfl
theorem aoa (ok2:bN->Bool) (g2_2:bN->eC) (ok4:bM->Bool) (g4_4:bM->eB) (ok0:bq->Bool) (g0_r:bq->jO) (c0_r:bq->Bool) (g0_0:bq->jP) (h2:∀ s:bN,ok2 s=true->∃ m e,al (Cl) m s=some e/\(I1 g2_2 s).run=some e) (h4:∀ s:bM,ok4 s=true->∃ m e,al (Ck) m s=some e/\(I0 g4_4 s).run=some e) (h0:∀ s:bq,ok0 s=true->∃ m e,al (wN ok2 g2_2 ok4 g4_4) m s=some e/\(I2 g0_r c0_r g0_0 s).run=some e) (pre:Rv->Bool) (F:Rv->OT kB.Y) (hF:∀ (x:Rv) oy,pre x=true->(F x).run=some oy->(FF ok2 g2_2 ok4 g4_4 ok0 g0_r c0_r g0_0 (x.1.1) (x.1.2.1)).run=some oy):ac Tryz.prog 97 (kB.aI pre F):=
 aD ar lx r6 (f:=97) (fn:=Tryz.f97) (c:=aj Tryz.f97) (by kernel_rfl) (by kernel_rfl) (by kernel_rfl) (S:=kB) (k:=0) (by kernel_rfl) (λR hR=>(aA (c:=(aj Tryz.f97)) (by kernel_rfl) (id:=0) (by kernel_rfl) (aP ar lx r6 (sh:=Ci) hR (xs:=ako) (aC (by kernel_rfl) (by kernel_rfl) hR) aM (aA (c:=(aU (aj Tryz.f97) 0)) (by kernel_rfl) (id:=4) (by kernel_rfl) (aP ar lx r6 (sh:=Cf) hR (xs:=akm) (aC (by kernel_rfl) (by kernel_rfl) hR) aM af (n:=1000) (T:=Ck) (λs Q=>aBg s Q) (ok:=ok4) (f:=I0 g4_4) h4) (aA (c:=(aU (aj Tryz.f97) 0)) (by kernel_rfl) (id:=2) (by kernel_rfl) (aP ar lx r6 (sh:=Cg) hR (xs:=akn) (aC (by kernel_rfl) (by kernel_rfl) hR) aM af (n:=1000) (T:=Cl) (λs Q=>aBh s Q) (ok:=ok2) (f:=I1 g2_2) h2) af)) (n:=1000) (T:=wN ok2 g2_2 ok4 g4_4) (λs Q=>aBi ok2 g2_2 ok4 g4_4 s Q) (ok:=ok0) (f:=I2 g0_r c0_r g0_0) h0) af)) (n:=1000) (sel:=ZI) (λv o h=>by cases h;rfl) (pre:=pre) (F:=F) (T:=λx=>FF ok2 g2_2 ok4 g4_4 ok0 g0_r c0_r g0_0 (x.1.1) (x.1.2.1)) (λx Q=>aGA ok2 g2_2 ok4 g4_4 ok0 g0_r c0_r g0_0 x Q) hF
abbrev C11:Type:=UInt64×UInt64×UInt64×UInt64×Int×UInt64×UInt64×UInt64×UInt64×UInt64×UInt64×Unit
def qp (c:C11):PC:=(⟨c.1,c.2.1,c.2.2.1,c.2.2.2.1⟩,c.2.2.2.2.1,c.2.2.2.2.2.1,c.2.2.2.2.2.2.1,⟨c.2.2.2.2.2.2.2.1,c.2.2.2.2.2.2.2.2.1,c.2.2.2.2.2.2.2.2.2.1,c.2.2.2.2.2.2.2.2.2.2.1⟩)
def kn (s:bN):Bool:=kw (qp s.2.2.1)&&decide ((0<=s.1.2.2.2.2.2.2.1/\s.1.2.2.2.2.2.2.1<=1000)/\s.1.2.2.2.2.2.2.2.1=0/\s.2.2.2.1= [1,0,0,0]/\s.2.2.2.2.2.2.2.1.length=4)
def rr (s:bN):eC:=(((),(),(),(),(),(),s.1.2.2.2.2.2.2.1,(kF (qp s.2.2.1).1.nat s.1.2.2.2.2.2.2.1.toNat (elemOf s.2.2.2.2.2.2.2.1) 0:Int),()),(s.2.1,s.2.2.1,s.2.2.2.1,s.2.2.2.2.1,s.2.2.2.2.2.1,s.2.2.2.2.2.2.1,()))
def acs (c0:List UInt64) (C:C11) (z t x:List UInt64) (m k:Int) (u:aa):bN:=(((),(),(),(),(),(),m,k,(),()),(c0,C,lst eU,z,t,x,lst u,()))
theorem aiO (c0:List UInt64) (C:C11) (z t x:List UInt64) (m:Nat) (hC:kw (qp C)=true) (hm:m<=1000):∀ (n k:Nat) (u:aa),k+n=m->
 ∃ j,al Cl j (acs c0 C z t x (m:Int) (k:Int) u)=some ⟨(.exit 2,py),(((),(),(),(),(),(),(m:Int),(kF (qp C).1.nat n u k:Int),()),(c0,C,lst eU,z,t,x,()))⟩
 |0,k,u,h=>by
  refine ⟨1,aK ?_⟩
  refine (ah rfl).trans ?_
  rcases (Bool.eq_false_or_eq_true (eqE u eU)).symm with hq|hq
  ·exact (OT.ao (b:= !eqE u eU) (by rw [hq];rfl)).trans (OT.aq (decide_eq_false (by dsimp only [acs];omega)))
  ·exact OT.aq (b:= !eqE u eU) (by rw [hq];rfl)
 |n+1,k,u,h=>by
  unfold kF
  rcases (Bool.eq_false_or_eq_true (eqE u eU)).symm with hq|hq
  ·rw [hq]
   obtain ⟨j,hj⟩:=aiO c0 C z t x m hC hm n (k+1) (bP (qp C).1.nat u u) (by omega)
   refine ⟨j+1,aF ?_ hj⟩
   refine (ah rfl).trans ((OT.ao (b:= !eqE u eU) (by rw [hq];rfl)).trans ((OT.ao (decide_eq_true (by dsimp only [acs];omega))).trans ((ah ?_).trans rfl)))
   simp only [List.all_cons,List.all_nil,Bool.and_true,Bool.and_eq_true]
   exact ⟨rfl,rfl,hC,rfl,rfl,aH (by dsimp only [acs];omega)⟩
  ·rw [hq]
   refine ⟨1,aK ?_⟩
   exact (ah rfl).trans (OT.aq (b:= !eqE u eU) (by rw [hq];rfl))
theorem aBl:∀ s:bN,kn s=true->∃ m e,al Cl m s=some e/\(I1 rr s).run=some e:=by
 rintro ⟨⟨⟨⟩,⟨⟩,⟨⟩,⟨⟩,⟨⟩,⟨⟩,m,k,⟨⟩,⟨⟩⟩,⟨c0,C,one,z,t,x,u,⟨⟩⟩⟩ h
 simp only [kn,Bool.and_eq_true,decide_eq_true_eq] at h
 obtain ⟨hC,⟨h0,h1⟩,rfl,rfl,hu⟩:=h
 obtain ⟨v,rfl⟩:∃ a,u=lst a:=⟨elemOf u,(aS hu).symm⟩
 obtain ⟨n,rfl⟩:∃ n:Nat,m=(n:Int):=⟨m.toNat,by omega⟩
 obtain ⟨j,hj⟩:=aiO c0 C z t x n hC (by omega) n 0 v (by omega)
 exact ⟨j,_,hj,rfl⟩
def km (s:bM):Bool:=kw (qp s.2.2.1)&&decide ((0<=s.1.2.2.2.2.2.2.2.2.1/\s.1.2.2.2.2.2.2.2.2.1<=1000)/\s.1.2.2.2.2.2.2.2.2.2.1=0/\s.2.2.2.2.2.2.2.1.length=4)
def rq (s:bM):eB:=(((),(),(),(),(),(),s.1.2.2.2.2.2.2.1,(),()),(s.2.1,s.2.2.1,s.2.2.2.1,s.2.2.2.2.1,s.2.2.2.2.2.1,s.2.2.2.2.2.2.1,lst (sqN (qp s.2.2.1).1.nat (elemOf s.2.2.2.2.2.2.2.1) s.1.2.2.2.2.2.2.2.2.1.toNat),()))
theorem aBk:∀ s:bM,km s=true->∃ m e,al Ck m s=some e/\(I0 rq s).run=some e:=by
 rintro ⟨⟨⟨⟩,⟨⟩,⟨⟩,⟨⟩,⟨⟩,⟨⟩,k,⟨⟩,n,i,⟨⟩⟩,⟨c0,C,one,z,t,x,u,⟨⟩⟩⟩ h
 simp only [km,Bool.and_eq_true,decide_eq_true_eq] at h
 obtain ⟨hC,⟨h0,h1⟩,rfl,hu⟩:=h
 obtain ⟨v,rfl⟩:∃ a,u=lst a:=⟨elemOf u,(aS hu).symm⟩
 obtain ⟨d,rfl⟩:∃ d:Nat,n=(d:Int):=⟨n.toNat,by omega⟩
 have:=(aR (T:=Ck) (λi u=>((((),(),(),(),(),(),k,(),(d:Int),(i:Int),()),(c0,C,one,z,t,x,lst u,())):bM)) (λ_ e=>bP (qp C).1.nat e e)
  (λu=>(⟨(.exit 4,wM),(((),(),(),(),(),(),k,(),()),(c0,C,one,z,t,x,lst u,()))⟩:aE)) d v (λ_ _=>True) trivial (λi u hi _=>⟨?_,trivial⟩) (λu _=> ?_)).1
 ·obtain ⟨m,hm⟩:=this
  exact ⟨m,_,hm,rfl⟩
 ·refine (OT.ao (decide_eq_true (by dsimp only;omega))).trans ((ah ?_).trans rfl)
  simp only [List.all_cons,List.all_nil,Bool.and_true,Bool.and_eq_true]
  exact ⟨rfl,rfl,hC,rfl,aH (by omega)⟩
 ·exact OT.aq (decide_eq_false (by dsimp only;omega))
def aFe (c0:aa) (C:C11) (m:Int) (w:Ton):bq:=(((),(),(),(),(),(),m,()),(lst c0,C,lst eU,lst w.2.2,lst w.2.1,lst w.1,()))
theorem aFd {ok2:bN->Bool} {g2:bN->eC} {ok4:bM->Bool} {g4:bM->eB} {c0:aa} {C:C11} {m k:Nat} {w:Ton} {b:aa} (hC:kw (qp C)=true) (hm:m<=1000) (hq:eqE w.2.1 eU=false)
 (h2:ok2 (acs (lst c0) C (lst w.2.2) (lst w.2.1) (lst w.1) (m:Int) 0 w.2.1)=true)
 (e2:g2 (acs (lst c0) C (lst w.2.2) (lst w.2.1) (lst w.1) (m:Int) 0 w.2.1)=(((),(),(),(),(),(),(m:Int),(k:Int),()),(lst c0,C,lst eU,lst w.2.2,lst w.2.1,lst w.1,()))) (hk:k<=m)
 (h4:k<m->ok4 (((),(),(),(),(),(),(k:Int),(),(m:Int)-(k:Int)-1,0,()),(lst c0,C,lst eU,lst w.2.2,lst w.2.1,lst w.1,lst w.2.2,()))=true)
 (e4:g4 (((),(),(),(),(),(),(k:Int),(),(m:Int)-(k:Int)-1,0,()),(lst c0,C,lst eU,lst w.2.2,lst w.2.1,lst w.1,lst w.2.2,()))=(((),(),(),(),(),(),(k:Int),(),()),(lst c0,C,lst eU,lst w.2.2,lst w.2.1,lst w.1,lst b,()))):
 (wN ok2 g2 ok4 g4 (aFe c0 C (m:Int) w)).run=cond (Nat.beq k m) (some (.inr ⟨(.ret,lp),(((),(22:Int),()),(lst ⟨0,0,0,0⟩,()))⟩))
  (some (.inl (aFe c0 C (k:Int) (bP (qp C).1.nat w.1 b,bP (qp C).1.nat w.2.1 (bP (qp C).1.nat b b),bP (qp C).1.nat b b)))):=by
 obtain ⟨x,t,z⟩:=w
 unfold acs at h2 e2
 have hb:∀ e:aa,[List.getD (lst e) 0 0,List.getD (lst e) 1 0,List.getD (lst e) 2 0,List.getD (lst e) 3 0]=lst e:=λ_=>rfl
 have hpre:∀ a c:aa,gj ((qp C,a,c,()),())=true:=λ_ _=>hC
 have e2':g2 (((),(),(),(),(),(),(m:Int),0,(),()),(lst c0,(C.1,C.2.1,C.2.2.1,C.2.2.2.1,C.2.2.2.2.1,C.2.2.2.2.2.1,C.2.2.2.2.2.2.1,C.2.2.2.2.2.2.2.1,C.2.2.2.2.2.2.2.2.1,C.2.2.2.2.2.2.2.2.2.1,C.2.2.2.2.2.2.2.2.2.2.1,()),lst eU,lst z,lst t,lst x,lst t,()))=(((),(),(),(),(),(),(m:Int),(k:Int),()),(lst c0,C,lst eU,lst z,lst t,lst x,())):=e2
 have e4':g4 (((),(),(),(),(),(),(k:Int),(),(m:Int)-(k:Int)-1,0,()),(lst c0,(C.1,C.2.1,C.2.2.1,C.2.2.2.1,C.2.2.2.2.1,C.2.2.2.2.2.1,C.2.2.2.2.2.2.1,C.2.2.2.2.2.2.2.1,C.2.2.2.2.2.2.2.2.1,C.2.2.2.2.2.2.2.2.2.1,C.2.2.2.2.2.2.2.2.2.2.1,()),lst eU,lst z,lst t,lst x,lst z,()))=(((),(),(),(),(),(),(k:Int),(),()),(lst c0,C,lst eU,lst z,lst t,lst x,lst b,())):=e4
 show (Va ok2 g2 ok4 g4 (m:Int) (lst c0) C.1 C.2.1 C.2.2.1 C.2.2.2.1 C.2.2.2.2.1 C.2.2.2.2.2.1 C.2.2.2.2.2.2.1 C.2.2.2.2.2.2.2.1 C.2.2.2.2.2.2.2.2.1 C.2.2.2.2.2.2.2.2.2.1 C.2.2.2.2.2.2.2.2.2.2.1 (lst eU) (lst z) (lst t) (lst x)).run=_
 unfold Va
 simp only [hb,e2',e4']
 refine (ah rfl).trans ((OT.ao (b:= !eqE t eU) (by rw [hq];rfl)).trans ((ah ?_).trans ?_))
 ·simp only [List.all_cons,List.all_nil,Bool.and_true,Bool.and_eq_true]
  exact ⟨rfl,h2⟩
 ·by_cases h:k=m
  ·subst h
   rw [Nat.beq_refl]
   refine (OT.ao (beq_self_eq_true _)).trans ((ah rfl).trans rfl)
  ·have hn:Nat.beq k m=false:=by
    cases hb:Nat.beq k m
    ·rfl
    ·exact absurd (Nat.eq_of_beq_eq_true hb) h
   rw [hn]
   refine (OT.aq ?_).trans ((ah ?_).trans rfl)
   ·exact beq_false_of_ne (λe=>h (by omega))
   ·simp only [List.all_cons,List.all_nil,Bool.and_true,Bool.and_eq_true]
    exact ⟨rfl,aH (by omega),aH (by omega),h4 (by omega),rfl,rfl,hC,rfl,rfl,rfl,hC,rfl,rfl,rfl,hC,rfl⟩
def aIw (c0:aa) (C:C11):Option aa->aE
 |some x=>⟨(.exit 0,pA),(((),(),(),()),(lst c0,C,lst x,()))⟩
 |none=>⟨(.ret,lp),(((),(22:Int),()),(lst ⟨0,0,0,0⟩,()))⟩
theorem aiP (c0:aa) (C:C11) (hC:kw (qp C)=true):∀ (f m:Nat) (w:Ton),m<f->m<=1000->
 ∃ j,al (wN kn rr km rq) j (aFe c0 C (m:Int) w)=some (aIw c0 C (tsF (qp C).1.nat f m w))
 |0,m,w,h,_=>absurd h (Nat.not_lt_zero _)
 |f+1,m,w,hf,hm=>by
  unfold tsF
  rcases (Bool.eq_false_or_eq_true (eqE w.2.1 eU)).symm with hq|hq
  ·rw [hq]
   simp only [cond_false]
   have hk:kF (qp C).1.nat m w.2.1 0<=m:=by
    have key:∀ (n:Nat) (s:aa) (k:Nat),kF (qp C).1.nat n s k<=k+n:=by
     intro n
     induction n with
     |zero=>intro s k;exact Nat.le_refl _
     |succ n ih=>
      intro s k
      unfold kF
      cases eqE s eU
      ·have:=ih (bP (qp C).1.nat s s) (k+1)
       simp only [cond_false]
       omega
      ·simp only [cond_true]
       omega
    have:=key m w.2.1 0
    omega
   have hst:=aFd (ok2:=kn) (g2:=rr) (ok4:=km) (g4:=rq) (c0:=c0) (C:=C) (m:=m) (k:=kF (qp C).1.nat m w.2.1 0) (w:=w) (b:=tsB (qp C).1.nat m (kF (qp C).1.nat m w.2.1 0) w) hC hm hq
    (by
     refine (Bool.and_eq_true _ _).mpr ⟨hC,decide_eq_true ⟨⟨?_,?_⟩,rfl,rfl,rfl⟩⟩
     ·show (0:Int)<=(m:Int);omega
     ·show (m:Int)<=1000;omega) rfl hk
    (λhlt=>by
     refine (Bool.and_eq_true _ _).mpr ⟨hC,decide_eq_true ⟨⟨?_,?_⟩,rfl,rfl⟩⟩
     ·show (0:Int)<=(m:Int)-(kF (qp C).1.nat m w.2.1 0:Int)-1;omega
     ·show (m:Int)-(kF (qp C).1.nat m w.2.1 0:Int)-1<=1000;omega)
    (by
     have e:((m:Int)-(kF (qp C).1.nat m w.2.1 0:Int)-1).toNat=m-kF (qp C).1.nat m w.2.1 0-1:=by omega
     show (((),(),(),(),(),(),(kF (qp C).1.nat m w.2.1 0:Int),(),()),(lst c0,C,lst eU,lst w.2.2,lst w.2.1,lst w.1,lst (sqN (qp C).1.nat w.2.2 ((m:Int)-(kF (qp C).1.nat m w.2.1 0:Int)-1).toNat),()))=_
     rw [e]
     rfl)
   cases hb:Nat.beq (kF (qp C).1.nat m w.2.1 0) m
   ·rw [hb] at hst
    have hne:=zt hb
    obtain ⟨j,hj⟩:=aiP c0 C hC f (kF (qp C).1.nat m w.2.1 0) (tsW (qp C).1.nat m (kF (qp C).1.nat m w.2.1 0) w) (by omega) (by omega)
    exact ⟨j+1,aF hst hj⟩
   ·rw [hb] at hst
    exact ⟨1,aK hst⟩
  ·rw [hq]
   simp only [cond_true]
   refine ⟨1,aK ?_⟩
   exact (ah rfl).trans (OT.aq (b:= !eqE w.2.1 eU) (by rw [hq];rfl))
def tW (s:bq):Option aa:=tsF (qp s.2.2.1).1.nat (s.1.2.2.2.2.2.2.1.toNat+1) s.1.2.2.2.2.2.2.1.toNat (elemOf s.2.2.2.2.2.2.1,elemOf s.2.2.2.2.2.1,elemOf s.2.2.2.2.1)
def px (s:bq):Bool:=kw (qp s.2.2.1)&&decide ((0<=s.1.2.2.2.2.2.2.1/\s.1.2.2.2.2.2.2.1<=1000)/\s.2.1.length=4/\s.2.2.2.1= [1,0,0,0]/\s.2.2.2.2.1.length=4/\s.2.2.2.2.2.1.length=4/\s.2.2.2.2.2.2.1.length=4)
def I3 (s:bq):Bool:=(tW s).isNone
def Cj (_:bq):jO:=(((),(22:Int),()),(lst ⟨0,0,0,0⟩,()))
def IZ (s:bq):jP:=(((),(),(),()),(s.2.1,s.2.2.1,lst ((tW s).getD ⟨0,0,0,0⟩),()))
theorem aBm:∀ s:bq,px s=true->∃ m e,al (wN kn rr km rq) m s=some e/\(I2 Cj I3 IZ s).run=some e:=by
 rintro ⟨⟨⟨⟩,⟨⟩,⟨⟩,⟨⟩,⟨⟩,⟨⟩,m,⟨⟩⟩,⟨c0,C,one,z,t,x,⟨⟩⟩⟩ h
 simp only [px,Bool.and_eq_true,decide_eq_true_eq] at h
 obtain ⟨hC,⟨h0,h1⟩,hc,rfl,hz,ht,hx⟩:=h
 obtain ⟨c,rfl⟩:∃ a,c0=lst a:=⟨elemOf c0,(aS hc).symm⟩
 obtain ⟨Z,rfl⟩:∃ a,z=lst a:=⟨elemOf z,(aS hz).symm⟩
 obtain ⟨T,rfl⟩:∃ a,t=lst a:=⟨elemOf t,(aS ht).symm⟩
 obtain ⟨X,rfl⟩:∃ a,x=lst a:=⟨elemOf x,(aS hx).symm⟩
 obtain ⟨n,rfl⟩:∃ n:Nat,m=(n:Int):=⟨m.toNat,by omega⟩
 obtain ⟨j,hj⟩:=aiP c C hC (n+1) n (X,T,Z) (by omega) (by omega)
 refine ⟨j,_,hj,?_⟩
 show (OT.br (tsF (qp C).1.nat (n+1) n (X,T,Z)).isNone (.ok ⟨(.ret,lp),_⟩) (.ok ⟨(.exit 0,pA),(((),(),(),()),(lst c,C,lst ((tsF (qp C).1.nat (n+1) n (X,T,Z)).getD ⟨0,0,0,0⟩),()))⟩):OT aE).run=some (aIw c C (tsF (qp C).1.nat (n+1) n (X,T,Z)))
 cases tsF (qp C).1.nat (n+1) n (X,T,Z)<;>rfl
def ZJ (_:Rv):Bool:=true
def au9 (x:Rv):OT kB.Y:=.br (ap x.1.1) (.br (bZ (ofP (pS x.1.1) x.1.2.1)) (.ok ⟨eH,((⟨0,0,0,0⟩,((0:Int),())),())⟩)
 (.br (eqE (gX (pS x.1.1) (ofP (pS x.1.1) x.1.2.1) (dr (eE (aY x.1.1.toNat).1 eU).1)) eU) (.ok ⟨eH,((la (pS x.1.1) (sN x.1.1 (ofP (pS x.1.1) x.1.2.1)),((0:Int),())),())⟩) (.ok ⟨eH,((⟨0,0,0,0⟩,((22:Int),())),())⟩)))
 (.ok ⟨eH,((⟨0,0,0,0⟩,((20:Int),())),())⟩)
def aKJ (n:PC):C11:=(n.1.w0,n.1.w1,n.1.w2,n.1.w3,n.2.1,n.2.2.1,n.2.2.2.1,n.2.2.2.2.w0,n.2.2.2.2.w1,n.2.2.2.2.w2,n.2.2.2.2.w3,())
abbrev W8 (n:PC) (z t x:aa):bq:=(((),(),(),(),(),(),n.2.1,()),[0,0,0,0],(n.1.w0,n.1.w1,n.1.w2,n.1.w3,n.2.1,n.2.2.1,n.2.2.2.1,n.2.2.2.2.w0,n.2.2.2.2.w1,n.2.2.2.2.w2,n.2.2.2.2.w3,()),[1,0,0,0],[z.w0,z.w1,z.w2,z.w3],[t.w0,t.w1,t.w2,t.w3],[x.w0,x.w1,x.w2,x.w3],())
theorem aob {ok2:bN->Bool} {g2:bN->eC} {ok4:bM->Bool} {g4:bM->eB} {ok0:bq->Bool} {g0r:bq->jO} {c0:bq->Bool} {g0:bq->jP} {s:Int} {a A z t x X:aa} {c:Bool}
 (hs:ap s=true) (k:alH s) (hA:ofN (a.nat%(aY s.toNat).1.nat)=A) (hz:bZ A=false) (ez:gX (pS s) ⟨5,0,0,0⟩ (IQ s)=z) (et:gX (pS s) A (IQ s)=t) (ex:gX (pS s) A (dr (qq (IQ s) eU).1)=x)
 (h0:ok0 (W8 (aY s.toNat) z t x)=true) (hc:c0 (W8 (aY s.toNat) z t x)=c) (er:g0r (W8 (aY s.toNat) z t x)=(((),(22:Int),()),(lst ⟨0,0,0,0⟩,())))
 (e0:g0 (W8 (aY s.toNat) z t x)=(((),(),(),()),(lst ⟨0,0,0,0⟩,aKJ (aY s.toNat),lst X,()))):
 (FF ok2 g2 ok4 g4 ok0 g0r c0 g0 s a).run=cond c (some ⟨eH,((⟨0,0,0,0⟩,((22:Int),())),())⟩) (some ⟨eH,((la (pS s) X,((0:Int),())),())⟩):=by
 have ez':gX (pS s) ⟨5,0,0,0⟩ (dX (eE (aY s.toNat).1 ⟨1,0,0,0⟩).1 (aY s.toNat).2.1.toNat)=z:=ez
 have et':gX (pS s) A (dX (eE (aY s.toNat).1 ⟨1,0,0,0⟩).1 (aY s.toNat).2.1.toNat)=t:=et
 have ex':gX (pS s) A (dr (qq (dX (eE (aY s.toNat).1 ⟨1,0,0,0⟩).1 (aY s.toNat).2.1.toNat) ⟨1,0,0,0⟩).1)=x:=ex
 have hp1:ry (((eE (aY s.toNat).1 ⟨1,0,0,0⟩).1,(aY s.toNat).2.1,()),())=true:=by
  refine decide_eq_true ?_
  show 0<=(aY s.toNat).2.1/\(aY s.toNat).2.1<=1000000
  have h:=axh hs
  omega
 unfold FF
 simp only [hA,ez',et',ex',er,e0,hc]
 refine (OT.ao hs).trans ((ah ?_).trans ((OT.aq (b:=bZ A) hz).trans ((ah ?_).trans ?_)))
 ·simp only [List.all_cons,List.all_nil,Bool.and_true]
  exact iY hs
 ·simp only [List.all_cons,List.all_nil,Bool.and_true,Bool.and_eq_true]
  exact ⟨hp1,hs,hs,hs,h0⟩
 ·cases c
  ·have hn:kw (qp (aKJ (aY s.toNat)))=true:=iY hs
   refine (OT.aq rfl).trans ((ah rfl).trans ?_)
   have ho:=aAO X
   unfold la
   rcases (Bool.eq_false_or_eq_true (X.w0%2==1)).symm with h|h
   ·rw [h] at ho⊢
    exact (OT.aq ho).trans ((ah rfl).trans rfl)
   ·rw [h] at ho⊢
    refine (OT.ao ho).trans ((ah ?_).trans rfl)
    simp only [List.all_cons,List.all_nil,Bool.and_true,Bool.and_eq_true]
    exact ⟨rfl,hn,rfl,rfl,rfl,rfl⟩
  ·exact (OT.ao rfl).trans ((ah rfl).trans rfl)
theorem aBj:ac Tryz.prog 97 (kB.aI ZJ au9):=aoa kn rr km rq px Cj I3 IZ aBl aBk aBm _ _ λx oy hp ho=>by
 rw [<-ho]
 clear ho
 obtain ⟨⟨s,a,⟨⟩⟩,⟨⟩⟩:=x
 show (FF kn rr km rq px Cj I3 IZ s a).run=(OT.br (ap s) (.br (bZ (ofP (pS s) a)) (.ok ⟨eH,((⟨0,0,0,0⟩,((0:Int),())),())⟩)
  (.br (eqE (gX (pS s) (ofP (pS s) a) (dr (eE (aY s.toNat).1 eU).1)) eU) (.ok ⟨eH,((la (pS s) (sN s (ofP (pS s) a)),((0:Int),())),())⟩) (.ok ⟨eH,((⟨0,0,0,0⟩,((22:Int),())),())⟩)))
  (.ok ⟨eH,((⟨0,0,0,0⟩,((20:Int),())),())⟩):OT kB.Y).run
 rcases (Bool.eq_false_or_eq_true (ap s)).symm with hs|hs
 ·exact (OT.aq hs).trans (OT.aq (b:=ap s) hs).symm
 ·have k:=W7 hs
  refine Eq.trans ?_ (OT.ao (b:=ap s) hs).symm
  have hA:ofN (a.nat%(aY s.toNat).1.nat)=ofP (pS s) a:=rfl
  have hlt:(ofP (pS s) a).nat<pS s:=by
   rw [show (ofP (pS s) a).nat=a.nat%pS s from dy k.sm]
   exact Nat.mod_lt _ k.pr.pos
  generalize ofP (pS s) a=A at*
  rcases (Bool.eq_false_or_eq_true (bZ A)).symm with hz|hz
  ·refine Eq.trans ?_ (OT.aq (b:=bZ A) hz).symm
   have hsame:=aDO k hlt hz
   have hres:tW (W8 (aY s.toNat) (fI s A).2.2 (fI s A).2.1 (fI s A).1)=tsF (pS s) (adS s+1) (adS s) (fI s A):=rfl
   have hbd:=axh hs
   have h0:px (W8 (aY s.toNat) (fI s A).2.2 (fI s A).2.1 (fI s A).1)=true:=by
    refine (Bool.and_eq_true _ _).mpr ⟨iY hs,decide_eq_true ⟨⟨?_,?_⟩,rfl,rfl,rfl,rfl,rfl⟩⟩
    ·show 0<=(aY s.toNat).2.1;omega
    ·show (aY s.toNat).2.1<=1000;omega
   have main:=aob (ok2:=kn) (g2:=rr) (ok4:=km) (g4:=rq) (ok0:=px) (g0r:=Cj) (c0:=I3) (g0:=IZ) (X:=(tW (W8 (aY s.toNat) (fI s A).2.2 (fI s A).2.1 (fI s A).1)).getD ⟨0,0,0,0⟩) hs k hA hz rfl rfl rfl h0 rfl rfl rfl
   refine main.trans ?_
   show cond (tW (W8 (aY s.toNat) (fI s A).2.2 (fI s A).2.1 (fI s A).1)).isNone _ _=_
   rw [hres]
   rcases (Bool.eq_false_or_eq_true (eqE (gX (pS s) A (dr (eE (aY s.toNat).1 eU).1)) eU)).symm with h|h
   ·rw [h] at hsame
    refine Eq.trans ?_ (OT.aq h).symm
    cases ht:tsF (pS s) (adS s+1) (adS s) (fI s A) with
    |none=>rfl
    |some x=>rw [ht] at hsame;cases hsame
   ·rw [h] at hsame
    refine Eq.trans ?_ (OT.ao h).symm
    cases ht:tsF (pS s) (adS s+1) (adS s) (fI s A) with
    |none=>rw [ht] at hsame;cases hsame
    |some x=>
     rw [ht] at hsame
     have hsame:some (la (pS s) x)=some (la (pS s) (sN s A)):=hsame
     rw [<-Option.some.inj hsame]
     rfl
  ·refine Eq.trans ?_ (OT.ao (b:=bZ A) hz).symm
   rw [zero_eq hz] at hA
   refine (OT.ao hs).trans ((ah ?_).trans ?_)
   ·simp only [List.all_cons,List.all_nil,Bool.and_true]
    exact iY hs
   ·rw [hA]
    rfl
def FE:cj:=(kB.aI ZJ au9)
theorem aeP:ac Tryz.prog 97 FE:=aBj
theorem aeO:aG FE:=aB
def GF:Env:=ay 97 FE vp
theorem xT:aQ Tryz.prog GF:=ag aeP lx
theorem HY:ax GF:=ae aeO H5
theorem Od:aW Tryz.prog te GF:=aL follows ar xT HY
def ft:aw:=⟨[.val false .int,.val true .elem],[],true,0,false⟩
abbrev xa:Type:=((Int)×(aa)×Unit)×(Unit)
def pL:Shape:=⟨39,[(3,.ptr 0 0 0),(7,.own 1),(21,.val false .int),(22,.val false .int)],[(0,.row .u64),(1,.row .u8)],0,true⟩
abbrev ci:Type:=((Unit)×(Unit)×(Int)×(Int)×Unit)×((List (UInt64))×(List (UInt8))×Unit)
def nL:Shape:=⟨39,[(7,.own 0)],[(0,.row .u8)],0,true⟩
abbrev jh:Type:=((Unit)×Unit)×((List (UInt8))×Unit)
def RJ:SE->Option Shape:=fc [(0,nL)] none
def aoL (a21:Int) (a22:Int) (c0:List (UInt64)) (c1:List (UInt8)):OT (Sum ci aE):=
 let z0:Int:=Int.tdiv a22 (8:Int)
 let z1:Int:=(8:Int)*Int.tmod a22 (8:Int)
 let z2:Nat:=List.length c1
 let z3:Nat:=Int.toNat a22
 (.br (decide (a22<a21))
 (gd [true&&inR z0,inB z0 4,decide (Int.toNat z0+0<List.length c0),inR z1,decide ((0:Int)<=z1),inB a22 z2,decide (z3<z2),inR (a22+(1:Int))] (.ok (.inl (((),((),(a21,(a22+(1:Int),())))),(c0,(List.set c1 z3 (UInt64.toUInt8 (bm (List.getD c0 (Int.toNat z0+0) (0:UInt64)) z1)),()))))))
 (.ok (.inr ⟨(.exit 0,nL),(((),()),(c1,()))⟩)))
def pM (s:ci):OT (Sum ci aE):=aoL (s.1.2.2.1) (s.1.2.2.2.1) (s.2.1) (s.2.2.1)
theorem aoI (s:ci) (Q:Sum ci aE->Prop):wps te GF av 1000 (aU (aj Tryz.f53) 0) (pL.inj s) (bU pL RJ (Q:Sum pL.T aE->Prop))=(pM s).wpR Q:=by kernel_rfl
def wZ (g0_0:ci->jh) (s:ci):OT aE:=(.ok ⟨(.exit 0,nL),g0_0 s⟩)
def jS:az:=⟨[.own 0],[(0,.row .u8)],false⟩
def MA:SV->Option az:=λ_=>some jS
def MC (ok0:ci->Bool) (g0_0:ci->jh) (a0:Int) (a1:aa):OT ft.Y:=
 let z0:aa×Int×UInt64×UInt64×aa:=aY (Int.toNat a0)
 let z1:aa:=ofN (aa.nat a1%aa.nat z0.fst)
 let z2:(PUnit×PUnit×Int×Int×PUnit)×List UInt64×List UInt8×PUnit:=(((),(),(32:Int),(0:Int),()),[z1.w0,z1.w1,z1.w2,z1.w3],List.replicate 32 (0:UInt8),())
 (.br (ap a0)
 (gd [gG ((z0,a1,()),()),ok0 z2] (.ok ⟨jS,(((),()),((g0_0 z2).snd.fst,()))⟩))
 (.ok ⟨jS,(((),()),([],()))⟩))
theorem avE (ok0:ci->Bool) (g0_0:ci->jh) (x:xa) (Q:ft.Y->Prop):wpf te GF (aO 0 (cf pL 0 ok0 (wZ g0_0)) av) 1000 Tryz.f53 (ft.inp.inj x).tm (ft.inp.inj x).hp (fnK ft MA Q) (λ_ _=>False)=(MC ok0 g0_0 (x.1.1) (x.1.2.1)).wpR Q:=by kernel_rfl
theorem aae (ok0:ci->Bool) (g0_0:ci->jh) (h0:∀ s:ci,ok0 s=true->∃ m e,al (pM) m s=some e/\(wZ g0_0 s).run=some e) (pre:xa->Bool) (F:xa->OT ft.Y) (hF:∀ (x:xa) oy,pre x=true->(F x).run=some oy->(MC ok0 g0_0 (x.1.1) (x.1.2.1)).run=some oy):ac Tryz.prog 53 (ft.aI pre F):=
 aD ar xT Od (f:=53) (fn:=Tryz.f53) (c:=aj Tryz.f53) (by kernel_rfl) (by kernel_rfl) (by kernel_rfl) (S:=ft) (k:=0) (by kernel_rfl) (λR hR=>(aA (c:=(aj Tryz.f53)) (by kernel_rfl) (id:=0) (by kernel_rfl) (aP ar xT Od (sh:=pL) hR (xs:=RJ) (aC (by kernel_rfl) (by kernel_rfl) hR) aM af (n:=1000) (T:=pM) (λs Q=>aoI s Q) (ok:=ok0) (f:=wZ g0_0) h0) af)) (n:=1000) (sel:=MA) (λv o h=>by cases h;rfl) (pre:=pre) (F:=F) (T:=λx=>MC ok0 g0_0 (x.1.1) (x.1.2.1)) (λx Q=>avE ok0 g0_0 x Q) hF
def ap6 (e:aa):List UInt8:=upto (λk o=>o.set k (UInt64.toUInt8 (bm ((lst e).getD (k/8) 0) (8*((k%8:Nat):Int))))) (List.replicate 32 0) 32
def zK (s:ci):Bool:=decide (s.1.2.2.1=32/\s.1.2.2.2.1=0/\s.2.1.length=4/\s.2.2.1=List.replicate 32 0)
def wY (s:ci):jh:=(((),()),(ap6 (elemOf s.2.1),()))
theorem aoK:∀ s:ci,zK s=true->∃ m e,al pM m s=some e/\(wZ wY s).run=some e:=by
 rintro ⟨⟨⟨⟩,⟨⟩,n,i,⟨⟩⟩,⟨h,o,⟨⟩⟩⟩ hh
 have h':=of_decide_eq_true hh
 dsimp only at h'
 obtain ⟨rfl,rfl,hl,rfl⟩:=h'
 obtain ⟨e,rfl⟩:∃ e,h=lst e:=⟨elemOf h,(aS hl).symm⟩
 have:=(aR (T:=pM) (λi o=>((((),(),(32:Int),(i:Int),()),(lst e,o,())):ci)) (λk o=>o.set k (UInt64.toUInt8 (bm ((lst e).getD (k/8) 0) (8*((k%8:Nat):Int)))))
  (λo=>(⟨(.exit 0,nL),(((),()),(o,()))⟩:aE)) 32 (List.replicate 32 0) (λ_ o=>o.length=32) (by simp) (λi o hi ho=>⟨?_,by rw [List.length_set];exact ho⟩) (λo ho=> ?_)).1
 ·obtain ⟨m,hm⟩:=this
  exact ⟨m,_,hm,rfl⟩
 ·have t1:Int.tdiv (i:Int) 8=((i/8:Nat):Int):=by rw [Int.tdiv_eq_ediv_of_nonneg (by omega)];omega
  have t2:Int.tmod (i:Int) 8=((i%8:Nat):Int):=by rw [Int.tmod_eq_emod_of_nonneg (by omega)];omega
  refine (OT.ao (decide_eq_true (by dsimp only;omega))).trans ((ah ?_).trans ?_)
  ·simp only [t1,t2,cN,ho,Int.toNat_natCast,List.all_cons,List.all_nil,Bool.and_true,Bool.and_eq_true]
   exact ⟨⟨trivial,aH (by omega)⟩,aN (by omega),decide_eq_true (by omega),aH (by omega),decide_eq_true (by omega),aN (by omega),decide_eq_true (by omega),aH (by omega)⟩
  ·simp only [OT.cT,t1,t2,Int.toNat_natCast,Nat.add_zero]
   rfl
 ·exact OT.aq (decide_eq_false (by dsimp only;omega))
theorem Pp (e:aa):zK (((),(),32,0,()),(lst e,List.replicate 32 0,()))=true:=decide_eq_true ⟨rfl,rfl,rfl,rfl⟩
theorem ae8 (z:aa):(OT.ok ⟨jS,(((),()),((wY (((),(),32,0,()),([z.w0,z.w1,z.w2,z.w3],List.replicate 32 0,()))).2.1,()))⟩:OT ft.Y)=.ok ⟨jS,(((),()),(ap6 z,()))⟩:=by
 have e:elemOf [z.w0,z.w1,z.w2,z.w3]=z:=rfl
 simp only [wY,e]
def MB (_:xa):Bool:=true
def aaf (x:xa):OT ft.Y:=.br (ap x.1.1) (.ok ⟨jS,(((),()),(ap6 (ofN (x.1.2.1.nat%(aY x.1.1.toNat).1.nat)),()))⟩) (.ok ⟨jS,(((),()),([],()))⟩)
theorem aoJ:ac Tryz.prog 53 (ft.aI MB aaf):=aae zK wY aoK _ _ λx oy hp ho=>by
 rw [<-ho]
 clear ho
 obtain ⟨⟨s,a,⟨⟩⟩,⟨⟩⟩:=x
 cases hs:ap s
 ·exact (OT.aq hs).trans (OT.aq (b:=ap s) hs).symm
 ·refine (OT.ao hs).trans ((ah ?_).trans ?_)
  ·simp only [List.all_cons,List.all_nil,Bool.and_true,Bool.and_eq_true]
   exact ⟨iY hs,Pp _⟩
  ·refine Eq.trans ?_ (OT.ao (b:=ap s) hs).symm
   exact congrArg OT.run (ae8 (ofN (a.nat%(aY s.toNat).1.nat)))
def uo:cj:=(ft.aI MB aaf)
theorem Vt:ac Tryz.prog 53 uo:=aoJ
theorem Vs:aG uo:=aB
def vr:Env:=ay 53 uo GF
theorem vq:aQ Tryz.prog vr:=ag Vt xT
theorem yK:ax vr:=ae Vs HY
theorem WC:aW Tryz.prog te vr:=aL follows ar vq yK
end Go.Proofs.YtohjofabochgfaaGreat

namespace Go.Proofs.YtohjofabochgfaaGreat
open Sx Go
abbrev dC:Pt:=(⟨0,0,0,0⟩,⟨0,0,0,0⟩,false)
end Go.Proofs.YtohjofabochgfaaGreat

namespace Go.Proofs.YtohjofabochgfaaGreat
open Sx Go
set_option maxRecDepth 100000
def dj:aw:=⟨[.val false .int,.val false (.list .u8)],[],true,0,false⟩
abbrev nM:Type:=((Int)×(List (UInt8))×Unit)×(Unit)
def bw:az:=⟨[.val true (.prod .elem (.prod .elem .bool)),.val false .int],[],false⟩
def M0:SV->Option az:=λ_=>some bw
def uI (a0:Int) (a1:List (UInt8)):OT dj.Y:=
 let z0:Bool:=ap a0
 let z1:Nat:=List.length a1
 let z2:aa:= {w0:=0,w1:=0,w2:=0,w3:=0}
 let z3:aa×Bool:=(z2,false)
 let z4:aa×aa×Bool:=(z2,z3)
 let z5:Bool:=inB (31:Int) z1
 let z6:Bool:=decide (31<z1)
 let z7:UInt8:=List.getD a1 31 (0:UInt8)
 let z8:List UInt8:=List.set a1 31 (z7&&&(127:UInt8))
 let z9:aa:=Im z8
 let z10:Nat:=pS a0
 let z11:aa:=bS a0
 let z12:Bool:=uJ ((a0,z9,z11,()),())
 let z13:aa:=ofP z10 (Cz z10 z9 z11)
 let z14:Bool:=bZ z13
 let z15:Bool:= !(0:UInt8)==z7>>>(7:UInt8)
 let z16:aa×aa×Bool:=(z9,IR z10 z2,false)
 let z17:aa×aa×Bool:=(z9,z3)
 let z18:Bool:=eqE (gX z10 z13 (dr (eE (aY (Int.toNat a0)).fst eU).fst)) eU
 let z19:aa:=la z10 (sN a0 z13)
 let z20:Bool:= !UInt64.toUInt8 (z19.w0&&&(1:UInt64))==z7>>>(7:UInt8)
 let z21:aa×aa×Bool:=(z9,IR z10 z19,false)
 let z22:aa×aa×Bool:=(z9,z19,false)
 (.br (z0)
 (.br (!(↑z1:Int)==(32:Int))
  (.ok ⟨bw,((z4,((41:Int),())),())⟩)
  (gd [lu ((a1,()),()),z5,z6,z5,z6,z5,z6] (.br (z0)
   (.br (gL z8)
    (.br (Nat.blt (aa.nat z9) z10)
     (.br (z9.w0==(0:UInt64)&&(z9.w1==(0:UInt64)&&(z9.w2==(0:UInt64)&&(z9.w3==(0:UInt64)&&true))))
      (.br (z7>>>(7:UInt8)==(0:UInt8))
       (.ok ⟨bw,(((z2,z2,true),((0:Int),())),())⟩)
       (gd [z12] (.br (z0)
        (.br (z14)
         (.br (z15)
          (.br (z0)
           (.ok ⟨bw,((z16,((0:Int),())),())⟩)
           (.ok ⟨bw,((z17,((0:Int),())),())⟩))
          (.ok ⟨bw,((z17,((0:Int),())),())⟩))
         (.br (z18)
          (.br (z20)
           (.br (z0)
            (.ok ⟨bw,((z21,((0:Int),())),())⟩)
            (.ok ⟨bw,((z17,((0:Int),())),())⟩))
           (.ok ⟨bw,((z22,((0:Int),())),())⟩))
          (.ok ⟨bw,((z4,((41:Int),())),())⟩)))
        (.ok ⟨bw,((z4,((41:Int),())),())⟩))))
      (gd [z12] (.br (z0)
       (.br (z14)
        (.br (z15)
         (.br (z0)
          (.ok ⟨bw,((z16,((0:Int),())),())⟩)
          (.ok ⟨bw,((z17,((0:Int),())),())⟩))
         (.ok ⟨bw,((z17,((0:Int),())),())⟩))
        (.br (z18)
         (.br (z20)
          (.br (z0)
           (.ok ⟨bw,((z21,((0:Int),())),())⟩)
           (.ok ⟨bw,((z17,((0:Int),())),())⟩))
          (.ok ⟨bw,((z22,((0:Int),())),())⟩))
         (.ok ⟨bw,((z4,((41:Int),())),())⟩)))
       (.ok ⟨bw,((z4,((41:Int),())),())⟩))))
     (.ok ⟨bw,((z4,((41:Int),())),())⟩))
    (.ok ⟨bw,((z4,((41:Int),())),())⟩))
   (.ok ⟨bw,((z4,((41:Int),())),())⟩))))
 (.ok ⟨bw,((z4,((40:Int),())),())⟩))
theorem awq (x:nM) (Q:dj.Y->Prop):wpf te vr av 1000 Tryz.f58 (dj.inp.inj x).tm (dj.inp.inj x).hp (fnK dj M0 Q) (λ_ _=>False)=(uI (x.1.1) (x.1.2.1)).wpR Q:=by kernel_rfl
theorem aaF (pre:nM->Bool) (F:nM->OT dj.Y) (hF:∀ (x:nM) oy,pre x=true->(F x).run=some oy->(uI (x.1.1) (x.1.2.1)).run=some oy):ac Tryz.prog 58 (dj.aI pre F):=
 aD ar vq WC (f:=58) (fn:=Tryz.f58) (c:=aj Tryz.f58) (by kernel_rfl) (by kernel_rfl) (by kernel_rfl) (S:=dj) (k:=0) (by kernel_rfl) (λR hR=>af) (n:=1000) (sel:=M0) (λv o h=>by cases h;rfl) (pre:=pre) (F:=F) (T:=λx=>uI (x.1.1) (x.1.2.1)) (λx Q=>awq x Q) hF
def auj (b:List UInt8):aa:=Im (b.set 31 (b.getD 31 0&&&127))
def WM (b:List UInt8):Bool:= !(b.getD 31 0>>>7==0)
theorem aBC {y:aa} (h:y.nat%2=0):UInt64.toUInt8 (y.w0&&&1)=0:=by
 have e:y.nat%2=y.w0.toNat%2:=by unfold Sx.aa.nat;omega
 have h2:(y.w0&&&1).toNat=y.w0.toNat%2:=by
  rw [UInt64.toNat_and]
  exact Nat.and_two_pow_sub_one_eq_mod y.w0.toNat 1
 have:y.w0&&&1=0:=UInt64.toNat_inj.1 (by rw [h2,<-e,h];rfl)
 rw [this]
 rfl
def M1 (_:nM):Bool:=true
def aDg {S:aw} (f:Pt->Int->OT S.Y) (s:Int) (b:List UInt8):OT S.Y:=.br (ap s) (.br (gL b) (.br (Nat.blt (auj b).nat (pS s)) (.br (bZ (auj b)) (.br (WM b) (f dC 41) (f cO 0)) (.br (sqB s (auj b)) (f (ptD s (auj b) (WM b)) 0) (f dC 41))) (f dC 41)) (f dC 41)) (f dC 40)
def aaH (x:nM):OT dj.Y:=aDg (S:=dj) (λP e=>.ok ⟨bw,((P,(e,())),())⟩) x.1.1 x.1.2.1
theorem aaG {s:Int} {b:List UInt8} {N:aa} (hN:auj b=N):(uI s b).run=(aDg (S:=dj) (λP e=>.ok ⟨bw,((P,(e,())),())⟩) s b).run:=by
 have hN':Im (List.set b 31 (List.getD b 31 0&&&127))=N:=hN
 unfold uI aDg
 rw [hN]
 simp only [hN']
 rcases (Bool.eq_false_or_eq_true (ap s)).symm with hs|hs
 ·exact (OT.aq hs).trans (OT.aq (b:=ap s) hs).symm
 ·refine (OT.ao hs).trans (Eq.trans ?_ (OT.ao (b:=ap s) hs).symm)
  rcases (Bool.eq_false_or_eq_true (gL b)).symm with hl|hl
  ·exact (OT.ao (b:= !gL b) (by rw [hl];rfl)).trans (OT.aq (b:=gL b) hl).symm
  ·have hlen:=po.1 hl
   have i1:inB 31 b.length=true:=aN (by omega)
   have i2:decide (31<b.length)=true:=decide_eq_true (by omega)
   have i3:lu ((b,()),())=true:=decide_eq_true (by show b.length<=_;omega)
   have i4:gL (List.set b 31 (List.getD b 31 0&&&127))=true:=po.2 (by rw [List.length_set];exact hlen)
   have hg:∀ z:aa,uJ ((s,z,bS s,()),())=true:=λ_=>hs
   refine (OT.aq (b:= !gL b) (by rw [hl];rfl)).trans (Eq.trans ((ah ?_).trans ((OT.ao hs).trans ((OT.ao i4).trans ?_))) (OT.ao (b:=gL b) hl).symm)
   ·simp only [i1,i2,i3,List.all_cons,List.all_nil,Bool.and_self]
   ·rcases (Bool.eq_false_or_eq_true (Nat.blt N.nat (pS s))).symm with hb|hb
    ·exact (OT.aq hb).trans (OT.aq (b:=Nat.blt N.nat (pS s)) hb).symm
    ·refine (OT.ao hb).trans (Eq.trans ?_ (OT.ao (b:=Nat.blt N.nat (pS s)) hb).symm)
     have hA:=ar2 hs N
     have sg:(List.getD b 31 0>>>7==0)= !WM b:=by unfold WM;rw [Bool.not_not]
     rcases (Bool.eq_false_or_eq_true (bZ N)).symm with hz|hz
     ·refine (OT.aq (b:=bZ N) hz).trans (Eq.trans ?_ (OT.aq (b:=bZ N) hz).symm)
      refine (ah (by rw [hg];rfl)).trans ((OT.ao hs).trans ((OT.aq (b:=bZ (sqA s N)) hA).trans ?_))
      rcases (Bool.eq_false_or_eq_true (sqB s N)).symm with hq|hq
      ·exact (OT.aq (b:=sqB s N) hq).trans (OT.aq (b:=sqB s N) hq).symm
      ·refine (OT.ao (b:=sqB s N) hq).trans (Eq.trans ?_ (OT.ao (b:=sqB s N) hq).symm)
       have hy:=aBC (aJ8 hs hq).2.1
       have hc:(!UInt64.toUInt8 ((sqY s N).w0&&&1)==List.getD b 31 0>>>7)=WM b:=by
        rw [hy]
        unfold WM
        rw [Bool.beq_comm]
       unfold ptD
       rcases (Bool.eq_false_or_eq_true (WM b)).symm with ho|ho
       ·rw [ho] at hc⊢
        exact (OT.aq hc).trans rfl
       ·rw [ho] at hc⊢
        exact (OT.ao hc).trans ((OT.ao hs).trans rfl)
     ·refine (OT.ao (b:=bZ N) hz).trans (Eq.trans ?_ (OT.ao (b:=bZ N) hz).symm)
      have hN0:=zero_eq hz
      rcases (Bool.eq_false_or_eq_true (WM b)).symm with ho|ho
      ·exact (OT.ao (by rw [sg,ho];rfl)).trans (OT.aq (b:=WM b) ho).symm
      ·refine (OT.aq (by rw [sg,ho];rfl)).trans (Eq.trans ?_ (OT.ao (b:=WM b) ho).symm)
       have hq:sqB s N=false:=by rw [hN0];exact azF hs
       exact (ah (by rw [hg];rfl)).trans ((OT.ao hs).trans ((OT.aq (b:=bZ (sqA s N)) hA).trans (OT.aq (b:=sqB s N) hq)))
theorem RY:ac Tryz.prog 58 (dj.aI M1 aaH):=aaF _ _ λx oy hp ho=>by
 rw [<-ho]
 clear ho
 obtain ⟨⟨s,b,⟨⟩⟩,⟨⟩⟩:=x
 exact aaG rfl
def uH:cj:=(dj.aI M1 aaH)
theorem VP:ac Tryz.prog 58 uH:=RY
theorem VO:aG uH:=aB
def qm:Env:=ay 58 uH vr
theorem nY:aQ Tryz.prog qm:=ag VP vq
theorem yN:ax qm:=ae VO yK
theorem DQ:aW Tryz.prog te qm:=aL follows ar nY yN
def eK:aw:=⟨[.val false (.list .u8)],[],true,0,false⟩
abbrev oH:Type:=((List (UInt8))×Unit)×(Unit)
def lU:Shape:=⟨27,[(0,.val false (.list .u8)),(2,.ptr 0 0 0),(3,.ptr 1 0 0),(4,.val false .int)],[(0,.row .u64),(1,.row .u64)],0,true⟩
abbrev bu:Type:=((List (UInt8))×(Unit)×(Unit)×(Int)×Unit)×((List (UInt64))×(List (UInt64))×Unit)
def kS:Shape:=⟨27,[(2,.ptr 0 0 0),(3,.ptr 1 0 0)],[(0,.row .u64),(1,.row .u64)],0,true⟩
abbrev fA:Type:=((Unit)×(Unit)×Unit)×((List (UInt64))×(List (UInt64))×Unit)
def Kd:SE->Option Shape:=fc [(0,kS)] none
def adg (a0:List (UInt8)) (a4:Int) (c0:List (UInt64)) (c1:List (UInt64)):OT (Sum bu aE):=
 let z0:Int:=Int.tdiv a4 (8:Int)
 let z1:Bool:=inB z0 4
 let z2:Bool:=decide (Int.toNat z0+0<List.length c1)
 let z3:Int:=(8:Int)*Int.tmod a4 (8:Int)
 (.br (decide (a4<(32:Int)))
 (gd [true&&inR z0,z1,z2,inB a4 (List.length a0),inR z3,z1,z2,inR (a4+(1:Int))] (.ok (.inl ((a0,((),((),(a4+(1:Int),())))),(c0,(List.set c1 (Int.toNat z0+0) (List.getD c1 (Int.toNat z0+0) (0:UInt64)|||bR (UInt8.toUInt64 (List.getD a0 (Int.toNat a4) (0:UInt8))) (↑(UInt64.toNat (i2u z3)):Int)),()))))))
 (.ok (.inr ⟨(.exit 0,kS),(((),((),())),(c0,(c1,())))⟩)))
def lV (s:bu):OT (Sum bu aE):=adg (s.1.1) (s.1.2.2.2.1) (s.2.1) (s.2.2.1)
theorem adb (s:bu) (Q:Sum bu aE->Prop):wps te qm av 1000 (aU (aj Tryz.f100) 0) (lU.inj s) (bU lU Kd (Q:Sum lU.T aE->Prop))=(lV s).wpR Q:=by kernel_rfl
def qN (g0_0:bu->fA) (s:bu):OT aE:=(.ok ⟨(.exit 0,kS),g0_0 s⟩)
def qM:az:=⟨[.val true .elem],[],false⟩
def GZ:SV->Option az:=λ_=>some qM
def oG (ok0:bu->Bool) (g0_0:bu->fA) (a0:List (UInt8)):OT eK.Y:=
 let z0:(List UInt8×PUnit×PUnit×Int×PUnit)×List UInt64×List UInt64×PUnit:=((a0,(),(),(0:Int),()),[(0:UInt64),(0:UInt64),(0:UInt64),(0:UInt64)],[(0:UInt64),(0:UInt64),(0:UInt64),(0:UInt64)],())
 let z1:=(g0_0 z0).snd
 let z2:=z1.snd.fst
 let z3:=z1.fst
 let z4:List UInt64:=lay z3 z2 4 (0:UInt64)
 (gd [ok0 z0,decide (4<=List.length z2),decide ((4/1:Nat)+0<=List.length z3),decide (4<=List.length z4)] (.ok ⟨qM,(({w0:=List.getD z4 0 0,w1:=List.getD z4 1 0,w2:=List.getD z4 2 0,w3:=List.getD z4 3 0},()),())⟩))
theorem amt (ok0:bu->Bool) (g0_0:bu->fA) (x:oH) (Q:eK.Y->Prop):wpf te qm (aO 0 (cf lU 0 ok0 (qN g0_0)) av) 1000 Tryz.f100 (eK.inp.inj x).tm (eK.inp.inj x).hp (fnK eK GZ Q) (λ_ _=>False)=(oG ok0 g0_0 (x.1.1)).wpR Q:=by kernel_rfl
theorem TO (ok0:bu->Bool) (g0_0:bu->fA) (h0:∀ s:bu,ok0 s=true->∃ m e,al (lV) m s=some e/\(qN g0_0 s).run=some e) (pre:oH->Bool) (F:oH->OT eK.Y) (hF:∀ (x:oH) oy,pre x=true->(F x).run=some oy->(oG ok0 g0_0 (x.1.1)).run=some oy):ac Tryz.prog 100 (eK.aI pre F):=
 aD ar nY DQ (f:=100) (fn:=Tryz.f100) (c:=aj Tryz.f100) (by kernel_rfl) (by kernel_rfl) (by kernel_rfl) (S:=eK) (k:=0) (by kernel_rfl) (λR hR=>(aA (c:=(aj Tryz.f100)) (by kernel_rfl) (id:=0) (by kernel_rfl) (aP ar nY DQ (sh:=lU) hR (xs:=Kd) (aC (by kernel_rfl) (by kernel_rfl) hR) aM af (n:=1000) (T:=lV) (λs Q=>adb s Q) (ok:=ok0) (f:=qN g0_0) h0) af)) (n:=1000) (sel:=GZ) (λv o h=>by cases h;rfl) (pre:=pre) (F:=F) (T:=λx=>oG ok0 g0_0 (x.1.1)) (λx Q=>amt ok0 g0_0 x Q) hF
def G0 (s:bu):Bool:=decide (s.1.1.length=32/\s.1.2.2.2.1=0/\s.2.2.1= [0,0,0,0])
def Ke (s:bu):fA:=(((),(),()),(s.2.1,aHS s.1.1 32,()))
theorem adf:∀ s:bu,G0 s=true->∃ m e,al lV m s=some e/\(qN Ke s).run=some e:=by
 rintro ⟨⟨b,⟨⟩,⟨⟩,i,⟨⟩⟩,⟨c0,c1,⟨⟩⟩⟩ h
 have h':=of_decide_eq_true h
 dsimp only at h'
 obtain ⟨hb,rfl,rfl⟩:=h'
 have:=(aR (T:=lV) (λi o=>(((b,(),(),(i:Int),()),(c0,o,())):bu)) (Uz b)
  (λo=>(⟨(.exit 0,kS),(((),(),()),(c0,o,()))⟩:aE)) 32 [0,0,0,0] (λ_ o=>o.length=4) rfl (λi o hi ho=>⟨?_,(List.length_set ..).trans ho⟩) (λo ho=> ?_)).1
 ·obtain ⟨m,hm⟩:=this
  exact ⟨m,_,hm,rfl⟩
 ·have t1:=aF8 i
  have t2:=aF9 i
  have t3:(8:Int)*((i%8:Nat):Int)=((8*(i%8):Nat):Int):=by omega
  have t4:=LY (k:=8*(i%8)) (by omega)
  refine (OT.ao (decide_eq_true (by dsimp only;omega))).trans ((ah ?_).trans ?_)
  ·simp only [t1,t2,ho,hb,Int.toNat_natCast,List.all_cons,List.all_nil,Bool.and_true,Bool.true_and,Bool.and_eq_true]
   exact ⟨aH (by omega),aN (by omega),decide_eq_true (by omega),aN (by omega),aH (by omega),aN (by omega),decide_eq_true (by omega),aH (by omega)⟩
  ·simp only [OT.cT,t1,t2,Int.toNat_natCast,Nat.add_zero]
   unfold Uz
   rw [t3,t4]
   rfl
 ·exact OT.aq (decide_eq_false (by dsimp only;omega))
def ig (x:oH):Bool:=decide (x.1.1.length=32)
def Qk (x:oH):OT eK.Y:=.ok ⟨qM,((Im x.1.1,()),())⟩
abbrev Qj (b:List UInt8):bu:=((b,(),(),0,()),([0,0,0,0],[0,0,0,0],()))
theorem TP {ok0:bu->Bool} {g0:bu->fA} {b:List UInt8} {L:List UInt64} (hok:ok0 (Qj b)=true)
 (hg:g0 (Qj b)=(((),(),()),([0,0,0,0],L,()))) (hL:L.length=4):(oG ok0 g0 b).run=some ⟨qM,((elemOf L,()),())⟩:=by
 have e:lay [0,0,0,0] L 4 0=L:=yj rfl hL
 unfold oG
 simp only [hg]
 refine (ah ?_).trans ?_
 ·simp only [e,hL,List.all_cons,List.all_nil,Bool.and_true,Bool.and_eq_true]
  exact ⟨hok,rfl,rfl,rfl⟩
 ·rw [e]
  rfl
theorem ade:ac Tryz.prog 100 (eK.aI ig Qk):=TO G0 Ke adf _ _ λx oy hp ho=>by
 rw [<-ho]
 clear ho
 obtain ⟨⟨b,⟨⟩⟩,⟨⟩⟩:=x
 have hb:b.length=32:=of_decide_eq_true hp
 exact TP (b:=b) (L:=aHS b 32) (decide_eq_true ⟨hb,rfl,rfl⟩) rfl (zr b 32)
def qL:cj:=(eK.aI ig Qk)
theorem O8:ac Tryz.prog 100 qL:=ade
theorem O7:aG qL:=aB
def p9:Env:=ay 100 qL qm
theorem rS:aQ Tryz.prog p9:=ag O8 nY
theorem u5:ax p9:=ae O7 yN
theorem PD:aW Tryz.prog te p9:=aL follows ar rS u5
def dZ:aw:=⟨[.val false .int,.val false (.list .u8)],[],true,0,false⟩
abbrev oQ:Type:=((Int)×(List (UInt8))×Unit)×(Unit)
def eo:az:=⟨[.val true .elem,.val false .int],[],false⟩
def G6:SV->Option az:=λ_=>some eo
def oP (a0:Int) (a1:List (UInt8)):OT dZ.Y:=
 let z0:aa:= {w0:=0,w1:=0,w2:=0,w3:=0}
 let z1:Bool:=ig ((a1,()),())
 let z2:aa:=Im a1
 (gd [lf ((a0,()),())] (.br (!(↑(List.length a1):Int)==(32:Int))
 (.ok ⟨eo,((z0,((21:Int),())),())⟩)
 (gd [z1] (.br (!Nat.blt (aa.nat z2) (aa.nat (aY (Int.toNat a0)).fst))
  (.ok ⟨eo,((z0,((21:Int),())),())⟩)
  (gd [z1] (.ok ⟨eo,((z2,((0:Int),())),())⟩))))))
theorem amG (x:oQ) (Q:dZ.Y->Prop):wpf te p9 av 1000 Tryz.f59 (dZ.inp.inj x).tm (dZ.inp.inj x).hp (fnK dZ G6 Q) (λ_ _=>False)=(oP (x.1.1) (x.1.2.1)).wpR Q:=by kernel_rfl
theorem TY (pre:oQ->Bool) (F:oQ->OT dZ.Y) (hF:∀ (x:oQ) oy,pre x=true->(F x).run=some oy->(oP (x.1.1) (x.1.2.1)).run=some oy):ac Tryz.prog 59 (dZ.aI pre F):=
 aD ar rS PD (f:=59) (fn:=Tryz.f59) (c:=aj Tryz.f59) (by kernel_rfl) (by kernel_rfl) (by kernel_rfl) (S:=dZ) (k:=0) (by kernel_rfl) (λR hR=>af) (n:=1000) (sel:=G6) (λv o h=>by cases h;rfl) (pre:=pre) (F:=F) (T:=λx=>oP (x.1.1) (x.1.2.1)) (λx Q=>amG x Q) hF
def nk (x:oQ):Bool:=ap x.1.1
def Qx (x:oQ):OT dZ.Y:=.br (gL x.1.2.1) (.br (Nat.blt (Im x.1.2.1).nat (pS x.1.1)) (.ok ⟨eo,((Im x.1.2.1,((0:Int),())),())⟩) (.ok ⟨eo,((⟨0,0,0,0⟩,((21:Int),())),())⟩))
 (.ok ⟨eo,((⟨0,0,0,0⟩,((21:Int),())),())⟩)
theorem TZ {s:Int} {b:List UInt8} {N:aa} (hs:ap s=true) (hN:Im b=N):(oP s b).run=(OT.br (gL b) (.br (Nat.blt N.nat (pS s)) (.ok ⟨eo,((N,((0:Int),())),())⟩) (.ok ⟨eo,((⟨0,0,0,0⟩,((21:Int),())),())⟩))
 (.ok ⟨eo,((⟨0,0,0,0⟩,((21:Int),())),())⟩):OT dZ.Y).run:=by
 unfold oP
 simp only [hN]
 refine (ah (by simp only [List.all_cons,List.all_nil,Bool.and_true];exact hs)).trans ?_
 rcases (Bool.eq_false_or_eq_true (gL b)).symm with hl|hl
 ·exact (OT.ao (b:= !gL b) (by rw [hl];rfl)).trans (OT.aq (b:=gL b) hl).symm
 ·have hp:ig ((b,()),())=true:=decide_eq_true (po.1 hl)
  refine (OT.aq (b:= !gL b) (by rw [hl];rfl)).trans (Eq.trans ?_ (OT.ao (b:=gL b) hl).symm)
  rw [hp]
  refine (ah rfl).trans ?_
  rcases (Bool.eq_false_or_eq_true (Nat.blt N.nat (pS s))).symm with h|h
  ·exact (OT.ao (b:= !Nat.blt N.nat (pS s)) (by rw [h];rfl)).trans (OT.aq (b:=Nat.blt N.nat (pS s)) h).symm
  ·exact (OT.aq (b:= !Nat.blt N.nat (pS s)) (by rw [h];rfl)).trans ((ah rfl).trans (OT.ao (b:=Nat.blt N.nat (pS s)) h).symm)
theorem adI:ac Tryz.prog 59 (dZ.aI nk Qx):=TY _ _ λx oy hp ho=>by
 rw [<-ho]
 clear ho
 obtain ⟨⟨s,b,⟨⟩⟩,⟨⟩⟩:=x
 exact TZ hp rfl
def qU:cj:=(dZ.aI nk Qx)
theorem Pe:ac Tryz.prog 59 qU:=adI
theorem Pd:aG qU:=aB
def lv:Env:=ay 59 qU p9
theorem lc:aQ Tryz.prog lv:=ag Pe rS
theorem u7:ax lv:=ae Pd u5
theorem yv:aW Tryz.prog te lv:=aL follows ar lc u7
def eL:aw:=⟨[.val false .int,.val true .elem],[],true,0,false⟩
abbrev oO:Type:=((Int)×(aa)×Unit)×(Unit)
def l9:Shape:=⟨38,[(3,.ptr 0 0 0),(7,.own 1),(8,.val false .int)],[(0,.row .u64),(1,.row .u8)],0,true⟩
abbrev bA:Type:=((Unit)×(Unit)×(Int)×Unit)×((List (UInt64))×(List (UInt8))×Unit)
def iG:Shape:=⟨38,[(7,.own 0)],[(0,.row .u8)],0,true⟩
abbrev fB:Type:=((Unit)×Unit)×((List (UInt8))×Unit)
def Ko:SE->Option Shape:=fc [(0,iG)] none
def adH (a8:Int) (c0:List (UInt64)) (c1:List (UInt8)):OT (Sum bA aE):=
 let z0:Int:=Int.tdiv a8 (8:Int)
 let z1:Int:=(8:Int)*Int.tmod a8 (8:Int)
 (.br (decide (a8<(32:Int)))
 (gd [true&&inR z0,inB z0 4,decide (Int.toNat z0+0<List.length c0),inR z1,decide ((List.length c1+1)*1<=140737488355328),inR (a8+(1:Int))] (.ok (.inl (((),((),(a8+(1:Int),()))),(c0,(c1++ [UInt64.toUInt8 (bm (List.getD c0 (Int.toNat z0+0) (0:UInt64)) (↑(UInt64.toNat (i2u z1)):Int))],()))))))
 (.ok (.inr ⟨(.exit 0,iG),(((),()),(c1,()))⟩)))
def ma (s:bA):OT (Sum bA aE):=adH (s.1.2.2.1) (s.2.1) (s.2.2.1)
theorem adE (s:bA) (Q:Sum bA aE->Prop):wps te lv av 1000 (aU (aj Tryz.f55) 0) (l9.inj s) (bU l9 Ko (Q:Sum l9.T aE->Prop))=(ma s).wpR Q:=by kernel_rfl
def qT (g0_0:bA->fB) (s:bA):OT aE:=(.ok ⟨(.exit 0,iG),g0_0 s⟩)
def qS:az:=⟨[.own 0],[(0,.row .u8)],false⟩
def G4:SV->Option az:=λ_=>some qS
def oN (ok0:bA->Bool) (g0_0:bA->fB) (a0:Int) (a1:aa):OT eL.Y:=
 let z0:aa:=ofP (pS a0) a1
 let z1:(PUnit×PUnit×Int×PUnit)×List UInt64×List UInt8×PUnit:=(((),(),(0:Int),()),[z0.w0,z0.w1,z0.w2,z0.w3],[],())
 (gd [lf ((a0,()),()),ta ((a0,a1,()),()),ok0 z1] (.ok ⟨qS,(((),()),((g0_0 z1).snd.fst,()))⟩))
theorem amF (ok0:bA->Bool) (g0_0:bA->fB) (x:oO) (Q:eL.Y->Prop):wpf te lv (aO 0 (cf l9 0 ok0 (qT g0_0)) av) 1000 Tryz.f55 (eL.inp.inj x).tm (eL.inp.inj x).hp (fnK eL G4 Q) (λ_ _=>False)=(oN ok0 g0_0 (x.1.1) (x.1.2.1)).wpR Q:=by kernel_rfl
theorem TW (ok0:bA->Bool) (g0_0:bA->fB) (h0:∀ s:bA,ok0 s=true->∃ m e,al (ma) m s=some e/\(qT g0_0 s).run=some e) (pre:oO->Bool) (F:oO->OT eL.Y) (hF:∀ (x:oO) oy,pre x=true->(F x).run=some oy->(oN ok0 g0_0 (x.1.1) (x.1.2.1)).run=some oy):ac Tryz.prog 55 (eL.aI pre F):=
 aD ar lc yv (f:=55) (fn:=Tryz.f55) (c:=aj Tryz.f55) (by kernel_rfl) (by kernel_rfl) (by kernel_rfl) (S:=eL) (k:=0) (by kernel_rfl) (λR hR=>(aA (c:=(aj Tryz.f55)) (by kernel_rfl) (id:=0) (by kernel_rfl) (aP ar lc yv (sh:=l9) hR (xs:=Ko) (aC (by kernel_rfl) (by kernel_rfl) hR) aM af (n:=1000) (T:=ma) (λs Q=>adE s Q) (ok:=ok0) (f:=qT g0_0) h0) af)) (n:=1000) (sel:=G4) (λv o h=>by cases h;rfl) (pre:=pre) (F:=F) (T:=λx=>oN ok0 g0_0 (x.1.1) (x.1.2.1)) (λx Q=>amF ok0 g0_0 x Q) hF
def aJs (e:aa) (k:Nat):UInt8:=UInt64.toUInt8 (bm ((lst e).getD (k/8) 0) (8*((k%8:Nat):Int)))
theorem axf {α:Type} (f:Nat->α):∀ n,upto (λk (o:List α)=>o++ [f k]) [] n=(List.range n).map f
 |0=>rfl
 |n+1=>by
  show upto (λk (o:List α)=>o++ [f k]) [] n++ [f n]=_
  rw [axf f n,List.range_succ,List.map_append]
  rfl
theorem Xh {α:Type} (f:Nat->α) (l:List α):∀ n,n<=l.length->upto (λk (o:List α)=>o.set k (f k)) l n=(List.range n).map f++l.drop n
 |0,_=>rfl
 |n+1,h=>by
  have hl:((List.range n).map f).length=n:=by rw [List.length_map,List.length_range]
  show (upto (λk (o:List α)=>o.set k (f k)) l n).set n (f n)=_
  rw [Xh f l n (by omega),List.set_append_right _ _ (by omega),hl,Nat.sub_self,List.drop_eq_getElem_cons (by omega),List.set_cons_zero,List.range_succ,List.map_append,List.append_assoc]
  rfl
theorem aBF (e:aa):ap6 e=(List.range 32).map (aJs e):=by
 have h:=Xh (aJs e) (List.replicate 32 0) 32 (by rw [List.length_replicate];omega)
 rw [List.drop_eq_nil_of_le (by rw [List.length_replicate];omega),List.append_nil] at h
 exact h
def G5 (s:bA):Bool:=decide (s.1.2.2.1=0/\s.2.1.length=4/\s.2.2.1= [])
def Kq (s:bA):fB:=(((),()),(ap6 (elemOf s.2.1),()))
theorem adG:∀ s:bA,G5 s=true->∃ m e,al ma m s=some e/\(qT Kq s).run=some e:=by
 rintro ⟨⟨⟨⟩,⟨⟩,i,⟨⟩⟩,⟨h,o,⟨⟩⟩⟩ hh
 have h':=of_decide_eq_true hh
 dsimp only at h'
 obtain ⟨rfl,hl,rfl⟩:=h'
 obtain ⟨e,rfl⟩:∃ e,h=lst e:=⟨elemOf h,(aS hl).symm⟩
 have:=(aR (T:=ma) (λi o=>((((),(),(i:Int),()),(lst e,o,())):bA)) (λk o=>o++ [aJs e k])
  (λo=>(⟨(.exit 0,iG),(((),()),(o,()))⟩:aE)) 32 [] (λn o=>o.length=n) rfl (λi o hi ho=>⟨?_,by rw [List.length_append,ho];rfl⟩) (λo ho=> ?_)).1
 ·obtain ⟨m,hm⟩:=this
  refine ⟨m,_,hm,?_⟩
  have hE:ap6 (elemOf (lst e))=upto (λk (o:List UInt8)=>o++ [aJs e k]) [] 32:=by rw [axf];exact aBF e
  show some (⟨(.exit 0,iG),(((),()),(ap6 (elemOf (lst e)),()))⟩:aE)=_
  rw [hE]
 ·have t1:=aF8 i
  have t2:=aF9 i
  have t3:(8:Int)*((i%8:Nat):Int)=((8*(i%8):Nat):Int):=by omega
  have t4:=LY (k:=8*(i%8)) (by omega)
  refine (OT.ao (decide_eq_true (by dsimp only;omega))).trans ((ah ?_).trans ?_)
  ·simp only [t1,t2,ho,cN,Int.toNat_natCast,List.all_cons,List.all_nil,Bool.and_true,Bool.true_and,Bool.and_eq_true]
   exact ⟨aH (by omega),aN (by omega),decide_eq_true (by omega),aH (by omega),decide_eq_true (by omega),aH (by omega)⟩
  ·simp only [OT.cT,t1,t2,Int.toNat_natCast,Nat.add_zero]
   unfold aJs
   rw [t3,t4]
   rfl
 ·exact OT.aq (decide_eq_false (by dsimp only;omega))
def nj (x:oO):Bool:=ap x.1.1
def Qw (x:oO):OT eL.Y:=.ok ⟨qS,(((),()),(ap6 (ofP (pS x.1.1) x.1.2.1),()))⟩
theorem TX {ok0:bA->Bool} {g0:bA->fB} {s:Int} {a A:aa} {B:List UInt8} (hs:ap s=true) (hA:ofP (pS s) a=A) (h0:ok0 (((),(),0,()),([A.w0,A.w1,A.w2,A.w3],[],()))=true)
 (e0:g0 (((),(),0,()),([A.w0,A.w1,A.w2,A.w3],[],()))=(((),()),(B,()))):(oN ok0 g0 s a).run=some ⟨qS,(((),()),(B,()))⟩:=by
 unfold oN
 simp only [hA,e0]
 refine (ah ?_).trans rfl
 simp only [List.all_cons,List.all_nil,Bool.and_true,Bool.and_eq_true]
 exact ⟨hs,hs,h0⟩
theorem adF:ac Tryz.prog 55 (eL.aI nj Qw):=TW G5 Kq adG _ _ λx oy hp ho=>by
 rw [<-ho]
 clear ho
 obtain ⟨⟨s,a,⟨⟩⟩,⟨⟩⟩:=x
 exact TX (A:=ofP (pS s) a) hp rfl (decide_eq_true ⟨rfl,rfl,rfl⟩) rfl
def qR:cj:=(eL.aI nj Qw)
theorem Pc:ac Tryz.prog 55 qR:=adF
theorem Pb:aG qR:=aB
def qc:Env:=ay 55 qR lv
theorem rU:aQ Tryz.prog qc:=ag Pc lc
theorem u6:ax qc:=ae Pb u7
theorem PE:aW Tryz.prog te qc:=aL follows ar rU u6
def cK:aw:=⟨[.val false .int,.val false (.list .u8)],[],true,0,false⟩
abbrev j8:Type:=((Int)×(List (UInt8))×Unit)×(Unit)
def bx:az:=⟨[.val true (.prod .elem (.prod .elem .bool)),.val false .int],[],false⟩
def GX:SV->Option az:=λ_=>some bx
def oz (a0:Int) (a1:List (UInt8)):OT cK.Y:=
 let z0:aa:= {w0:=0,w1:=0,w2:=0,w3:=0}
 let z1:aa×Bool:=(z0,false)
 let z2:aa×aa×Bool:=(z0,z1)
 let z3:Nat:=List.length a1
 let z4:Bool:=inB (31:Int) z3
 let z5:Bool:=decide (31<z3)
 let z6:UInt8:=List.getD a1 31 (0:UInt8)
 let z7:List UInt8:=List.set a1 31 (z6&&&(127:UInt8))
 let z8:aa:=Im z7
 let z9:Nat:=pS a0
 let z10:Bool:=z8.w0==(0:UInt64)&&(z8.w1==(0:UInt64)&&(z8.w2==(0:UInt64)&&(z8.w3==(0:UInt64)&&true)))
 let z11:Bool:=decide ((128:UInt8)<=z6)
 let z12:aa×aa×Bool:=(z0,z0,true)
 let z13:Bool:=oA ((a0,z8,()),())
 let z14:aa:=Cz z9 z8 (bS a0)
 let z15:Bool:=oC ((a0,z14,()),())
 let z16:aa:=ofP z9 z14
 let z17:Bool:=bZ z16
 let z18:Bool:=lW ((a0,z0,()),())
 let z19:aa×aa×Bool:=(z8,IR z9 z0,false)
 let z20:aa×aa×Bool:=(z8,z1)
 let z21:Bool:=eqE (gX z9 z16 (dr (eE (aY (Int.toNat a0)).fst eU).fst)) eU
 let z22:aa:=la z9 (sN a0 z16)
 let z23:Bool:=lW ((a0,z22,()),())
 let z24:aa×aa×Bool:=(z8,IR z9 z22,false)
 let z25:aa×aa×Bool:=(z8,z22,false)
 (.br (decide (a0<(0:Int)))
 (.ok ⟨bx,((z2,((40:Int),())),())⟩)
 (.br (decide ((3:Int)<a0))
  (.ok ⟨bx,((z2,((40:Int),())),())⟩)
  (.br (!(↑z3:Int)==(32:Int))
   (.ok ⟨bx,((z2,((41:Int),())),())⟩)
   (gd [sD ((a1,()),()),z4,z5,z4,z5,z4,z5,nk ((a0,z7,()),())] (.br (gL z7)
    (.br (Nat.blt (aa.nat z8) z9)
     (.br (z10)
      (.br (z11)
       (.ok ⟨bx,((z2,((41:Int),())),())⟩)
       (.br (z10)
        (.ok ⟨bx,((z12,((0:Int),())),())⟩)
        (gd [z13,z15] (.br (z17)
         (.br (z11)
          (gd [z18] (.ok ⟨bx,((z19,((0:Int),())),())⟩))
          (.ok ⟨bx,((z20,((0:Int),())),())⟩))
         (.br (z21)
          (.br (z11)
           (gd [z23] (.ok ⟨bx,((z24,((0:Int),())),())⟩))
           (.ok ⟨bx,((z25,((0:Int),())),())⟩))
          (.ok ⟨bx,((z2,((41:Int),())),())⟩))))))
      (.br (z10)
       (.ok ⟨bx,((z12,((0:Int),())),())⟩)
       (gd [z13,z15] (.br (z17)
        (.br (z11)
         (gd [z18] (.ok ⟨bx,((z19,((0:Int),())),())⟩))
         (.ok ⟨bx,((z20,((0:Int),())),())⟩))
        (.br (z21)
         (.br (z11)
          (gd [z23] (.ok ⟨bx,((z24,((0:Int),())),())⟩))
          (.ok ⟨bx,((z25,((0:Int),())),())⟩))
         (.ok ⟨bx,((z2,((41:Int),())),())⟩))))))
     (.ok ⟨bx,((z2,((41:Int),())),())⟩))
    (.ok ⟨bx,((z2,((41:Int),())),())⟩))))))
theorem amp (x:j8) (Q:cK.Y->Prop):wpf te qc av 1000 Tryz.f56 (cK.inp.inj x).tm (cK.inp.inj x).hp (fnK cK GX Q) (λ_ _=>False)=(oz (x.1.1) (x.1.2.1)).wpR Q:=by kernel_rfl
theorem TB (pre:j8->Bool) (F:j8->OT cK.Y) (hF:∀ (x:j8) oy,pre x=true->(F x).run=some oy->(oz (x.1.1) (x.1.2.1)).run=some oy):ac Tryz.prog 56 (cK.aI pre F):=
 aD ar rU PE (f:=56) (fn:=Tryz.f56) (c:=aj Tryz.f56) (by kernel_rfl) (by kernel_rfl) (by kernel_rfl) (S:=cK) (k:=0) (by kernel_rfl) (λR hR=>af) (n:=1000) (sel:=GX) (λv o h=>by cases h;rfl) (pre:=pre) (F:=F) (T:=λx=>oz (x.1.1) (x.1.2.1)) (λx Q=>amp x Q) hF
theorem aDQ (x:UInt8):decide (128<=x)= !(x>>>7==0):=by
 have h:∀ n,n<256->decide (128<=UInt8.ofNat n)= !(UInt8.ofNat n>>>7==0):=by decide+kernel
 have:=h x.toNat x.toNat_lt
 rwa [UInt8.ofNat_toNat] at this
def GY (_:j8):Bool:=true
def Qc (x:j8):OT cK.Y:=aDg (S:=cK) (λP e=>.ok ⟨bx,((P,(e,())),())⟩) x.1.1 x.1.2.1
theorem TC {s:Int} {b:List UInt8} {N:aa} (hN:auj b=N):(oz s b).run=(aDg (S:=cK) (λP e=>.ok ⟨bx,((P,(e,())),())⟩) s b).run:=by
 have hN':Im (List.set b 31 (List.getD b 31 0&&&127))=N:=hN
 unfold oz aDg
 rw [hN]
 have hodd:decide (128<=List.getD b 31 0)=WM b:=aDQ _
 simp only [hN',hodd]
 rcases (Bool.eq_false_or_eq_true (ap s)).symm with hs|hs
 ·refine Eq.trans ?_ (OT.aq (b:=ap s) hs).symm
  by_cases h0:s<0
  ·exact OT.ao (decide_eq_true h0)
  ·refine (OT.aq (decide_eq_false h0)).trans (OT.ao (decide_eq_true ?_))
   simp only [ap,Bool.and_eq_false_iff,decide_eq_false_iff_not] at hs
   omega
 ·have hc:0<=s/\s<4:=by simpa [ap] using hs
  refine (OT.aq (decide_eq_false (by omega))).trans ((OT.aq (decide_eq_false (by omega))).trans (Eq.trans ?_ (OT.ao (b:=ap s) hs).symm))
  rcases (Bool.eq_false_or_eq_true (gL b)).symm with hl|hl
  ·exact (OT.ao (b:= !gL b) (by rw [hl];rfl)).trans (OT.aq (b:=gL b) hl).symm
  ·have hlen:=po.1 hl
   have i1:inB 31 b.length=true:=aN (by omega)
   have i2:decide (31<b.length)=true:=decide_eq_true (by omega)
   have i3:sD ((b,()),())=true:=decide_eq_true (by show b.length<=_;omega)
   have i4:gL (List.set b 31 (List.getD b 31 0&&&127))=true:=po.2 (by rw [List.length_set];exact hlen)
   have i5:nk ((s,List.set b 31 (List.getD b 31 0&&&127),()),())=true:=hs
   have hg1:∀ z:aa,oA ((s,z,()),())=true:=λ_=>hs
   have hg2:∀ z:aa,oC ((s,z,()),())=true:=λ_=>hs
   have hg3:∀ z:aa,lW ((s,z,()),())=true:=λ_=>hs
   refine (OT.aq (b:= !gL b) (by rw [hl];rfl)).trans (Eq.trans ((ah ?_).trans ((OT.ao i4).trans ?_)) (OT.ao (b:=gL b) hl).symm)
   ·simp only [i1,i2,i3,i5,List.all_cons,List.all_nil,Bool.and_self]
   ·rcases (Bool.eq_false_or_eq_true (Nat.blt N.nat (pS s))).symm with hb|hb
    ·exact (OT.aq hb).trans (OT.aq (b:=Nat.blt N.nat (pS s)) hb).symm
    ·refine (OT.ao hb).trans (Eq.trans ?_ (OT.ao (b:=Nat.blt N.nat (pS s)) hb).symm)
     have hA:=ar2 hs N
     rcases (Bool.eq_false_or_eq_true (bZ N)).symm with hz|hz
     ·refine (OT.aq (b:=bZ N) hz).trans (Eq.trans ((OT.aq (b:=bZ N) hz).trans ?_) (OT.aq (b:=bZ N) hz).symm)
      refine (ah (by rw [hg1,hg2];rfl)).trans ((OT.aq (b:=bZ (sqA s N)) hA).trans ?_)
      rcases (Bool.eq_false_or_eq_true (sqB s N)).symm with hq|hq
      ·exact (OT.aq (b:=sqB s N) hq).trans (OT.aq (b:=sqB s N) hq).symm
      ·refine (OT.ao (b:=sqB s N) hq).trans (Eq.trans ?_ (OT.ao (b:=sqB s N) hq).symm)
       unfold ptD
       rcases (Bool.eq_false_or_eq_true (WM b)).symm with ho|ho
       ·rw [ho]
        exact (OT.aq rfl).trans rfl
       ·rw [ho]
        exact (OT.ao rfl).trans ((ah (by rw [hg3];rfl)).trans rfl)
     ·refine (OT.ao (b:=bZ N) hz).trans (Eq.trans ?_ (OT.ao (b:=bZ N) hz).symm)
      rcases (Bool.eq_false_or_eq_true (WM b)).symm with ho|ho
      ·exact (OT.aq ho).trans ((OT.ao (b:=bZ N) hz).trans (OT.aq (b:=WM b) ho).symm)
      ·exact (OT.ao ho).trans (OT.ao (b:=WM b) ho).symm
theorem J3:ac Tryz.prog 56 (cK.aI GY Qc):=TB _ _ λx oy hp ho=>by
 rw [<-ho]
 clear ho
 obtain ⟨⟨s,b,⟨⟩⟩,⟨⟩⟩:=x
 exact TC rfl
def qH:cj:=(cK.aI GY Qc)
theorem O6:ac Tryz.prog 56 qH:=J3
theorem O5:aG qH:=aB
def Gp:Env:=ay 56 qH qc
theorem Wp:aQ Tryz.prog Gp:=ag O6 rU
theorem NM:ax Gp:=ae O5 u6
abbrev RW:aw:=dj
def ap8 (s:Int) (b:List UInt8):Pt×Int:=cond (ap s) (cond (gL b) (cond (Nat.blt (auj b).nat (pS s)) (cond (bZ (auj b)) (cond (WM b) (dC,41) (cO,0)) (cond (sqB s (auj b)) (ptD s (auj b) (WM b),0) (dC,41))) (dC,41)) (dC,41)) (dC,40)
theorem akY {S:aw} (f:Pt->Int->OT S.Y) (s:Int) (b:List UInt8):(aDg f s b).run=(f (ap8 s b).1 (ap8 s b).2).run:=by
 unfold aDg ap8
 generalize auj b=N
 rcases (Bool.eq_false_or_eq_true (ap s)).symm with h|h
 ·rw [h];rfl
 ·rcases (Bool.eq_false_or_eq_true (gL b)).symm with h1|h1
  ·rw [h,h1];rfl
  ·rcases (Bool.eq_false_or_eq_true (Nat.blt N.nat (pS s))).symm with h2|h2
   ·rw [h,h1,h2];rfl
   ·rcases (Bool.eq_false_or_eq_true (bZ N)).symm with h3|h3
    ·rcases (Bool.eq_false_or_eq_true (sqB s N)).symm with h4|h4
     ·rw [h,h1,h2,h3,h4];rfl
     ·rw [h,h1,h2,h3,h4];rfl
    ·rcases (Bool.eq_false_or_eq_true (WM b)).symm with h4|h4
     ·rw [h,h1,h2,h3,h4];rfl
     ·rw [h,h1,h2,h3,h4];rfl
def Hm (_:nM):Bool:=true
def RX (x:nM):OT dj.Y:=.ok ⟨bw,(((ap8 x.1.1 x.1.2.1).1,((ap8 x.1.1 x.1.2.1).2,())),())⟩
theorem afr:ac Tryz.prog 58 (RW.aI Hm RX):=jB (S:=dj) RY λx oy hp ho=>⟨rfl,(akY (S:=dj) (λP e=>.ok ⟨bw,((P,(e,())),())⟩) x.1.1 x.1.2.1).trans ho⟩
def rD:cj:=(RW.aI Hm RX)
theorem Pu:ac Tryz.prog 58 rD:=afr
theorem Ps:aG rD:=aB
def GN:Env:=ay 58 rD Gp
theorem WH:aQ Tryz.prog GN:=ag Pu Wp
theorem OK:ax GN:=ae Ps NM
abbrev J1:aw:=cK
def Bm (_:j8):Bool:=true
def J2 (x:j8):OT cK.Y:=.ok ⟨bx,(((ap8 x.1.1 x.1.2.1).1,((ap8 x.1.1 x.1.2.1).2,())),())⟩
theorem XK:ac Tryz.prog 56 (J1.aI Bm J2):=jB (S:=cK) J3 λx oy hp ho=>⟨rfl,(akY (S:=cK) (λP e=>.ok ⟨bx,((P,(e,())),())⟩) x.1.1 x.1.2.1).trans ho⟩
def n5:cj:=(J1.aI Bm J2)
theorem J0:ac Tryz.prog 56 n5:=XK
theorem JZ:aG n5:=aB
def mU:Env:=ay 56 n5 GN
theorem oa:aQ Tryz.prog mU:=ag J0 WH
theorem so:ax mU:=ae JZ OK
theorem NL:aW Tryz.prog te mU:=aL follows ar oa so
def se:aw:=⟨[.val false .int],[],true,0,false⟩
def UQ:az:=⟨[.rb,.val false .int],[],false⟩
def aek:az:=⟨[.ptr 0 0 0,.val false .int],[(0,.cells [.val false .int,.own 1]),(1,.row Ii)],false⟩
abbrev anS:Type:=((Int)×Unit)×(Unit)
def Zn:List az:= [UQ,aek]
def ajY (a0:Int):OT se.Y:=
 (.br (decide (a0<(0:Int)))
 (.ok ⟨UQ,(((),((40:Int),())),())⟩)
 (.br (decide ((3:Int)<a0))
  (.ok ⟨UQ,(((),((40:Int),())),())⟩)
  (.ok ⟨aek,(((),((0:Int),())),((a0,((),())),([],())))⟩)))
theorem aI0 (x:anS) (Q:se.Y->Prop):wpf te mU av 1000 Tryz.f114 (se.inp.inj x).tm (se.inp.inj x).hp (aGQ se Zn Q) (λ_ _=>False)=(ajY (x.1.1)).wpR Q:=by kernel_rfl
theorem auC (pre:anS->Bool) (F:anS->OT se.Y) (hF:∀ (x:anS) oy,pre x=true->(F x).run=some oy->(ajY (x.1.1)).run=some oy):ac Tryz.prog 114 (se.aI pre F):=
 aky ar oa NL (f:=114) (fn:=Tryz.f114) (c:=aj Tryz.f114) (by kernel_rfl) (by kernel_rfl) (by kernel_rfl) (S:=se) (k:=0) (by kernel_rfl) (λR hR=>af) (n:=1000) (outs:=Zn) (by kernel_rfl) (pre:=pre) (F:=F) (T:=λx=>ajY (x.1.1)) (λx Q=>aI0 x Q) hF
def ajX (_:anS):Bool:=true
def aC0 (x:anS):OT se.Y:=.br (ap x.1.1) (.ok ⟨aek,(((),((0:Int),())),((x.1.1,((),())),([],())))⟩) (.ok ⟨UQ,(((),((40:Int),())),())⟩)
theorem aGq:ac Tryz.prog 114 (se.aI ajX aC0):=auC _ _ λx oy _ ho=>by
 rw [<-ho]
 clear ho
 obtain ⟨⟨s,⟨⟩⟩,⟨⟩⟩:=x
 show (ajY s).run=(OT.br (ap s) _ _:OT se.Y).run
 by_cases h0:s<0
 ·refine (OT.ao (decide_eq_true h0)).trans (OT.aq (b:=ap s) ?_).symm
  simp only [ap,decide_eq_false (show ¬(0:Int)<=s by omega),Bool.false_and]
 ·refine (OT.aq (decide_eq_false h0)).trans ?_
  by_cases h3:3<s
  ·refine (OT.ao (decide_eq_true h3)).trans (OT.aq (b:=ap s) ?_).symm
   simp only [ap,decide_eq_false (show ¬s<4 by omega),Bool.and_false]
  ·refine (OT.aq (decide_eq_false h3)).trans (OT.ao (b:=ap s) ?_).symm
   simp only [ap,decide_eq_true (show (0:Int)<=s by omega),decide_eq_true (show s<4 by omega),Bool.and_self]
def Lq:cj:=(se.aI ajX aC0)
theorem anR:ac Tryz.prog 114 Lq:=aGq
theorem anQ:aG Lq:=aB
def abH:Env:=ay 114 Lq mU
theorem N8:aQ Tryz.prog abH:=ag anR oa
theorem N9:ax abH:=ae anQ so
theorem apS:aW Tryz.prog te abH:=aL follows ar N8 N9
def aKL (w:Sh):CSh:=.cells [.val false .int,w]
def sf:aw:=⟨[.ptr 0 0 0,.val true .elem,.val true (.prod .elem (.prod .elem .bool))],[(0,aKL (.own 1)),(1,.row Ii)],false,1,true⟩
abbrev an1:Type:=((Unit)×(aa)×((aa×(aa×Bool)))×Unit)×(((Int)×(Unit)×Unit)×(List ((aa×(aa×(aa×Bool)))))×Unit)
def tO:az:=⟨[.val false .int],[(0,.cells [.val false .int,.own 1]),(1,.row (.prod .elem (.prod .elem (.prod .elem .bool))))],false⟩
def aj5:SV->Option az:=λ_=>some tO
def aj7 (a1:aa) (a2:(aa×(aa×Bool))) (c0_0:Int) (c1:List ((aa×(aa×(aa×Bool))))):OT sf.Y:=
 let z0:Int:=aI2 c0_0 (1:Int)
 let z1:aa:= {w0:=0,w1:=0,w2:=0,w3:=0}
 (.br (!onB c0_0 a2)
 (.ok ⟨tO,(((41:Int),()),((c0_0,((),())),(c1,())))⟩)
 (.br (decide ((100000:Int)<=(↑(List.length c1):Int)))
  (.ok ⟨tO,(((50:Int),()),((c0_0,((),())),(c1,())))⟩)
  (.br (ap z0)
   (gd [decide ((List.length c1+1)*104<=140737488355328)] (.ok ⟨tO,(((0:Int),()),((c0_0,((),())),(c1++ [(Gg (pS z0) a1 z1,a2)],())))⟩))
   (gd [decide ((List.length c1+1)*104<=140737488355328)] (.ok ⟨tO,(((0:Int),()),((c0_0,((),())),(c1++ [(z1,a2)],())))⟩)))))
theorem aI1 (x:an1) (Q:sf.Y->Prop):wpf te abH av 1000 Tryz.f115 (sf.inp.inj x).tm (sf.inp.inj x).hp (fnK sf aj5 Q) (λ_ _=>False)=(aj7 (x.1.2.1) (x.1.2.2.1) (x.2.1.1) (x.2.2.1)).wpR Q:=by kernel_rfl
theorem auI (pre:an1->Bool) (F:an1->OT sf.Y) (hF:∀ (x:an1) oy,pre x=true->(F x).run=some oy->(aj7 (x.1.2.1) (x.1.2.2.1) (x.2.1.1) (x.2.2.1)).run=some oy):ac Tryz.prog 115 (sf.aI pre F):=
 aD ar N8 apS (f:=115) (fn:=Tryz.f115) (c:=aj Tryz.f115) (by kernel_rfl) (by kernel_rfl) (by kernel_rfl) (S:=sf) (k:=2) (by kernel_rfl) (λR hR=>af) (n:=1000) (sel:=aj5) (λv o h=>by cases h;rfl) (pre:=pre) (F:=F) (T:=λx=>aj7 (x.1.2.1) (x.1.2.2.1) (x.2.1.1) (x.2.2.1)) (λx Q=>aI1 x Q) hF
abbrev Tm:Type:=Ii.T
def zu:Tm:=(⟨0,0,0,0⟩,⟨0,0,0,0⟩,⟨0,0,0,0⟩,false)
def Xv (l:List Tm):Bool:=decide (l.length<100000)
def aj6 (_:an1):Bool:=true
def aC1 (x:an1):OT sf.Y:=.br (onB x.2.1.1 x.1.2.2.1) (.br (Xv x.2.2.1) (.ok ⟨tO,(((0:Int),()),((x.2.1.1,((),())),(x.2.2.1++ [(acA x.2.1.1 x.1.2.1,x.1.2.2.1)],())))⟩)
 (.ok ⟨tO,(((50:Int),()),((x.2.1.1,((),())),(x.2.2.1,())))⟩)) (.ok ⟨tO,(((41:Int),()),((x.2.1.1,((),())),(x.2.2.1,())))⟩)
theorem aGr:ac Tryz.prog 115 (sf.aI aj6 aC1):=auI _ _ λx oy _ ho=>by
 rw [<-ho]
 clear ho
 obtain ⟨⟨⟨⟩,k,P,⟨⟩⟩,⟨⟨c,⟨⟩,⟨⟩⟩,l,⟨⟩⟩⟩:=x
 show (aj7 k P c l).run=(OT.br (onB c P) (.br (Xv l) _ _) _:OT sf.Y).run
 rcases (Bool.eq_false_or_eq_true (onB c P)).symm with h|h
 ·exact (OT.ao (b:= !onB c P) (by rw [h];rfl)).trans (OT.aq (b:=onB c P) h).symm
 ·refine (OT.aq (b:= !onB c P) (by rw [h];rfl)).trans (Eq.trans ?_ (OT.ao (b:=onB c P) h).symm)
  rcases (Bool.eq_false_or_eq_true (Xv l)).symm with h2|h2
  ·have h3:=of_decide_eq_false h2
   exact (OT.ao (decide_eq_true (by omega))).trans (OT.aq (b:=Xv l) h2).symm
  ·have h3:=of_decide_eq_true h2
   refine (OT.aq (decide_eq_false (by omega))).trans (Eq.trans ?_ (OT.ao (b:=Xv l) h2).symm)
   refine (OT.ao (PV (Ux h))).trans ((ah ?_).trans rfl)
   simp only [List.all_cons,List.all_nil,Bool.and_true]
   exact decide_eq_true (by omega)
def LK:cj:=(sf.aI aj6 aC1)
theorem an0:ac Tryz.prog 115 LK:=aGr
theorem anZ:aG LK:=aB
def SF:Env:=ay 115 LK abH
theorem DG:aQ Tryz.prog SF:=ag an0 N8
theorem Oa:ax SF:=ae anZ N9
theorem SD:aW Tryz.prog te SF:=aL follows ar DG Oa
def ga:aw:=⟨[.val false .int,.val false (.list Ii)],[],true,0,false⟩
abbrev wG:Type:=((Int)×(List ((aa×(aa×(aa×Bool)))))×Unit)×(Unit)
def ph:Shape:=⟨26,[(0,.val false .int),(4,.ptr 0 0 0),(5,.ptr 1 0 0),(9,.val false (.list (.prod .elem (.prod .elem (.prod .elem .bool))))),(10,.val false .int),(11,.val false .int)],[(0,.cells [.val false .u64,.val false .u64,.val false .u64,.val false .u64,.val false .u64,.val false .u64,.val false .u64,.val false .u64,.val false .bool]),(1,.cells [.val false .u64,.val false .u64,.val false .u64,.val false .u64,.val false .u64,.val false .u64,.val false .u64,.val false .u64,.val false .bool])],0,true⟩
abbrev cd:Type:=((Int)×(Unit)×(Unit)×(List ((aa×(aa×(aa×Bool)))))×(Int)×(Int)×Unit)×(((UInt64)×(UInt64)×(UInt64)×(UInt64)×(UInt64)×(UInt64)×(UInt64)×(UInt64)×(Bool)×Unit)×((UInt64)×(UInt64)×(UInt64)×(UInt64)×(UInt64)×(UInt64)×(UInt64)×(UInt64)×(Bool)×Unit)×Unit)
def nC:Shape:=⟨26,[(4,.ptr 0 0 0),(5,.ptr 1 0 0)],[(0,.cells [.val false .u64,.val false .u64,.val false .u64,.val false .u64,.val false .u64,.val false .u64,.val false .u64,.val false .u64,.val false .bool]),(1,.cells [.val false .u64,.val false .u64,.val false .u64,.val false .u64,.val false .u64,.val false .u64,.val false .u64,.val false .u64,.val false .bool])],0,true⟩
abbrev ja:Type:=((Unit)×(Unit)×Unit)×(((UInt64)×(UInt64)×(UInt64)×(UInt64)×(UInt64)×(UInt64)×(UInt64)×(UInt64)×(Bool)×Unit)×((UInt64)×(UInt64)×(UInt64)×(UInt64)×(UInt64)×(UInt64)×(UInt64)×(UInt64)×(Bool)×Unit)×Unit)
def Rf:SE->Option Shape:=fc [(0,nC)] none
def anO (a0:Int) (a9:List ((aa×(aa×(aa×Bool))))) (a10:Int) (a11:Int) (c0_0:UInt64) (c0_1:UInt64) (c0_2:UInt64) (c0_3:UInt64) (c0_4:UInt64) (c0_5:UInt64) (c0_6:UInt64) (c0_7:UInt64) (c0_8:Bool) (c1_0:UInt64) (c1_1:UInt64) (c1_2:UInt64) (c1_3:UInt64) (c1_4:UInt64) (c1_5:UInt64) (c1_6:UInt64) (c1_7:UInt64) (c1_8:Bool):OT (Sum cd aE):=
 let z0:aa:= {w0:=0,w1:=0,w2:=0,w3:=0}
 let z1:aa×aa×aa×Bool:=List.getD a9 (Int.toNat a11) (z0,z0,z0,false)
 let z2:aa×aa×Bool:=lb a0 ({w0:=c1_0,w1:=c1_1,w2:=c1_2,w3:=c1_3},{w0:=c1_4,w1:=c1_5,w2:=c1_6,w3:=c1_7},c1_8) (Zh a0 z1.fst z1.snd)
 let z3:=z2.fst
 let z4:=z2.snd
 let z5:=z4.fst
 (.br (decide (a11<a10))
 (gd [inB a11 (List.length a9),inR (a11+(1:Int))] (.ok (.inl ((a0,((),((),(a9,(a10,(a11+(1:Int),())))))),((c0_0,(c0_1,(c0_2,(c0_3,(c0_4,(c0_5,(c0_6,(c0_7,(c0_8,()))))))))),((z3.w0,(z3.w1,(z3.w2,(z3.w3,(z5.w0,(z5.w1,(z5.w2,(z5.w3,(z4.snd,()))))))))),()))))))
 (.ok (.inr ⟨(.exit 0,nC),(((),((),())),((c0_0,(c0_1,(c0_2,(c0_3,(c0_4,(c0_5,(c0_6,(c0_7,(c0_8,()))))))))),((c1_0,(c1_1,(c1_2,(c1_3,(c1_4,(c1_5,(c1_6,(c1_7,(c1_8,()))))))))),())))⟩)))
def pi (s:cd):OT (Sum cd aE):=anO (s.1.1) (s.1.2.2.2.1) (s.1.2.2.2.2.1) (s.1.2.2.2.2.2.1) (s.2.1.1) (s.2.1.2.1) (s.2.1.2.2.1) (s.2.1.2.2.2.1) (s.2.1.2.2.2.2.1) (s.2.1.2.2.2.2.2.1) (s.2.1.2.2.2.2.2.2.1) (s.2.1.2.2.2.2.2.2.2.1) (s.2.1.2.2.2.2.2.2.2.2.1) (s.2.2.1.1) (s.2.2.1.2.1) (s.2.2.1.2.2.1) (s.2.2.1.2.2.2.1) (s.2.2.1.2.2.2.2.1) (s.2.2.1.2.2.2.2.2.1) (s.2.2.1.2.2.2.2.2.2.1) (s.2.2.1.2.2.2.2.2.2.2.1) (s.2.2.1.2.2.2.2.2.2.2.2.1)
theorem anL (s:cd) (Q:Sum cd aE->Prop):wps te SF av 1000 (aU (aj Tryz.f160) 0) (ph.inj s) (bU ph Rf (Q:Sum ph.T aE->Prop))=(pi s).wpR Q:=by kernel_rfl
def wF (g0_0:cd->ja) (s:cd):OT aE:=(.ok ⟨(.exit 0,nC),g0_0 s⟩)
def Fx:az:=⟨[.val true (.prod .elem (.prod .elem .bool))],[],false⟩
def Ln:SV->Option az:=λ_=>some Fx
def Lp (ok0:cd->Bool) (g0_0:cd->ja) (a0:Int) (a1:List ((aa×(aa×(aa×Bool))))):OT ga.Y:=
 let z0:(Int×PUnit×PUnit×List (aa×aa×aa×Bool)×Int×Int×PUnit)×(UInt64×UInt64×UInt64×UInt64×UInt64×UInt64×UInt64×UInt64×Bool×PUnit)×(UInt64×UInt64×UInt64×UInt64×UInt64×UInt64×UInt64×UInt64×Bool×PUnit)×PUnit:=((a0,(),(),a1,(↑(List.length a1):Int),(0:Int),()),((0:UInt64),(0:UInt64),(0:UInt64),(0:UInt64),(0:UInt64),(0:UInt64),(0:UInt64),(0:UInt64),false,()),((0:UInt64),(0:UInt64),(0:UInt64),(0:UInt64),(0:UInt64),(0:UInt64),(0:UInt64),(0:UInt64),true,()),())
 let z1:=(g0_0 z0).snd.snd.fst
 let z2:=z1.snd
 let z3:=z2.snd
 let z4:=z3.snd
 let z5:=z4.snd
 let z6:=z5.snd
 let z7:=z6.snd
 let z8:=z7.snd
 (gd [ok0 z0] (.ok ⟨Fx,((({w0:=z1.fst,w1:=z2.fst,w2:=z3.fst,w3:=z4.fst},{w0:=z5.fst,w1:=z6.fst,w2:=z7.fst,w3:=z8.fst},z8.snd.fst),()),())⟩))
theorem auz (ok0:cd->Bool) (g0_0:cd->ja) (x:wG) (Q:ga.Y->Prop):wpf te SF (aO 0 (cf ph 0 ok0 (wF g0_0)) av) 1000 Tryz.f160 (ga.inp.inj x).tm (ga.inp.inj x).hp (fnK ga Ln Q) (λ_ _=>False)=(Lp ok0 g0_0 (x.1.1) (x.1.2.1)).wpR Q:=by kernel_rfl
theorem Zl (ok0:cd->Bool) (g0_0:cd->ja) (h0:∀ s:cd,ok0 s=true->∃ m e,al (pi) m s=some e/\(wF g0_0 s).run=some e) (pre:wG->Bool) (F:wG->OT ga.Y) (hF:∀ (x:wG) oy,pre x=true->(F x).run=some oy->(Lp ok0 g0_0 (x.1.1) (x.1.2.1)).run=some oy):ac Tryz.prog 160 (ga.aI pre F):=
 aD ar DG SD (f:=160) (fn:=Tryz.f160) (c:=aj Tryz.f160) (by kernel_rfl) (by kernel_rfl) (by kernel_rfl) (S:=ga) (k:=0) (by kernel_rfl) (λR hR=>(aA (c:=(aj Tryz.f160)) (by kernel_rfl) (id:=0) (by kernel_rfl) (aP ar DG SD (sh:=ph) hR (xs:=Rf) (aC (by kernel_rfl) (by kernel_rfl) hR) aM af (n:=1000) (T:=pi) (λs Q=>anL s Q) (ok:=ok0) (f:=wF g0_0) h0) af)) (n:=1000) (sel:=Ln) (λv o h=>by cases h;rfl) (pre:=pre) (F:=F) (T:=λx=>Lp ok0 g0_0 (x.1.1) (x.1.2.1)) (λx Q=>auz ok0 g0_0 x Q) hF
def PW (c:Int) (l:List Tm) (k:Nat) (O:Pt):Pt:=lb c O (Zh c (l.getD k zu).1 (l.getD k zu).2)
def AS (c:Int) (l:List Tm):Pt:=upto (PW c l) cO l.length
def Lo (s:cd):Bool:=decide (s.1.2.2.2.2.1=(s.1.2.2.2.1.length:Int)/\s.1.2.2.2.2.2.1=0/\MX s.2.2.1=cO/\s.1.2.2.2.1.length<=140737488355328)
def Rg (s:cd):ja:=(((),(),()),(s.2.1,bQ (AS s.1.1 s.1.2.2.2.1),()))
theorem anN:∀ s:cd,Lo s=true->∃ m e,al pi m s=some e/\(wF Rg s).run=some e:=by
 rintro ⟨⟨c,⟨⟩,⟨⟩,l,n,i,⟨⟩⟩,⟨c0,c1,⟨⟩⟩⟩ h
 have h':=of_decide_eq_true h
 dsimp only at h'
 obtain ⟨rfl,rfl,hO,hl⟩:=h'
 have hO2:c1=bQ cO:=by rw [<-hO];rfl
 subst hO2
 have:=(aR (T:=pi) (λi O=>(((c,(),(),l,(l.length:Int),(i:Int),()),(c0,bQ O,())):cd)) (PW c l)
  (λO=>(⟨(.exit 0,nC),(((),(),()),(c0,bQ O,()))⟩:aE)) l.length cO (λ_ _=>True) trivial (λk O hk _=>⟨?_,trivial⟩) (λO _=> ?_)).1
 ·obtain ⟨m,hm⟩:=this
  exact ⟨m,_,hm,rfl⟩
 ·refine (OT.ao (decide_eq_true (by dsimp only;omega))).trans ((ah ?_).trans ?_)
  ·simp only [List.all_cons,List.all_nil,Bool.and_true,Bool.and_eq_true]
   exact ⟨aN (by omega),aH (by omega)⟩
  ·simp only [OT.cT,Int.toNat_natCast]
   rfl
 ·exact OT.aq (decide_eq_false (by dsimp only;omega))
def zz (x:wG):Bool:=decide (x.1.2.1.length<=140737488355328)
def Zm (x:wG):OT ga.Y:=.ok ⟨Fx,((AS x.1.1 x.1.2.1,()),())⟩
theorem anM:ac Tryz.prog 160 (ga.aI zz Zm):=Zl Lo Rg anN _ _ λx oy hp ho=>by
 rw [<-ho]
 clear ho
 obtain ⟨⟨c,l,⟨⟩⟩,⟨⟩⟩:=x
 have hl:l.length<=140737488355328:=of_decide_eq_true hp
 refine (ah ?_).trans rfl
 simp only [List.all_cons,List.all_nil,Bool.and_true]
 exact decide_eq_true ⟨rfl,rfl,rfl,hl⟩
def tK:cj:=(ga.aI zz Zm)
theorem UN:ac Tryz.prog 160 tK:=anM
theorem UM:aG tK:=aB
def vi:Env:=ay 160 tK SF
theorem vh:aQ Tryz.prog vi:=ag UN DG
theorem yG:ax vi:=ae UM Oa
theorem Wy:aW Tryz.prog te vi:=aL follows ar vh yG
def mj:aw:=⟨[.val true Ii,.ptr 0 0 0],[(0,.cells [.val false .int])],false,1,true⟩
abbrev Rd:Type:=(((aa×(aa×(aa×Bool))))×(Unit)×Unit)×(((Int)×Unit)×Unit)
def UH:az:=⟨[.val false .bool],[(0,.cells [.val false .int])],false⟩
def Zi:SV->Option az:=λ_=>some UH
def aef (a0:(aa×(aa×(aa×Bool)))) (c0_0:Int):OT mj.Y:=
 (.ok ⟨UH,((yp a0.fst c0_0,()),((c0_0,()),()))⟩)
theorem aGh (x:Rd) (Q:mj.Y->Prop):wpf te vi av 1000 Tryz.f169 (mj.inp.inj x).tm (mj.inp.inj x).hp (fnK mj Zi Q) (λ_ _=>False)=(aef (x.1.1) (x.2.1.1)).wpR Q:=by kernel_rfl
theorem anF (pre:Rd->Bool) (F:Rd->OT mj.Y) (hF:∀ (x:Rd) oy,pre x=true->(F x).run=some oy->(aef (x.1.1) (x.2.1.1)).run=some oy):ac Tryz.prog 169 (mj.aI pre F):=
 aD ar vh Wy (f:=169) (fn:=Tryz.f169) (c:=aj Tryz.f169) (by kernel_rfl) (by kernel_rfl) (by kernel_rfl) (S:=mj) (k:=1) (by kernel_rfl) (λR hR=>af) (n:=1000) (sel:=Zi) (λv o h=>by cases h;rfl) (pre:=pre) (F:=F) (T:=λx=>aef (x.1.1) (x.2.1.1)) (λx Q=>aGh x Q) hF
def Zj (_:Rd):Bool:=true
def auu (x:Rd):OT mj.Y:=.ok ⟨UH,((yp x.1.1.1 x.2.1.1,()),((x.2.1.1,()),()))⟩
theorem aAV:ac Tryz.prog 169 (mj.aI Zj auu):=anF _ _ λx oy hp ho=>by
 rw [<-ho]
 rfl
def Ft:cj:=(mj.aI Zj auu)
theorem aee:ac Tryz.prog 169 Ft:=aAV
theorem aed:aG Ft:=aB
def GB:Env:=ay 169 Ft vi
theorem xR:aQ Tryz.prog GB:=ag aee vh
theorem HU:ax GB:=ae aed yG
theorem N4:aW Tryz.prog te GB:=aL follows ar xR HU
def fp:aw:=⟨[.val false (.list Ii),.fn 169 [0]],[(0,.cells [.val false .int])],true,1,true⟩
abbrev wI:Type:=((List ((aa×(aa×(aa×Bool)))))×(Unit)×Unit)×(((Int)×Unit)×Unit)
def pj:Shape:=⟨19,[(0,.val false (.list (.prod .elem (.prod .elem (.prod .elem .bool))))),(1,.fn 169 [0]),(7,.val false .int),(8,.val false .int)],[(0,.cells [.val false .int])],1,true⟩
abbrev bf:Type:=((List ((aa×(aa×(aa×Bool)))))×(Unit)×(Int)×(Int)×Unit)×(((Int)×Unit)×Unit)
def nD:Shape:=⟨19,[(4,.val false .int)],[(0,.cells [.val false .int])],1,true⟩
abbrev jb:Type:=((Int)×Unit)×(((Int)×Unit)×Unit)
def nE:Shape:=⟨19,[],[(0,.cells [.val false .int])],1,true⟩
abbrev jc:Type:=(Unit)×(((Int)×Unit)×Unit)
def Ri:SE->Option Shape:=fc [(0,nE)] (some nD)
def anW (a0:List ((aa×(aa×(aa×Bool))))) (a7:Int) (a8:Int) (c0_0:Int):OT (Sum bf aE):=
 let z0:aa:= {w0:=0,w1:=0,w2:=0,w3:=0}
 (.br (decide (a8<a7))
 (gd [inB a8 (List.length a0)] (.br (yp (List.getD a0 (Int.toNat a8) (z0,z0,z0,false)).fst c0_0)
  (.ok (.inr ⟨(.ret,nD),((a8,()),((c0_0,()),()))⟩))
  (gd [inR (a8+(1:Int))] (.ok (.inl ((a0,((),(a7,(a8+(1:Int),())))),((c0_0,()),())))))))
 (.ok (.inr ⟨(.exit 0,nE),((),((c0_0,()),()))⟩)))
def pk (s:bf):OT (Sum bf aE):=anW (s.1.1) (s.1.2.2.1) (s.1.2.2.2.1) (s.2.1.1)
theorem anT (s:bf) (Q:Sum bf aE->Prop):wps te GB av 1000 (aU (aj Tryz.f171) 0) (pj.inj s) (bU pj Ri (Q:Sum pj.T aE->Prop))=(pk s).wpR Q:=by kernel_rfl
def wH (g0_r:bf->jb) (c0_r:bf->Bool) (g0_0:bf->jc) (s:bf):OT aE:=(.br (c0_r s) (.ok ⟨(.ret,nD),g0_r s⟩) (.ok ⟨(.exit 0,nE),g0_0 s⟩))
def jM:az:=⟨[.val false .int],[(0,.cells [.val false .int])],false⟩
def Ls:SV->Option az:=λ_=>some jM
def Lv (ok0:bf->Bool) (g0_r:bf->jb) (c0_r:bf->Bool) (g0_0:bf->jc) (a0:List ((aa×(aa×(aa×Bool))))) (c0_0:Int):OT fp.Y:=
 let z0:(List (aa×aa×aa×Bool)×PUnit×Int×Int×PUnit)×(Int×PUnit)×PUnit:=((a0,(),(↑(List.length a0):Int),(0:Int),()),(c0_0,()),())
 let z1:(Int×PUnit)×(Int×PUnit)×PUnit:=g0_r z0
 (gd [ok0 z0] (.br (c0_r z0)
 (.ok ⟨jM,((z1.fst.fst,()),((z1.snd.fst.fst,()),()))⟩)
 (.ok ⟨jM,(((-1:Int),()),(((g0_0 z0).snd.fst.fst,()),()))⟩)))
theorem auE (ok0:bf->Bool) (g0_r:bf->jb) (c0_r:bf->Bool) (g0_0:bf->jc) (x:wI) (Q:fp.Y->Prop):wpf te GB (aO 0 (cf pj 0 ok0 (wH g0_r c0_r g0_0)) av) 1000 Tryz.f171 (fp.inp.inj x).tm (fp.inp.inj x).hp (fnK fp Ls Q) (λ_ _=>False)=(Lv ok0 g0_r c0_r g0_0 (x.1.1) (x.2.1.1)).wpR Q:=by kernel_rfl
theorem Zo (ok0:bf->Bool) (g0_r:bf->jb) (c0_r:bf->Bool) (g0_0:bf->jc) (h0:∀ s:bf,ok0 s=true->∃ m e,al (pk) m s=some e/\(wH g0_r c0_r g0_0 s).run=some e) (pre:wI->Bool) (F:wI->OT fp.Y) (hF:∀ (x:wI) oy,pre x=true->(F x).run=some oy->(Lv ok0 g0_r c0_r g0_0 (x.1.1) (x.2.1.1)).run=some oy):ac Tryz.prog 171 (fp.aI pre F):=
 aD ar xR N4 (f:=171) (fn:=Tryz.f171) (c:=aj Tryz.f171) (by kernel_rfl) (by kernel_rfl) (by kernel_rfl) (S:=fp) (k:=1) (by kernel_rfl) (λR hR=>(aA (c:=(aj Tryz.f171)) (by kernel_rfl) (id:=0) (by kernel_rfl) (aP ar xR N4 (sh:=pj) hR (xs:=Ri) (aC (by kernel_rfl) (by kernel_rfl) hR) aM af (n:=1000) (T:=pk) (λs Q=>anT s Q) (ok:=ok0) (f:=wH g0_r c0_r g0_0) h0) af)) (n:=1000) (sel:=Ls) (λv o h=>by cases h;rfl) (pre:=pre) (F:=F) (T:=λx=>Lv ok0 g0_r c0_r g0_0 (x.1.1) (x.2.1.1)) (λx Q=>auE ok0 g0_r c0_r g0_0 x Q) hF
def Ct (l:List Tm) (i:Int):Nat->Nat->Int
 |0,_=> -1
 |n+1,k=>cond (yp (l.getD k zu).1 i) (k:Int) (Ct l i n (k+1))
def Lt (s:bf):Bool:=decide (s.1.2.2.1=(s.1.1.length:Int)/\s.1.2.2.2.1=0/\s.1.1.length<=140737488355328)
def kG (l:List Tm) (i:Int):Int:=Ct l i l.length 0
def Lu (s:bf):jb:=((kG s.1.1 s.2.1.1,()),s.2)
def Rk (s:bf):Bool:=decide (0<=kG s.1.1 s.2.1.1)
def Rj (s:bf):jc:=((),s.2)
def Zy (l:List Tm) (i k:Int):bf:=((l,(),(l.length:Int),k,()),((i,()),()))
theorem Z7 (l:List Tm) (i:Int):∀ n k,Ct l i n k= -1\/0<=Ct l i n k
 |0,_=>.inl rfl
 |n+1,k=>by
  unfold Ct
  cases yp (l.getD k zu).1 i
  ·exact Z7 l i n (k+1)
  ·right
   show (0:Int)<=(k:Int)
   omega
theorem ake (l:List Tm) (i:Int) (hl:l.length<=140737488355328):∀ n k:Nat,k+n=l.length->
 ∃ m,al pk m (Zy l i (k:Int))=some (cond (decide (0<=Ct l i n k)) ⟨(.ret,nD),((Ct l i n k,()),((i,()),()))⟩ ⟨(.exit 0,nE),((),((i,()),()))⟩)
 |0,k,h=>⟨1,aK (OT.aq (decide_eq_false (by dsimp only [Zy];omega)))⟩
 |n+1,k,h=>by
  have hin:inB (k:Int) l.length=true:=aN (by omega)
  have hgd:∀ z:OT (Sum bf aE),(gd [inB (k:Int) l.length] z).run=z.run:=λz=>ah (by rw [hin];rfl)
  unfold Ct
  rcases (Bool.eq_false_or_eq_true (yp (l.getD k zu).1 i)).symm with hb|hb
  ·obtain ⟨m,hm⟩:=ake l i hl n (k+1) (by omega)
   rw [hb]
   refine ⟨m+1,aF ?_ hm⟩
   refine (OT.ao (decide_eq_true (by dsimp only [Zy];omega))).trans ((hgd _).trans ((OT.aq hb).trans ((ah ?_).trans rfl)))
   simp only [List.all_cons,List.all_nil,Bool.and_true]
   exact aH (by dsimp only [Zy];omega)
  ·rw [hb]
   have e:decide ((0:Int)<=cond true (k:Int) (Ct l i n (k+1)))=true:=decide_eq_true (by show (0:Int)<=(k:Int);omega)
   rw [e]
   refine ⟨1,aK ?_⟩
   exact (OT.ao (decide_eq_true (by dsimp only [Zy];omega))).trans ((hgd _).trans ((OT.ao hb).trans rfl))
theorem anV:∀ s:bf,Lt s=true->∃ m e,al pk m s=some e/\(wH Lu Rk Rj s).run=some e:=by
 rintro ⟨⟨l,⟨⟩,n,k,⟨⟩⟩,⟨⟨i,⟨⟩⟩,⟨⟩⟩⟩ h
 have h':=of_decide_eq_true h
 dsimp only at h'
 obtain ⟨rfl,rfl,hl⟩:=h'
 obtain ⟨m,hm⟩:=ake l i hl l.length 0 (by omega)
 refine ⟨m,_,hm,?_⟩
 show (OT.br (decide (0<=kG l i)) _ _:OT aE).run=some (cond (decide (0<=kG l i)) _ _)
 cases decide (0<=kG l i)<;>rfl
def zA (x:wI):Bool:=decide (x.1.1.length<=140737488355328)
def Zp (x:wI):OT fp.Y:=.ok ⟨jM,((kG x.1.1 x.2.1.1,()),x.2)⟩
theorem anU:ac Tryz.prog 171 (fp.aI zA Zp):=Zo Lt Lu Rk Rj anV _ _ λx oy hp ho=>by
 rw [<-ho]
 clear ho
 obtain ⟨⟨l,⟨⟩,⟨⟩⟩,⟨⟨i,⟨⟩⟩,⟨⟩⟩⟩:=x
 have hl:l.length<=140737488355328:=of_decide_eq_true hp
 refine (ah ?_).trans ?_
 ·simp only [List.all_cons,List.all_nil,Bool.and_true]
  exact decide_eq_true ⟨rfl,rfl,hl⟩
 ·show (OT.br (decide (0<=kG l i)) (.ok ⟨jM,((kG l i,()),((i,()),()))⟩) (.ok ⟨jM,(((-1:Int),()),((i,()),()))⟩):OT fp.Y).run=some ⟨jM,((kG l i,()),((i,()),()))⟩
  rcases Z7 l i l.length 0 with h|h
  ·have h:kG l i= -1:=h
   rw [h]
   rfl
  ·exact OT.ao (decide_eq_true h)
def tL:cj:=(fp.aI zA Zp)
theorem US:ac Tryz.prog 171 tL:=anU
theorem UR:aG tL:=aB
def vk:Env:=ay 171 tL GB
theorem vj:aQ Tryz.prog vk:=ag US xR
theorem yH:ax vk:=ae UR HU
theorem Wz:aW Tryz.prog te vk:=aL follows ar vj yH
def jd:aw:=⟨[.val false (.list Ii),.fn 169 [0]],[(0,.cells [.val false .int])],true,1,true⟩
abbrev Fy:Type:=((List ((aa×(aa×(aa×Bool)))))×(Unit)×Unit)×(((Int)×Unit)×Unit)
def Lx:az:=⟨[.val false .bool],[(0,.cells [.val false .int])],false⟩
def Rm:SV->Option az:=λ_=>some Lx
def UT (a0:List ((aa×(aa×(aa×Bool))))) (c0_0:Int):OT jd.Y:=
 (gd [zA ((a0,(),()),(c0_0,()),())] (.ok ⟨Lx,((decide ((0:Int)<=kG a0 c0_0),()),((c0_0,()),()))⟩))
theorem aA3 (x:Fy) (Q:jd.Y->Prop):wpf te vk av 1000 Tryz.f168 (jd.inp.inj x).tm (jd.inp.inj x).hp (fnK jd Rm Q) (λ_ _=>False)=(UT (x.1.1) (x.2.1.1)).wpR Q:=by kernel_rfl
theorem ael (pre:Fy->Bool) (F:Fy->OT jd.Y) (hF:∀ (x:Fy) oy,pre x=true->(F x).run=some oy->(UT (x.1.1) (x.2.1.1)).run=some oy):ac Tryz.prog 168 (jd.aI pre F):=
 aD ar vj Wz (f:=168) (fn:=Tryz.f168) (c:=aj Tryz.f168) (by kernel_rfl) (by kernel_rfl) (by kernel_rfl) (S:=jd) (k:=1) (by kernel_rfl) (λR hR=>af) (n:=1000) (sel:=Rm) (λv o h=>by cases h;rfl) (pre:=pre) (F:=F) (T:=λx=>UT (x.1.1) (x.2.1.1)) (λx Q=>aA3 x Q) hF
def aJM (l:List Tm) (i:Int):Bool:=decide (0<=kG l i)
def wJ (x:Fy):Bool:=decide (x.1.1.length<=140737488355328)
def aj3 (x:Fy):OT jd.Y:=.ok ⟨Lx,((aJM x.1.1 x.2.1.1,()),x.2)⟩
theorem auH:ac Tryz.prog 168 (jd.aI wJ aj3):=ael _ _ λx oy hp ho=>by
 rw [<-ho]
 clear ho
 refine (ah ?_).trans rfl
 simp only [List.all_cons,List.all_nil,Bool.and_true]
 exact hp
def zB:cj:=(jd.aI wJ aj3)
theorem Zr:ac Tryz.prog 168 zB:=auH
theorem Zq:aG zB:=aB
def xS:Env:=ay 168 zB vk
theorem r5:aQ Tryz.prog xS:=ag Zr vj
theorem DF:ax xS:=ae Zq yH
theorem HW:aW Tryz.prog te xS:=aL follows ar r5 DF
def sc:aw:=⟨[.val false (.list Ii)],[],true,0,false⟩
abbrev anE:Type:=((List ((aa×(aa×(aa×Bool)))))×Unit)×(Unit)
def Li:Shape:=⟨14,[(0,.val false (.list (.prod .elem (.prod .elem (.prod .elem .bool))))),(3,.ptr 0 0 0)],[(0,.cells [.val false .int])],0,true⟩
abbrev ck:Type:=((List ((aa×(aa×(aa×Bool)))))×(Unit)×Unit)×(((Int)×Unit)×Unit)
def BW:Shape:=⟨14,[(2,.val false .int)],[],0,true⟩
abbrev pd:Type:=((Int)×Unit)×(Unit)
def BX:Shape:=⟨14,[],[],0,true⟩
abbrev pe:Type:=(Unit)×(Unit)
def aup:SE->Option Shape:=fc [(0,BX)] (some BW)
def aGg (a0:List ((aa×(aa×(aa×Bool))))) (c0_0:Int):OT (Sum ck aE):=
 (.br (decide ((0:Int)<=c0_0))
 (gd [wJ ((a0,(),()),(c0_0,()),())] (.br (aJM a0 c0_0)
  (gd [inR (c0_0+(1:Int))] (.ok (.inr ⟨(.ret,BW),((c0_0+(1:Int),()),())⟩)))
  (gd [inR (c0_0-(1:Int))] (.ok (.inl ((a0,((),())),((c0_0-(1:Int),()),())))))))
 (.ok (.inr ⟨(.exit 0,BX),((),())⟩)))
def Lj (s:ck):OT (Sum ck aE):=aGg (s.1.1) (s.2.1.1)
theorem aGd (s:ck) (Q:Sum ck aE->Prop):wps te xS av 1000 (aU (aj Tryz.f161) 0) (Li.inj s) (bU Li aup (Q:Sum Li.T aE->Prop))=(Lj s).wpR Q:=by kernel_rfl
def UG (g0_r:ck->pd) (c0_r:ck->Bool) (g0_0:ck->pe) (s:ck):OT aE:=(.br (c0_r s) (.ok ⟨(.ret,BW),g0_r s⟩) (.ok ⟨(.exit 0,BX),g0_0 s⟩))
def zy:az:=⟨[.val false .int],[],false⟩
def ajN:SV->Option az:=λ_=>some zy
def aut (ok0:ck->Bool) (g0_r:ck->pd) (c0_r:ck->Bool) (g0_0:ck->pe) (a0:List ((aa×(aa×(aa×Bool))))):OT sc.Y:=
 let z0:(List (aa×aa×aa×Bool)×PUnit×PUnit)×(Int×PUnit)×PUnit:=((a0,(),()),((255:Int),()),())
 (gd [ok0 z0] (.br (c0_r z0)
 (.ok ⟨zy,(((g0_r z0).fst.fst,()),())⟩)
 (.ok ⟨zy,(((0:Int),()),())⟩)))
theorem aIX (ok0:ck->Bool) (g0_r:ck->pd) (c0_r:ck->Bool) (g0_0:ck->pe) (x:anE) (Q:sc.Y->Prop):wpf te xS (aO 0 (cf Li 0 ok0 (UG g0_r c0_r g0_0)) av) 1000 Tryz.f161 (sc.inp.inj x).tm (sc.inp.inj x).hp (fnK sc ajN Q) (λ_ _=>False)=(aut ok0 g0_r c0_r g0_0 (x.1.1)).wpR Q:=by kernel_rfl
theorem auq (ok0:ck->Bool) (g0_r:ck->pd) (c0_r:ck->Bool) (g0_0:ck->pe) (h0:∀ s:ck,ok0 s=true->∃ m e,al (Lj) m s=some e/\(UG g0_r c0_r g0_0 s).run=some e) (pre:anE->Bool) (F:anE->OT sc.Y) (hF:∀ (x:anE) oy,pre x=true->(F x).run=some oy->(aut ok0 g0_r c0_r g0_0 (x.1.1)).run=some oy):ac Tryz.prog 161 (sc.aI pre F):=
 aD ar r5 HW (f:=161) (fn:=Tryz.f161) (c:=aj Tryz.f161) (by kernel_rfl) (by kernel_rfl) (by kernel_rfl) (S:=sc) (k:=0) (by kernel_rfl) (λR hR=>(aA (c:=(aj Tryz.f161)) (by kernel_rfl) (id:=0) (by kernel_rfl) (aP ar r5 HW (sh:=Li) hR (xs:=aup) (aC (by kernel_rfl) (by kernel_rfl) hR) aM af (n:=1000) (T:=Lj) (λs Q=>aGd s Q) (ok:=ok0) (f:=UG g0_r c0_r g0_0) h0) af)) (n:=1000) (sel:=ajN) (λv o h=>by cases h;rfl) (pre:=pre) (F:=F) (T:=λx=>aut ok0 g0_r c0_r g0_0 (x.1.1)) (λx Q=>aIX ok0 g0_r c0_r g0_0 x Q) hF
def axt (l:List Tm):Nat->Nat
 |0=>0
 |n+1=>cond (aJM l (n:Int)) (n+1) (axt l n)
def aco (l:List Tm):Nat:=axt l 256
def ajO (s:ck):Bool:=decide (s.2.1.1=255/\s.1.1.length<=140737488355328)
def ajP (s:ck):pd:=(((aco s.1.1:Int),()),())
def aus (s:ck):Bool:=decide ((0:Int)<(aco s.1.1:Int))
def aur (_:ck):pe:=((),())
def PS (l:List Tm) (i:Int):ck:=((l,(),()),((i,()),()))
theorem agR (l:List Tm) (hl:l.length<=140737488355328):∀ n:Nat,n<=256->
 ∃ m,al Lj m (PS l ((n:Int)-1))=some (cond (decide ((0:Int)<(axt l n:Int))) ⟨(.ret,BW),(((axt l n:Int),()),())⟩ ⟨(.exit 0,BX),((),())⟩)
 |0,_=>⟨1,aK (OT.aq (decide_eq_false (by dsimp only [PS];omega)))⟩
 |n+1,h=>by
  rw [show ((n+1:Nat):Int)-1=(n:Int) by omega]
  have hgd:∀ z:OT (Sum ck aE),(gd [wJ ((l,(),()),((n:Int),()),())] z).run=z.run:=λz=>ah (by
   simp only [List.all_cons,List.all_nil,Bool.and_true]
   exact decide_eq_true hl)
  unfold axt
  rcases (Bool.eq_false_or_eq_true (aJM l (n:Int))).symm with hb|hb
  ·obtain ⟨m,hm⟩:=agR l hl n (by omega)
   rw [hb]
   refine ⟨m+1,aF ?_ hm⟩
   refine (OT.ao (decide_eq_true (by dsimp only [PS];omega))).trans ((hgd _).trans ((OT.aq hb).trans ((ah ?_).trans rfl)))
   simp only [List.all_cons,List.all_nil,Bool.and_true]
   exact aH (by dsimp only [PS];omega)
  ·rw [hb]
   simp only [cond_true]
   rw [decide_eq_true (show (0:Int)<((n+1:Nat):Int) by omega)]
   refine ⟨1,aK ?_⟩
   refine (OT.ao (decide_eq_true (by dsimp only [PS];omega))).trans ((hgd _).trans ((OT.ao hb).trans ((ah ?_).trans rfl)))
   simp only [List.all_cons,List.all_nil,Bool.and_true]
   exact aH (by dsimp only [PS];omega)
theorem aGf:∀ s:ck,ajO s=true->∃ m e,al Lj m s=some e/\(UG ajP aus aur s).run=some e:=by
 rintro ⟨⟨l,⟨⟩,⟨⟩⟩,⟨⟨i,⟨⟩⟩,⟨⟩⟩⟩ h
 have h':=of_decide_eq_true h
 dsimp only at h'
 obtain ⟨rfl,hl⟩:=h'
 obtain ⟨m,hm⟩:=agR l hl 256 (by omega)
 refine ⟨m,_,hm,?_⟩
 show (OT.br (decide ((0:Int)<(axt l 256:Int))) _ _:OT aE).run=some (cond (decide ((0:Int)<(axt l 256:Int))) _ _)
 cases decide ((0:Int)<(axt l 256:Int))<;>rfl
def UF (x:anE):Bool:=decide (x.1.1.length<=140737488355328)
def aCY (x:anE):OT sc.Y:=.ok ⟨zy,(((aco x.1.1:Int),()),())⟩
theorem aGe:ac Tryz.prog 161 (sc.aI UF aCY):=auq ajO ajP aus aur aGf _ _ λx oy hp ho=>by
 rw [<-ho]
 clear ho
 obtain ⟨⟨l,⟨⟩⟩,⟨⟩⟩:=x
 have hl:l.length<=140737488355328:=of_decide_eq_true hp
 refine (ah ?_).trans ?_
 ·simp only [List.all_cons,List.all_nil,Bool.and_true]
  exact decide_eq_true ⟨rfl,hl⟩
 ·show (OT.br (decide ((0:Int)<(aco l:Int))) (.ok ⟨zy,(((aco l:Int),()),())⟩) (.ok ⟨zy,(((0:Int),()),())⟩):OT sc.Y).run=some ⟨zy,(((aco l:Int),()),())⟩
  by_cases h:(0:Int)<(aco l:Int)
  ·exact OT.ao (decide_eq_true h)
  ·have e:aco l=0:=by omega
   rw [e]
   rfl
def Lh:cj:=(sc.aI UF aCY)
theorem anD:ac Tryz.prog 161 Lh:=aGe
theorem anC:aG Lh:=aB
def DE:Env:=ay 161 Lh xS
theorem mX:aQ Tryz.prog DE:=ag anD r5
theorem N3:ax DE:=ae anC DF
theorem qk:aW Tryz.prog te DE:=aL follows ar mX N3
def eR:aw:=⟨[.val false .int,.val false (.list Ii),.val false .int],[],true,0,false⟩
abbrev pn:Type:=((Int)×(List ((aa×(aa×(aa×Bool)))))×(Int)×Unit)×(Unit)
def mr:Shape:=⟨74,[(0,.val false .int),(1,.val false (.list (.prod .elem (.prod .elem (.prod .elem .bool))))),(2,.val false .int),(6,.ptr 0 0 0),(7,.ptr 1 0 0),(16,.val false .int)],[(0,.cells [.val false .u64,.val false .u64,.val false .u64,.val false .u64,.val false .u64,.val false .u64,.val false .u64,.val false .u64,.val false .bool]),(1,.row (.prod .elem (.prod .elem .bool)))],0,true⟩
abbrev bD:Type:=((Int)×(List ((aa×(aa×(aa×Bool)))))×(Int)×(Unit)×(Unit)×(Int)×Unit)×(((UInt64)×(UInt64)×(UInt64)×(UInt64)×(UInt64)×(UInt64)×(UInt64)×(UInt64)×(Bool)×Unit)×(List ((aa×(aa×Bool))))×Unit)
def kZ:Shape:=⟨74,[(0,.val false .int),(1,.val false (.list (.prod .elem (.prod .elem (.prod .elem .bool))))),(2,.val false .int),(6,.ptr 0 0 0),(7,.ptr 1 0 0)],[(0,.cells [.val false .u64,.val false .u64,.val false .u64,.val false .u64,.val false .u64,.val false .u64,.val false .u64,.val false .u64,.val false .bool]),(1,.row (.prod .elem (.prod .elem .bool)))],0,true⟩
abbrev fF:Type:=((Int)×(List ((aa×(aa×(aa×Bool)))))×(Int)×(Unit)×(Unit)×Unit)×(((UInt64)×(UInt64)×(UInt64)×(UInt64)×(UInt64)×(UInt64)×(UInt64)×(UInt64)×(Bool)×Unit)×(List ((aa×(aa×Bool))))×Unit)
def LB:SE->Option Shape:=fc [(0,kZ)] none
def aex (a0:Int) (a1:List ((aa×(aa×(aa×Bool))))) (a2:Int) (a16:Int) (c0_0:UInt64) (c0_1:UInt64) (c0_2:UInt64) (c0_3:UInt64) (c0_4:UInt64) (c0_5:UInt64) (c0_6:UInt64) (c0_7:UInt64) (c0_8:Bool) (c1:List ((aa×(aa×Bool)))):OT (Sum bD aE):=
 let z0:aa:= {w0:=0,w1:=0,w2:=0,w3:=0}
 (.br (decide (a16<(15:Int)))
 (gd [inB a16 15,decide (Int.toNat a16+0<List.length c1),inR (a16+(1:Int))] (.ok (.inl ((a0,(a1,(a2,((),((),(a16+(1:Int),())))))),((c0_0,(c0_1,(c0_2,(c0_3,(c0_4,(c0_5,(c0_6,(c0_7,(c0_8,()))))))))),(List.set c1 (Int.toNat a16+0) (z0,z0,true),()))))))
 (.ok (.inr ⟨(.exit 0,kZ),((a0,(a1,(a2,((),((),()))))),((c0_0,(c0_1,(c0_2,(c0_3,(c0_4,(c0_5,(c0_6,(c0_7,(c0_8,()))))))))),(c1,())))⟩)))
def mw (s:bD):OT (Sum bD aE):=aex (s.1.1) (s.1.2.1) (s.1.2.2.1) (s.1.2.2.2.2.2.1) (s.2.1.1) (s.2.1.2.1) (s.2.1.2.2.1) (s.2.1.2.2.2.1) (s.2.1.2.2.2.2.1) (s.2.1.2.2.2.2.2.1) (s.2.1.2.2.2.2.2.2.1) (s.2.1.2.2.2.2.2.2.2.1) (s.2.1.2.2.2.2.2.2.2.2.1) (s.2.2.1)
theorem aep (s:bD) (Q:Sum bD aE->Prop):wps te DE av 1000 (aU (aj Tryz.f162) 0) (mr.inj s) (bU mr LB (Q:Sum mr.T aE->Prop))=(mw s).wpR Q:=by kernel_rfl
def rl (g0_0:bD->fF) (s:bD):OT aE:=(.ok ⟨(.exit 0,kZ),g0_0 s⟩)
def mq:Shape:=⟨74,[(0,.val false .int),(2,.val false .int),(6,.ptr 0 0 0),(7,.ptr 1 0 0),(23,.val false (.list (.prod .elem (.prod .elem (.prod .elem .bool))))),(24,.val false .int),(25,.val false .int)],[(0,.cells [.val false .u64,.val false .u64,.val false .u64,.val false .u64,.val false .u64,.val false .u64,.val false .u64,.val false .u64,.val false .bool]),(1,.row (.prod .elem (.prod .elem .bool)))],0,true⟩
abbrev bC:Type:=((Int)×(Int)×(Unit)×(Unit)×(List ((aa×(aa×(aa×Bool)))))×(Int)×(Int)×Unit)×(((UInt64)×(UInt64)×(UInt64)×(UInt64)×(UInt64)×(UInt64)×(UInt64)×(UInt64)×(Bool)×Unit)×(List ((aa×(aa×Bool))))×Unit)
def mo:Shape:=⟨74,[(0,.val false .int),(2,.val false .int),(6,.ptr 0 0 0),(7,.ptr 1 0 0),(10,.ptr 2 0 0),(11,.val false .int),(23,.val false (.list (.prod .elem (.prod .elem (.prod .elem .bool))))),(24,.val false .int),(25,.val false .int),(29,.val false .int)],[(0,.cells [.val false .u64,.val false .u64,.val false .u64,.val false .u64,.val false .u64,.val false .u64,.val false .u64,.val false .u64,.val false .bool]),(1,.row (.prod .elem (.prod .elem .bool))),(2,.cells [.val false .u64,.val false .u64,.val false .u64,.val false .u64,.val false .u64,.val false .u64,.val false .u64,.val false .u64,.val false .u64,.val false .u64,.val false .u64,.val false .u64,.val false .bool])],0,true⟩
abbrev aT:Type:=((Int)×(Int)×(Unit)×(Unit)×(Unit)×(Int)×(List ((aa×(aa×(aa×Bool)))))×(Int)×(Int)×(Int)×Unit)×(((UInt64)×(UInt64)×(UInt64)×(UInt64)×(UInt64)×(UInt64)×(UInt64)×(UInt64)×(Bool)×Unit)×(List ((aa×(aa×Bool))))×((UInt64)×(UInt64)×(UInt64)×(UInt64)×(UInt64)×(UInt64)×(UInt64)×(UInt64)×(UInt64)×(UInt64)×(UInt64)×(UInt64)×(Bool)×Unit)×Unit)
def kX:Shape:=⟨74,[(0,.val false .int),(2,.val false .int),(6,.ptr 0 0 0),(7,.ptr 1 0 0),(10,.ptr 2 0 0),(11,.val false .int),(23,.val false (.list (.prod .elem (.prod .elem (.prod .elem .bool))))),(24,.val false .int),(25,.val false .int)],[(0,.cells [.val false .u64,.val false .u64,.val false .u64,.val false .u64,.val false .u64,.val false .u64,.val false .u64,.val false .u64,.val false .bool]),(1,.row (.prod .elem (.prod .elem .bool))),(2,.cells [.val false .u64,.val false .u64,.val false .u64,.val false .u64,.val false .u64,.val false .u64,.val false .u64,.val false .u64,.val false .u64,.val false .u64,.val false .u64,.val false .u64,.val false .bool])],0,true⟩
abbrev cU:Type:=((Int)×(Int)×(Unit)×(Unit)×(Unit)×(Int)×(List ((aa×(aa×(aa×Bool)))))×(Int)×(Int)×Unit)×(((UInt64)×(UInt64)×(UInt64)×(UInt64)×(UInt64)×(UInt64)×(UInt64)×(UInt64)×(Bool)×Unit)×(List ((aa×(aa×Bool))))×((UInt64)×(UInt64)×(UInt64)×(UInt64)×(UInt64)×(UInt64)×(UInt64)×(UInt64)×(UInt64)×(UInt64)×(UInt64)×(UInt64)×(Bool)×Unit)×Unit)
def Lz:SE->Option Shape:=fc [(4,kX)] none
def aew (a0:Int) (a2:Int) (a11:Int) (a23:List ((aa×(aa×(aa×Bool))))) (a24:Int) (a25:Int) (a29:Int) (c0_0:UInt64) (c0_1:UInt64) (c0_2:UInt64) (c0_3:UInt64) (c0_4:UInt64) (c0_5:UInt64) (c0_6:UInt64) (c0_7:UInt64) (c0_8:Bool) (c1:List ((aa×(aa×Bool)))) (c2_0:UInt64) (c2_1:UInt64) (c2_2:UInt64) (c2_3:UInt64) (c2_4:UInt64) (c2_5:UInt64) (c2_6:UInt64) (c2_7:UInt64) (c2_8:UInt64) (c2_9:UInt64) (c2_10:UInt64) (c2_11:UInt64) (c2_12:Bool):OT (Sum aT aE):=
 let z0:Bool:=inR (a29+(1:Int))
 (.br (decide (a29<(4:Int)))
 (gd [inR (a2+a29)] (.br (yp {w0:=c2_0,w1:=c2_1,w2:=c2_2,w3:=c2_3} (a2+a29))
  (gd [decide ((0:Int)<=a29),z0] (.ok (.inl ((a0,(a2,((),((),((),(ior a11 (Rr (1:Int) a29),(a23,(a24,(a25,(a29+(1:Int),())))))))))),((c0_0,(c0_1,(c0_2,(c0_3,(c0_4,(c0_5,(c0_6,(c0_7,(c0_8,()))))))))),(c1,((c2_0,(c2_1,(c2_2,(c2_3,(c2_4,(c2_5,(c2_6,(c2_7,(c2_8,(c2_9,(c2_10,(c2_11,(c2_12,()))))))))))))),())))))))
  (gd [z0] (.ok (.inl ((a0,(a2,((),((),((),(a11,(a23,(a24,(a25,(a29+(1:Int),())))))))))),((c0_0,(c0_1,(c0_2,(c0_3,(c0_4,(c0_5,(c0_6,(c0_7,(c0_8,()))))))))),(c1,((c2_0,(c2_1,(c2_2,(c2_3,(c2_4,(c2_5,(c2_6,(c2_7,(c2_8,(c2_9,(c2_10,(c2_11,(c2_12,()))))))))))))),())))))))))
 (.ok (.inr ⟨(.exit 4,kX),((a0,(a2,((),((),((),(a11,(a23,(a24,(a25,()))))))))),((c0_0,(c0_1,(c0_2,(c0_3,(c0_4,(c0_5,(c0_6,(c0_7,(c0_8,()))))))))),(c1,((c2_0,(c2_1,(c2_2,(c2_3,(c2_4,(c2_5,(c2_6,(c2_7,(c2_8,(c2_9,(c2_10,(c2_11,(c2_12,()))))))))))))),()))))⟩)))
def mv (s:aT):OT (Sum aT aE):=aew (s.1.1) (s.1.2.1) (s.1.2.2.2.2.2.1) (s.1.2.2.2.2.2.2.1) (s.1.2.2.2.2.2.2.2.1) (s.1.2.2.2.2.2.2.2.2.1) (s.1.2.2.2.2.2.2.2.2.2.1) (s.2.1.1) (s.2.1.2.1) (s.2.1.2.2.1) (s.2.1.2.2.2.1) (s.2.1.2.2.2.2.1) (s.2.1.2.2.2.2.2.1) (s.2.1.2.2.2.2.2.2.1) (s.2.1.2.2.2.2.2.2.2.1) (s.2.1.2.2.2.2.2.2.2.2.1) (s.2.2.1) (s.2.2.2.1.1) (s.2.2.2.1.2.1) (s.2.2.2.1.2.2.1) (s.2.2.2.1.2.2.2.1) (s.2.2.2.1.2.2.2.2.1) (s.2.2.2.1.2.2.2.2.2.1) (s.2.2.2.1.2.2.2.2.2.2.1) (s.2.2.2.1.2.2.2.2.2.2.2.1) (s.2.2.2.1.2.2.2.2.2.2.2.2.1) (s.2.2.2.1.2.2.2.2.2.2.2.2.2.1) (s.2.2.2.1.2.2.2.2.2.2.2.2.2.2.1) (s.2.2.2.1.2.2.2.2.2.2.2.2.2.2.2.1) (s.2.2.2.1.2.2.2.2.2.2.2.2.2.2.2.2.1)
theorem aen (s:aT) (Q:Sum aT aE->Prop):wps te DE av 1000 (aU (aU (aj Tryz.f162) 2) 4) (mo.inj s) (bU mo Lz (Q:Sum mo.T aE->Prop))=(mv s).wpR Q:=by kernel_rfl
def rj (g4_4:aT->cU) (s:aT):OT aE:=(.ok ⟨(.exit 4,kX),g4_4 s⟩)
def kY:Shape:=⟨74,[(0,.val false .int),(6,.ptr 0 0 0),(7,.ptr 1 0 0)],[(0,.cells [.val false .u64,.val false .u64,.val false .u64,.val false .u64,.val false .u64,.val false .u64,.val false .u64,.val false .u64,.val false .bool]),(1,.row (.prod .elem (.prod .elem .bool)))],0,true⟩
abbrev fE:Type:=((Int)×(Unit)×(Unit)×Unit)×(((UInt64)×(UInt64)×(UInt64)×(UInt64)×(UInt64)×(UInt64)×(UInt64)×(UInt64)×(Bool)×Unit)×(List ((aa×(aa×Bool))))×Unit)
def LA:SE->Option Shape:=fc [(2,kY)] none
def LG (ok4:aT->Bool) (g4_4:aT->cU) (a0:Int) (a2:Int) (a23:List ((aa×(aa×(aa×Bool))))) (a24:Int) (a25:Int) (c0_0:UInt64) (c0_1:UInt64) (c0_2:UInt64) (c0_3:UInt64) (c0_4:UInt64) (c0_5:UInt64) (c0_6:UInt64) (c0_7:UInt64) (c0_8:Bool) (c1:List ((aa×(aa×Bool)))):OT (Sum bC aE):=
 let z0:aa:= {w0:=0,w1:=0,w2:=0,w3:=0}
 let z1:aa×aa×Bool:=(z0,z0,false)
 let z2:aa×aa×aa×Bool:=List.getD a23 (Int.toNat a25) (z0,z1)
 let z3:=z2.fst
 let z4:=z2.snd
 let z5:=z4.fst
 let z6:=z4.snd
 let z7:=z6.fst
 let z8:(Int×Int×PUnit×PUnit×PUnit×Int×List (aa×aa×aa×Bool)×Int×Int×Int×PUnit)×(UInt64×UInt64×UInt64×UInt64×UInt64×UInt64×UInt64×UInt64×Bool×PUnit)×List (aa×aa×Bool)×(UInt64×UInt64×UInt64×UInt64×UInt64×UInt64×UInt64×UInt64×UInt64×UInt64×UInt64×UInt64×Bool×PUnit)×PUnit:=((a0,a2,(),(),(),(0:Int),a23,a24,a25,(0:Int),()),(c0_0,c0_1,c0_2,c0_3,c0_4,c0_5,c0_6,c0_7,c0_8,()),c1,(z3.w0,z3.w1,z3.w2,z3.w3,z5.w0,z5.w1,z5.w2,z5.w3,z7.w0,z7.w1,z7.w2,z7.w3,z6.snd,()),())
 let z9:(Int×Int×PUnit×PUnit×PUnit×Int×List (aa×aa×aa×Bool)×Int×Int×PUnit)×(UInt64×UInt64×UInt64×UInt64×UInt64×UInt64×UInt64×UInt64×Bool×PUnit)×List (aa×aa×Bool)×(UInt64×UInt64×UInt64×UInt64×UInt64×UInt64×UInt64×UInt64×UInt64×UInt64×UInt64×UInt64×Bool×PUnit)×PUnit:=g4_4 z8
 let z10:=z9.fst
 let z11:=z10.snd
 let z12:=z11.snd.snd.snd.snd
 let z13:=z12.fst
 let z14:Bool:=inR (z13-(1:Int))
 let z15:Bool:=inB (z13-(1:Int)) 15
 let z16:=z9.snd
 let z17:=z16.snd
 let z18:=z17.fst
 let z19:Bool:=decide (Int.toNat (z13-(1:Int))+0<List.length z18)
 let z20:=z12.snd
 let z21:=z20.snd
 let z22:Bool:=inR (z21.snd.fst+(1:Int))
 let z23:=z10.fst
 let z24:=z11.fst
 let z25:=z20.fst
 let z26:=z21.fst
 let z27:=z16.fst
 let z28:=z27.fst
 let z29:=z27.snd
 let z30:=z29.fst
 let z31:=z29.snd
 let z32:=z31.fst
 let z33:=z31.snd
 let z34:=z33.fst
 let z35:=z33.snd
 let z36:=z35.fst
 let z37:=z35.snd
 let z38:=z37.fst
 let z39:=z37.snd
 let z40:=z39.fst
 let z41:=z39.snd
 let z42:=z41.fst
 let z43:=z41.snd.fst
 let z44:=z17.snd.fst.snd.snd.snd.snd
 let z45:=z44.snd
 let z46:=z45.snd
 let z47:=z46.snd
 let z48:=z47.snd
 let z49:=z48.snd
 let z50:=z49.snd
 let z51:=z50.snd
 (.br (decide (a25<a24))
 (gd [inB a25 (List.length a23),ok4 z8] (.br (decide ((0:Int)<z13))
  (gd [z14,z14,z15,z19,z15,z19,z22] (.ok (.inl ((z23,(z24,((),((),(z25,(z26,(z21.snd.fst+(1:Int),()))))))),((z28,(z30,(z32,(z34,(z36,(z38,(z40,(z42,(z43,()))))))))),(List.set z18 (Int.toNat (z13-(1:Int))+0) (lb z23 (List.getD z18 (Int.toNat (z13-(1:Int))+0) z1) ({w0:=z44.fst,w1:=z45.fst,w2:=z46.fst,w3:=z47.fst},{w0:=z48.fst,w1:=z49.fst,w2:=z50.fst,w3:=z51.fst},z51.snd.fst)),()))))))
  (gd [z22] (.ok (.inl ((z23,(z24,((),((),(z25,(z26,(z21.snd.fst+(1:Int),()))))))),((z28,(z30,(z32,(z34,(z36,(z38,(z40,(z42,(z43,()))))))))),(z18,()))))))))
 (.ok (.inr ⟨(.exit 2,kY),((a0,((),((),()))),((c0_0,(c0_1,(c0_2,(c0_3,(c0_4,(c0_5,(c0_6,(c0_7,(c0_8,()))))))))),(c1,())))⟩)))
def hZ (ok4:aT->Bool) (g4_4:aT->cU) (s:bC):OT (Sum bC aE):=LG ok4 g4_4 (s.1.1) (s.1.2.1) (s.1.2.2.2.2.1) (s.1.2.2.2.2.2.1) (s.1.2.2.2.2.2.2.1) (s.2.1.1) (s.2.1.2.1) (s.2.1.2.2.1) (s.2.1.2.2.2.1) (s.2.1.2.2.2.2.1) (s.2.1.2.2.2.2.2.1) (s.2.1.2.2.2.2.2.2.1) (s.2.1.2.2.2.2.2.2.2.1) (s.2.1.2.2.2.2.2.2.2.2.1) (s.2.2.1)
theorem aeo (ok4:aT->Bool) (g4_4:aT->cU) (s:bC) (Q:Sum bC aE->Prop):wps te DE (aO 4 (cf mo 4 ok4 (rj g4_4)) av) 1000 (aU (aj Tryz.f162) 2) (mq.inj s) (bU mq LA (Q:Sum mq.T aE->Prop))=(hZ ok4 g4_4 s).wpR Q:=by kernel_rfl
def rk (g2_2:bC->fE) (s:bC):OT aE:=(.ok ⟨(.exit 2,kY),g2_2 s⟩)
def mn:Shape:=⟨74,[(0,.val false .int),(6,.ptr 0 0 0),(7,.ptr 1 0 0),(13,.ptr 2 0 0),(14,.ptr 3 0 0),(15,.val false .int)],[(0,.cells [.val false .u64,.val false .u64,.val false .u64,.val false .u64,.val false .u64,.val false .u64,.val false .u64,.val false .u64,.val false .bool]),(1,.row (.prod .elem (.prod .elem .bool))),(2,.cells [.val false .u64,.val false .u64,.val false .u64,.val false .u64,.val false .u64,.val false .u64,.val false .u64,.val false .u64,.val false .bool]),(3,.cells [.val false .u64,.val false .u64,.val false .u64,.val false .u64,.val false .u64,.val false .u64,.val false .u64,.val false .u64,.val false .bool])],0,true⟩
abbrev bB:Type:=((Int)×(Unit)×(Unit)×(Unit)×(Unit)×(Int)×Unit)×(((UInt64)×(UInt64)×(UInt64)×(UInt64)×(UInt64)×(UInt64)×(UInt64)×(UInt64)×(Bool)×Unit)×(List ((aa×(aa×Bool))))×((UInt64)×(UInt64)×(UInt64)×(UInt64)×(UInt64)×(UInt64)×(UInt64)×(UInt64)×(Bool)×Unit)×((UInt64)×(UInt64)×(UInt64)×(UInt64)×(UInt64)×(UInt64)×(UInt64)×(UInt64)×(Bool)×Unit)×Unit)
def kW:Shape:=⟨74,[(6,.ptr 0 0 0),(14,.ptr 1 0 0)],[(0,.cells [.val false .u64,.val false .u64,.val false .u64,.val false .u64,.val false .u64,.val false .u64,.val false .u64,.val false .u64,.val false .bool]),(1,.cells [.val false .u64,.val false .u64,.val false .u64,.val false .u64,.val false .u64,.val false .u64,.val false .u64,.val false .u64,.val false .bool])],0,true⟩
abbrev fD:Type:=((Unit)×(Unit)×Unit)×(((UInt64)×(UInt64)×(UInt64)×(UInt64)×(UInt64)×(UInt64)×(UInt64)×(UInt64)×(Bool)×Unit)×((UInt64)×(UInt64)×(UInt64)×(UInt64)×(UInt64)×(UInt64)×(UInt64)×(UInt64)×(Bool)×Unit)×Unit)
def Ly:SE->Option Shape:=fc [(6,kW)] none
def aev (a0:Int) (a15:Int) (c0_0:UInt64) (c0_1:UInt64) (c0_2:UInt64) (c0_3:UInt64) (c0_4:UInt64) (c0_5:UInt64) (c0_6:UInt64) (c0_7:UInt64) (c0_8:Bool) (c1:List ((aa×(aa×Bool)))) (c2_0:UInt64) (c2_1:UInt64) (c2_2:UInt64) (c2_3:UInt64) (c2_4:UInt64) (c2_5:UInt64) (c2_6:UInt64) (c2_7:UInt64) (c2_8:Bool) (c3_0:UInt64) (c3_1:UInt64) (c3_2:UInt64) (c3_3:UInt64) (c3_4:UInt64) (c3_5:UInt64) (c3_6:UInt64) (c3_7:UInt64) (c3_8:Bool):OT (Sum bB aE):=
 let z0:aa:= {w0:=0,w1:=0,w2:=0,w3:=0}
 let z1:aa×aa×Bool:=lb a0 ({w0:=c2_0,w1:=c2_1,w2:=c2_2,w3:=c2_3},{w0:=c2_4,w1:=c2_5,w2:=c2_6,w3:=c2_7},c2_8) (List.getD c1 (Int.toNat a15+0) (z0,z0,false))
 let z2:=z1.fst
 let z3:=z1.snd
 let z4:=z3.fst
 let z5:aa×aa×Bool:=lb a0 ({w0:=c3_0,w1:=c3_1,w2:=c3_2,w3:=c3_3},{w0:=c3_4,w1:=c3_5,w2:=c3_6,w3:=c3_7},c3_8) z1
 let z6:=z5.fst
 let z7:=z5.snd
 let z8:=z7.fst
 (.br (decide ((0:Int)<=a15))
 (gd [inB a15 15,decide (Int.toNat a15+0<List.length c1),inR (a15-(1:Int))] (.ok (.inl ((a0,((),((),((),((),(a15-(1:Int),())))))),((c0_0,(c0_1,(c0_2,(c0_3,(c0_4,(c0_5,(c0_6,(c0_7,(c0_8,()))))))))),(c1,((z2.w0,(z2.w1,(z2.w2,(z2.w3,(z4.w0,(z4.w1,(z4.w2,(z4.w3,(z3.snd,()))))))))),((z6.w0,(z6.w1,(z6.w2,(z6.w3,(z8.w0,(z8.w1,(z8.w2,(z8.w3,(z7.snd,()))))))))),()))))))))
 (.ok (.inr ⟨(.exit 6,kW),(((),((),())),((c0_0,(c0_1,(c0_2,(c0_3,(c0_4,(c0_5,(c0_6,(c0_7,(c0_8,()))))))))),((c3_0,(c3_1,(c3_2,(c3_3,(c3_4,(c3_5,(c3_6,(c3_7,(c3_8,()))))))))),())))⟩)))
def mu (s:bB):OT (Sum bB aE):=aev (s.1.1) (s.1.2.2.2.2.2.1) (s.2.1.1) (s.2.1.2.1) (s.2.1.2.2.1) (s.2.1.2.2.2.1) (s.2.1.2.2.2.2.1) (s.2.1.2.2.2.2.2.1) (s.2.1.2.2.2.2.2.2.1) (s.2.1.2.2.2.2.2.2.2.1) (s.2.1.2.2.2.2.2.2.2.2.1) (s.2.2.1) (s.2.2.2.1.1) (s.2.2.2.1.2.1) (s.2.2.2.1.2.2.1) (s.2.2.2.1.2.2.2.1) (s.2.2.2.1.2.2.2.2.1) (s.2.2.2.1.2.2.2.2.2.1) (s.2.2.2.1.2.2.2.2.2.2.1) (s.2.2.2.1.2.2.2.2.2.2.2.1) (s.2.2.2.1.2.2.2.2.2.2.2.2.1) (s.2.2.2.2.1.1) (s.2.2.2.2.1.2.1) (s.2.2.2.2.1.2.2.1) (s.2.2.2.2.1.2.2.2.1) (s.2.2.2.2.1.2.2.2.2.1) (s.2.2.2.2.1.2.2.2.2.2.1) (s.2.2.2.2.1.2.2.2.2.2.2.1) (s.2.2.2.2.1.2.2.2.2.2.2.2.1) (s.2.2.2.2.1.2.2.2.2.2.2.2.2.1)
theorem aem (s:bB) (Q:Sum bB aE->Prop):wps te DE av 1000 (aU (aj Tryz.f162) 6) (mn.inj s) (bU mn Ly (Q:Sum mn.T aE->Prop))=(mu s).wpR Q:=by kernel_rfl
def ri (g6_6:bB->fD) (s:bB):OT aE:=(.ok ⟨(.exit 6,kW),g6_6 s⟩)
def rg:az:=⟨[.val true (.prod .elem (.prod .elem .bool))],[],false⟩
def Hf:SV->Option az:=λ_=>some rg
def pl (ok0:bD->Bool) (g0_0:bD->fF) (ok4:aT->Bool) (g4_4:aT->cU) (ok2:bC->Bool) (g2_2:bC->fE) (ok6:bB->Bool) (g6_6:bB->fD) (a0:Int) (a1:List ((aa×(aa×(aa×Bool))))) (a2:Int):OT eR.Y:=
 let z0:aa:= {w0:=0,w1:=0,w2:=0,w3:=0}
 let z1:aa×aa×Bool:=(z0,z0,false)
 let z2:(Int×List (aa×aa×aa×Bool)×Int×PUnit×PUnit×Int×PUnit)×(UInt64×UInt64×UInt64×UInt64×UInt64×UInt64×UInt64×UInt64×Bool×PUnit)×List (aa×aa×Bool)×PUnit:=((a0,a1,a2,(),(),(0:Int),()),((0:UInt64),(0:UInt64),(0:UInt64),(0:UInt64),(0:UInt64),(0:UInt64),(0:UInt64),(0:UInt64),false,()),[z1,z1,z1,z1,z1,z1,z1,z1,z1,z1,z1,z1,z1,z1,z1],())
 let z3:(Int×List (aa×aa×aa×Bool)×Int×PUnit×PUnit×PUnit)×(UInt64×UInt64×UInt64×UInt64×UInt64×UInt64×UInt64×UInt64×Bool×PUnit)×List (aa×aa×Bool)×PUnit:=g0_0 z2
 let z4:=z3.fst
 let z5:=z4.snd
 let z6:=z5.fst
 let z7:=z3.snd
 let z8:=z7.fst
 let z9:=z8.snd
 let z10:=z9.snd
 let z11:=z10.snd
 let z12:=z11.snd
 let z13:=z12.snd
 let z14:=z13.snd
 let z15:=z14.snd
 let z16:(Int×Int×PUnit×PUnit×List (aa×aa×aa×Bool)×Int×Int×PUnit)×(UInt64×UInt64×UInt64×UInt64×UInt64×UInt64×UInt64×UInt64×Bool×PUnit)×List (aa×aa×Bool)×PUnit:=((z4.fst,z5.snd.fst,(),(),z6,(↑(List.length z6):Int),(0:Int),()),(z8.fst,z9.fst,z10.fst,z11.fst,z12.fst,z13.fst,z14.fst,z15.fst,z15.snd.fst,()),z7.snd.fst,())
 let z17:(Int×PUnit×PUnit×PUnit)×(UInt64×UInt64×UInt64×UInt64×UInt64×UInt64×UInt64×UInt64×Bool×PUnit)×List (aa×aa×Bool)×PUnit:=g2_2 z16
 let z18:=z17.snd
 let z19:=z18.fst
 let z20:=z19.snd
 let z21:=z20.snd
 let z22:=z21.snd
 let z23:=z22.snd
 let z24:=z23.snd
 let z25:=z24.snd
 let z26:=z25.snd
 let z27:UInt64×UInt64×UInt64×UInt64×UInt64×UInt64×UInt64×UInt64×Bool×PUnit:=((0:UInt64),(0:UInt64),(0:UInt64),(0:UInt64),(0:UInt64),(0:UInt64),(0:UInt64),(0:UInt64),true,())
 let z28:(Int×PUnit×PUnit×PUnit×PUnit×Int×PUnit)×(UInt64×UInt64×UInt64×UInt64×UInt64×UInt64×UInt64×UInt64×Bool×PUnit)×List (aa×aa×Bool)×(UInt64×UInt64×UInt64×UInt64×UInt64×UInt64×UInt64×UInt64×Bool×PUnit)×(UInt64×UInt64×UInt64×UInt64×UInt64×UInt64×UInt64×UInt64×Bool×PUnit)×PUnit:=((z17.fst.fst,(),(),(),(),(14:Int),()),(z19.fst,z20.fst,z21.fst,z22.fst,z23.fst,z24.fst,z25.fst,z26.fst,z26.snd.fst,()),z18.snd.fst,z27,z27,())
 let z29:=(g6_6 z28).snd.snd.fst
 let z30:=z29.snd
 let z31:=z30.snd
 let z32:=z31.snd
 let z33:=z32.snd
 let z34:=z33.snd
 let z35:=z34.snd
 let z36:=z35.snd
 (gd [ok0 z2,ok2 z16,ok6 z28] (.ok ⟨rg,((({w0:=z29.fst,w1:=z30.fst,w2:=z31.fst,w3:=z32.fst},{w0:=z33.fst,w1:=z34.fst,w2:=z35.fst,w3:=z36.fst},z36.snd.fst),()),())⟩))
theorem anY (ok0:bD->Bool) (g0_0:bD->fF) (ok4:aT->Bool) (g4_4:aT->cU) (ok2:bC->Bool) (g2_2:bC->fE) (ok6:bB->Bool) (g6_6:bB->fD) (x:pn) (Q:eR.Y->Prop):wpf te DE (aO 6 (cf mn 6 ok6 (ri g6_6)) (aO 2 (cf mq 2 ok2 (rk g2_2)) (aO 0 (cf mr 0 ok0 (rl g0_0)) av))) 1000 Tryz.f162 (eR.inp.inj x).tm (eR.inp.inj x).hp (fnK eR Hf Q) (λ_ _=>False)=(pl ok0 g0_0 ok4 g4_4 ok2 g2_2 ok6 g6_6 (x.1.1) (x.1.2.1) (x.1.2.2.1)).wpR Q:=by kernel_rfl
theorem UU (ok0:bD->Bool) (g0_0:bD->fF) (ok4:aT->Bool) (g4_4:aT->cU) (ok2:bC->Bool) (g2_2:bC->fE) (ok6:bB->Bool) (g6_6:bB->fD) (h0:∀ s:bD,ok0 s=true->∃ m e,al (mw) m s=some e/\(rl g0_0 s).run=some e) (h4:∀ s:aT,ok4 s=true->∃ m e,al (mv) m s=some e/\(rj g4_4 s).run=some e) (h2:∀ s:bC,ok2 s=true->∃ m e,al (hZ ok4 g4_4) m s=some e/\(rk g2_2 s).run=some e) (h6:∀ s:bB,ok6 s=true->∃ m e,al (mu) m s=some e/\(ri g6_6 s).run=some e) (pre:pn->Bool) (F:pn->OT eR.Y) (hF:∀ (x:pn) oy,pre x=true->(F x).run=some oy->(pl ok0 g0_0 ok4 g4_4 ok2 g2_2 ok6 g6_6 (x.1.1) (x.1.2.1) (x.1.2.2.1)).run=some oy):ac Tryz.prog 162 (eR.aI pre F):=
 aD ar mX qk (f:=162) (fn:=Tryz.f162) (c:=aj Tryz.f162) (by kernel_rfl) (by kernel_rfl) (by kernel_rfl) (S:=eR) (k:=0) (by kernel_rfl) (λR hR=>(aA (c:=(aj Tryz.f162)) (by kernel_rfl) (id:=6) (by kernel_rfl) (aP ar mX qk (sh:=mn) hR (xs:=Ly) (aC (by kernel_rfl) (by kernel_rfl) hR) aM af (n:=1000) (T:=mu) (λs Q=>aem s Q) (ok:=ok6) (f:=ri g6_6) h6) (aA (c:=(aj Tryz.f162)) (by kernel_rfl) (id:=2) (by kernel_rfl) (aP ar mX qk (sh:=mq) hR (xs:=LA) (aC (by kernel_rfl) (by kernel_rfl) hR) aM (aA (c:=(aU (aj Tryz.f162) 2)) (by kernel_rfl) (id:=4) (by kernel_rfl) (aP ar mX qk (sh:=mo) hR (xs:=Lz) (aC (by kernel_rfl) (by kernel_rfl) hR) aM af (n:=1000) (T:=mv) (λs Q=>aen s Q) (ok:=ok4) (f:=rj g4_4) h4) af) (n:=1000) (T:=hZ ok4 g4_4) (λs Q=>aeo ok4 g4_4 s Q) (ok:=ok2) (f:=rk g2_2) h2) (aA (c:=(aj Tryz.f162)) (by kernel_rfl) (id:=0) (by kernel_rfl) (aP ar mX qk (sh:=mr) hR (xs:=LB) (aC (by kernel_rfl) (by kernel_rfl) hR) aM af (n:=1000) (T:=mw) (λs Q=>aep s Q) (ok:=ok0) (f:=rl g0_0) h0) af)))) (n:=1000) (sel:=Hf) (λv o h=>by cases h;rfl) (pre:=pre) (F:=F) (T:=λx=>pl ok0 g0_0 ok4 g4_4 ok2 g2_2 ok6 g6_6 (x.1.1) (x.1.2.1) (x.1.2.2.1)) (λx Q=>anY ok0 g0_0 ok4 g4_4 ok2 g2_2 ok6 g6_6 x Q) hF
abbrev C13:Type:=UInt64×UInt64×UInt64×UInt64×UInt64×UInt64×UInt64×UInt64×UInt64×UInt64×UInt64×UInt64×Bool×Unit
def akE (t:Tm):C13:=(t.1.w0,t.1.w1,t.1.w2,t.1.w3,t.2.1.w0,t.2.1.w1,t.2.1.w2,t.2.1.w3,t.2.2.1.w0,t.2.2.1.w1,t.2.2.1.w2,t.2.2.1.w3,t.2.2.2,())
theorem aiR {α:Type} (x:α) (l:List α):∀ n,n<=l.length->upto (λk (o:List α)=>o.set k x) l n=List.replicate n x++l.drop n
 |0,_=>rfl
 |n+1,h=>by
  show (upto (λk (o:List α)=>o.set k x) l n).set n x=_
  rw [aiR x l n (by omega),List.set_append_right _ _ (by rw [List.length_replicate];omega),List.length_replicate,Nat.sub_self,List.drop_eq_getElem_cons (by omega),List.set_cons_zero,List.replicate_succ',List.append_assoc]
  rfl
def Hi (s:bD):Bool:=decide (s.1.2.2.2.2.2.1=0/\s.2.2.1.length=15)
def LF (s:bD):fF:=((s.1.1,s.1.2.1,s.1.2.2.1,(),(),()),(s.2.1,List.replicate 15 cO,()))
theorem aeu:∀ s:bD,Hi s=true->∃ m e,al mw m s=some e/\(rl LF s).run=some e:=by
 rintro ⟨⟨c,l,at',⟨⟩,⟨⟩,i,⟨⟩⟩,⟨c0,S,⟨⟩⟩⟩ h
 have h':=of_decide_eq_true h
 dsimp only at h'
 obtain ⟨rfl,hS⟩:=h'
 have:=(aR (T:=mw) (λi o=>(((c,l,at',(),(),(i:Int),()),(c0,o,())):bD)) (λk (o:List Pt)=>o.set k cO)
  (λo=>(⟨(.exit 0,kZ),((c,l,at',(),(),()),(c0,o,()))⟩:aE)) 15 S (λ_ o=>o.length=15) hS (λk o hk ho=>⟨?_,(List.length_set ..).trans ho⟩) (λo ho=> ?_)).1
 ·obtain ⟨m,hm⟩:=this
  rw [aiR cO S 15 (by omega),List.drop_eq_nil_of_le (by omega),List.append_nil] at hm
  exact ⟨m,_,hm,rfl⟩
 ·refine (OT.ao (decide_eq_true (by dsimp only;omega))).trans ((ah ?_).trans ?_)
  ·simp only [ho,Int.toNat_natCast,Nat.add_zero,List.all_cons,List.all_nil,Bool.and_true,Bool.and_eq_true]
   exact ⟨aN (by omega),decide_eq_true (by omega),aH (by omega)⟩
  ·simp only [OT.cT,Int.toNat_natCast,Nat.add_zero]
   rfl
 ·exact OT.aq (decide_eq_false (by dsimp only;omega))
def ux (k:aa) (a:Int) (n:Nat) (d:Int):Int:=cond (yp k (a+(n:Int))) (ior d (Rr 1 (n:Int))) d
def aDf (k:aa) (a:Int):Int:=upto (ux k a) 0 4
def aH2 (b:Bool):Int:=cond b 1 0
theorem aHe (k:aa) (a:Int):aDf k a=aH2 (yp k a)+2*aH2 (yp k (a+1))+4*aH2 (yp k (a+2))+8*aH2 (yp k (a+3)):=by
 have e0:a+((0:Nat):Int)=a:=by omega
 show ux k a 3 (ux k a 2 (ux k a 1 (ux k a 0 0)))=_
 unfold ux
 rw [e0,show a+((1:Nat):Int)=a+1 by omega,show a+((2:Nat):Int)=a+2 by omega,show a+((3:Nat):Int)=a+3 by omega]
 generalize yp k a=b0
 generalize yp k (a+1)=b1
 generalize yp k (a+2)=b2
 generalize yp k (a+3)=b3
 cases b0<;>cases b1<;>cases b2<;>cases b3<;>decide+kernel
theorem aHd (k:aa) (a:Int):0<=aDf k a/\aDf k a<=15:=by
 rw [aHe]
 have h:∀ b,0<=aH2 b/\aH2 b<=1:=λb=>by cases b<;>decide
 have h0:=h (yp k a)
 have h1:=h (yp k (a+1))
 have h2:=h (yp k (a+2))
 have h3:=h (yp k (a+3))
 omega
def afF (c at' d:Int) (l:List Tm) (n i:Int) (b:Int) (c0:C9) (S:List Pt) (t:C13):aT:=((c,at',(),(),(),d,l,n,i,b,()),(c0,S,t,()))
def keyOf (t:C13):aa:=⟨t.1,t.2.1,t.2.2.1,t.2.2.2.1⟩
def nF (s:aT):Bool:=decide (s.1.2.2.2.2.2.1=0/\s.1.2.2.2.2.2.2.2.2.2.1=0/\0<=s.1.2.1/\s.1.2.1<=1000)
def rh (s:aT):cU:=((s.1.1,s.1.2.1,(),(),(),aDf (keyOf s.2.2.2.1) s.1.2.1,s.1.2.2.2.2.2.2.1,s.1.2.2.2.2.2.2.2.1,s.1.2.2.2.2.2.2.2.2.1,()),s.2)
theorem aes:∀ s:aT,nF s=true->∃ m e,al mv m s=some e/\(rj rh s).run=some e:=by
 rintro ⟨⟨c,at',⟨⟩,⟨⟩,⟨⟩,d,l,n,i,b,⟨⟩⟩,⟨c0,S,t,⟨⟩⟩⟩ h
 have h':=of_decide_eq_true h
 dsimp only at h'
 obtain ⟨rfl,rfl,ha0,ha1⟩:=h'
 have:=(aR (T:=mv) (λb d=>(((c,at',(),(),(),d,l,n,i,(b:Int),()),(c0,S,t,())):aT)) (ux (keyOf t) at')
  (λd=>(⟨(.exit 4,kX),((c,at',(),(),(),d,l,n,i,()),(c0,S,t,()))⟩:aE)) 4 0 (λ_ _=>True) trivial (λk d hk _=>⟨?_,trivial⟩) (λd _=> ?_)).1
 ·obtain ⟨m,hm⟩:=this
  exact ⟨m,_,hm,rfl⟩
 ·have hr:inR ((k:Int)+1)=true:=aH (by omega)
  have hgr:∀ z:OT (Sum aT aE),(gd [inR ((k:Int)+1)] z).run=z.run:=λz=>ah (by rw [hr];rfl)
  refine (OT.ao (decide_eq_true (by dsimp only;omega))).trans ((ah ?_).trans ?_)
  ·simp only [List.all_cons,List.all_nil,Bool.and_true]
   exact aH (by omega)
  ·unfold ux
   rcases (Bool.eq_false_or_eq_true (yp (keyOf t) (at'+(k:Int)))).symm with hb|hb
   ·rw [hb]
    exact (OT.aq hb).trans ((hgr _).trans rfl)
   ·rw [hb]
    refine (OT.ao hb).trans ((ah ?_).trans rfl)
    simp only [List.all_cons,List.all_nil,Bool.and_true,Bool.and_eq_true]
    exact ⟨decide_eq_true (by omega),hr⟩
 ·exact OT.aq (decide_eq_false (by dsimp only;omega))
def CG (c a:Int) (l:List Tm) (k:Nat) (S:List Pt):List Pt:=cond (decide (0<aDf (l.getD k zu).1 a))
 (S.set (aDf (l.getD k zu).1 a-1).toNat (lb c (S.getD (aDf (l.getD k zu).1 a-1).toNat dC) (l.getD k zu).2)) S
theorem uM (c a:Int) (l:List Tm) (k:Nat) (S:List Pt):(CG c a l k S).length=S.length:=by
 unfold CG
 cases decide (0<aDf (l.getD k zu).1 a)
 ·rfl
 ·exact List.length_set ..
def aFa (c a:Int) (l:List Tm) (S:List Pt):List Pt:=upto (CG c a l) S l.length
def Hh (s:bC):Bool:=decide (s.1.2.2.2.2.2.1=(s.1.2.2.2.2.1.length:Int)/\s.1.2.2.2.2.2.2.1=0/\s.2.2.1.length=15/\(0<=s.1.2.1/\s.1.2.1<=1000)/\s.1.2.2.2.2.1.length<=140737488355328)
def LD (s:bC):fE:=((s.1.1,(),(),()),(s.2.1,aFa s.1.1 s.1.2.1 s.1.2.2.2.2.1 s.2.2.1,()))
theorem aHw {ok4:aT->Bool} {g4:aT->cU} {c a:Int} {l:List Tm} {k:Nat} {c0:C9} {S:List Pt} {t:Tm} {d:Int} (ht:l.getD k zu=t) (hk:k<l.length) (hl:l.length<=140737488355328) (hS:S.length=15) (hd:0<=d/\d<=15)
 (h4:ok4 (afF c a 0 l (l.length:Int) (k:Int) 0 c0 S (akE t))=true)
 (e4:g4 (afF c a 0 l (l.length:Int) (k:Int) 0 c0 S (akE t))=((c,a,(),(),(),d,l,(l.length:Int),(k:Int),()),(c0,S,akE t,()))):
 (hZ ok4 g4 ((c,a,(),(),l,(l.length:Int),(k:Int),()),(c0,S,()))).run=some (.inl ((c,a,(),(),l,(l.length:Int),((k+1:Nat):Int),()),(c0,cond (decide (0<d)) (S.set (d-1).toNat (lb c (S.getD (d-1).toNat dC) t.2)) S,()))):=by
 have hr:inR ((k:Int)+1)=true:=aH (by omega)
 unfold afF at h4 e4
 unfold hZ LG
 have ht':List.getD l (Int.toNat (k:Int)) (⟨0,0,0,0⟩,⟨0,0,0,0⟩,⟨0,0,0,0⟩,false)=t:=by rw [Int.toNat_natCast];exact ht
 simp only [ht']
 refine (OT.ao (decide_eq_true (by omega))).trans ((ah ?_).trans ?_)
 ·simp only [List.all_cons,List.all_nil,Bool.and_true,Bool.and_eq_true]
  exact ⟨aN (by omega),h4⟩
 ·have e4':g4 ((c,a,(),(),(),0,l,(l.length:Int),(k:Int),0,()),(c0.1,c0.2.1,c0.2.2.1,c0.2.2.2.1,c0.2.2.2.2.1,c0.2.2.2.2.2.1,c0.2.2.2.2.2.2.1,c0.2.2.2.2.2.2.2.1,c0.2.2.2.2.2.2.2.2.1,()),S,(t.1.w0,t.1.w1,t.1.w2,t.1.w3,t.2.1.w0,t.2.1.w1,t.2.1.w2,t.2.1.w3,t.2.2.1.w0,t.2.2.1.w1,t.2.2.1.w2,t.2.2.1.w3,t.2.2.2,()),())=((c,a,(),(),(),d,l,(l.length:Int),(k:Int),()),(c0,S,akE t,())):=e4
  simp only [e4']
  by_cases h0:0<d
  ·rw [decide_eq_true h0]
   refine (OT.ao rfl).trans ((ah ?_).trans ?_)
   ·simp only [hS,Nat.add_zero,hr,List.all_cons,List.all_nil,Bool.and_true,Bool.and_eq_true]
    have i1:inR (d-1)=true:=aH (by omega)
    have i2:inB (d-1) 15=true:=aN (by omega)
    have i3:decide ((d-1).toNat<15)=true:=decide_eq_true (by omega)
    exact ⟨i1,i1,i2,i3,i2,i3⟩
   ·rfl
  ·rw [decide_eq_false h0]
   refine (OT.aq rfl).trans ((ah ?_).trans rfl)
   simp only [hr,List.all_cons,List.all_nil,Bool.and_true]
theorem aet:∀ s:bC,Hh s=true->∃ m e,al (hZ nF rh) m s=some e/\(rk LD s).run=some e:=by
 rintro ⟨⟨c,at',⟨⟩,⟨⟩,l,n,i,⟨⟩⟩,⟨c0,S,⟨⟩⟩⟩ h
 have h':=of_decide_eq_true h
 dsimp only at h'
 obtain ⟨rfl,rfl,hS,⟨ha0,ha1⟩,hl⟩:=h'
 have:=(aR (T:=hZ nF rh) (λi o=>(((c,at',(),(),l,(l.length:Int),(i:Int),()),(c0,o,())):bC)) (CG c at' l)
  (λo=>(⟨(.exit 2,kY),((c,(),(),()),(c0,o,()))⟩:aE)) l.length S (λ_ o=>o.length=15) hS (λk o hk ho=>⟨?_,(uM c at' l k o).trans ho⟩) (λo ho=> ?_)).1
 ·obtain ⟨m,hm⟩:=this
  exact ⟨m,_,hm,rfl⟩
 ·exact aHw rfl hk hl ho (aHd _ _) (decide_eq_true ⟨rfl,rfl,ha0,ha1⟩) rfl
 ·exact OT.aq (decide_eq_false (by dsimp only;omega))
def asG (c:Int) (S:List Pt) (n:Nat) (w:Pt×Pt):Pt×Pt:=(lb c w.1 (S.getD (14-n) dC),lb c w.2 (lb c w.1 (S.getD (14-n) dC)))
def aKI (c:Int) (S:List Pt):Pt×Pt:=upto (asG c S) (cO,cO) 15
def Hg (s:bB):Bool:=decide (s.1.2.2.2.2.2.1=14/\s.2.2.1.length=15/\MX s.2.2.2.1=cO/\MX s.2.2.2.2.1=cO)
def LC (s:bB):fD:=(((),(),()),(s.2.1,bQ (aKI s.1.1 s.2.2.1).2,()))
theorem aer:∀ s:bB,Hg s=true->∃ m e,al mu m s=some e/\(ri LC s).run=some e:=by
 rintro ⟨⟨c,⟨⟩,⟨⟩,⟨⟩,⟨⟩,i,⟨⟩⟩,⟨c0,S,r,a,⟨⟩⟩⟩ h
 have h':=of_decide_eq_true h
 dsimp only at h'
 obtain ⟨rfl,hS,hr,ha⟩:=h'
 have hr2:r=bQ cO:=by rw [<-hr];rfl
 have ha2:a=bQ cO:=by rw [<-ha];rfl
 subst hr2 ha2
 have:=(aR (T:=mu) (λn w=>(((c,(),(),(),(),14-(n:Int),()),(c0,S,bQ w.1,bQ w.2,())):bB)) (asG c S)
  (λw=>(⟨(.exit 6,kW),(((),(),()),(c0,bQ w.2,()))⟩:aE)) 15 (cO,cO) (λ_ _=>True) trivial (λn w hn _=>⟨?_,trivial⟩) (λw _=> ?_)).1
 ·obtain ⟨m,hm⟩:=this
  exact ⟨m,_,hm,rfl⟩
 ·have e1:((14:Int)-(n:Int)).toNat=14-n:=by omega
  have e2:(14:Int)-(n:Int)-1=14-((n+1:Nat):Int):=by omega
  refine (OT.ao (decide_eq_true (by dsimp only;omega))).trans ((ah ?_).trans ?_)
  ·simp only [e1,hS,Nat.add_zero,List.all_cons,List.all_nil,Bool.and_true,Bool.and_eq_true]
   exact ⟨aN (by omega),decide_eq_true (by omega),aH (by omega)⟩
  ·rw [<-e2]
   simp only [OT.cT,e1,Nat.add_zero]
   rfl
 ·exact OT.aq (decide_eq_false (by dsimp only;omega))
def awD (c:Int) (l:List Tm) (a:Int):Pt:=(aKI c (aFa c a l (List.replicate 15 cO))).2
theorem UW {ok4:aT->Bool} {g4:aT->cU} {ok0:bD->Bool} {g0:bD->fF} {ok2:bC->Bool} {g2:bC->fE} {ok6:bB->Bool} {g6:bB->fD} {c a:Int} {l:List Tm} {S0 S:List Pt} {R:Pt} {z:C9}
 (h0:ok0 ((c,l,a,(),(),0,()),(bQ dC,List.replicate 15 dC,()))=true) (e0:g0 ((c,l,a,(),(),0,()),(bQ dC,List.replicate 15 dC,()))=((c,l,a,(),(),()),(bQ dC,S0,())))
 (h2:ok2 ((c,a,(),(),l,(l.length:Int),0,()),(bQ dC,S0,()))=true) (e2:g2 ((c,a,(),(),l,(l.length:Int),0,()),(bQ dC,S0,()))=((c,(),(),()),(bQ dC,S,())))
 (h6:ok6 ((c,(),(),(),(),14,()),(bQ dC,S,bQ cO,bQ cO,()))=true) (e6:g6 ((c,(),(),(),(),14,()),(bQ dC,S,bQ cO,bQ cO,()))=(((),(),()),(z,bQ R,()))):
 (pl ok0 g0 ok4 g4 ok2 g2 ok6 g6 c l a).run=some ⟨rg,((R,()),())⟩:=by
 have e0':g0 ((c,l,a,(),(),0,()),((0,0,0,0,0,0,0,0,false,()),[((⟨0,0,0,0⟩,⟨0,0,0,0⟩,false):Pt),((⟨0,0,0,0⟩,⟨0,0,0,0⟩,false):Pt),((⟨0,0,0,0⟩,⟨0,0,0,0⟩,false):Pt),((⟨0,0,0,0⟩,⟨0,0,0,0⟩,false):Pt),((⟨0,0,0,0⟩,⟨0,0,0,0⟩,false):Pt),((⟨0,0,0,0⟩,⟨0,0,0,0⟩,false):Pt),((⟨0,0,0,0⟩,⟨0,0,0,0⟩,false):Pt),((⟨0,0,0,0⟩,⟨0,0,0,0⟩,false):Pt),((⟨0,0,0,0⟩,⟨0,0,0,0⟩,false):Pt),((⟨0,0,0,0⟩,⟨0,0,0,0⟩,false):Pt),((⟨0,0,0,0⟩,⟨0,0,0,0⟩,false):Pt),((⟨0,0,0,0⟩,⟨0,0,0,0⟩,false):Pt),((⟨0,0,0,0⟩,⟨0,0,0,0⟩,false):Pt),((⟨0,0,0,0⟩,⟨0,0,0,0⟩,false):Pt),((⟨0,0,0,0⟩,⟨0,0,0,0⟩,false):Pt)],()))=((c,l,a,(),(),()),(bQ dC,S0,())):=e0
 have e2':g2 ((c,a,(),(),l,(l.length:Int),0,()),((bQ dC).1,(bQ dC).2.1,(bQ dC).2.2.1,(bQ dC).2.2.2.1,(bQ dC).2.2.2.2.1,(bQ dC).2.2.2.2.2.1,(bQ dC).2.2.2.2.2.2.1,(bQ dC).2.2.2.2.2.2.2.1,(bQ dC).2.2.2.2.2.2.2.2.1,()),S0,())=((c,(),(),()),(bQ dC,S,())):=e2
 have e6':g6 ((c,(),(),(),(),14,()),((bQ dC).1,(bQ dC).2.1,(bQ dC).2.2.1,(bQ dC).2.2.2.1,(bQ dC).2.2.2.2.1,(bQ dC).2.2.2.2.2.1,(bQ dC).2.2.2.2.2.2.1,(bQ dC).2.2.2.2.2.2.2.1,(bQ dC).2.2.2.2.2.2.2.2.1,()),S,(0,0,0,0,0,0,0,0,true,()),(0,0,0,0,0,0,0,0,true,()),())=(((),(),()),(z,bQ R,())):=e6
 unfold pl
 simp only [e0',e2',e6']
 refine (ah ?_).trans rfl
 simp only [List.all_cons,List.all_nil,Bool.and_true,Bool.and_eq_true]
 exact ⟨h0,h2,h6⟩
theorem JB (c a:Int) (l:List Tm) (S:List Pt):∀ n,(upto (CG c a l) S n).length=S.length
 |0=>rfl
 |n+1=>(uM c a l n _).trans (JB c a l S n)
def tM (x:pn):Bool:=decide ((0<=x.1.2.2.1/\x.1.2.2.1<=1000)/\x.1.2.1.length<=140737488355328)
def Rn (x:pn):OT eR.Y:=.ok ⟨rg,((awD x.1.1 x.1.2.1 x.1.2.2.1,()),())⟩
theorem aeq:ac Tryz.prog 162 (eR.aI tM Rn):=UU Hi LF nF rh Hh LD Hg LC aeu aes aet aer _ _ λx oy hp ho=>by
 rw [<-ho]
 clear ho
 obtain ⟨⟨c,l,a,⟨⟩⟩,⟨⟩⟩:=x
 obtain ⟨ha,hl⟩:=of_decide_eq_true hp
 exact UW (S0:=List.replicate 15 cO) (S:=aFa c a l (List.replicate 15 cO)) (R:=awD c l a) (z:=bQ dC) (decide_eq_true ⟨rfl,rfl⟩) rfl
  (decide_eq_true ⟨rfl,rfl,rfl,ha,hl⟩) rfl (decide_eq_true ⟨rfl,JB c a l _ l.length,rfl,rfl⟩) rfl
def rf:cj:=(eR.aI tM Rn)
theorem Pl:ac Tryz.prog 162 rf:=aeq
theorem Pk:aG rf:=aB
def jX:Env:=ay 162 rf DE
theorem jv:aQ Tryz.prog jX:=ag Pl mX
theorem vl:ax jX:=ae Pk N3
theorem ob:aW Tryz.prog te jX:=aL follows ar jv vl
def mm:aw:=⟨[.val false .int,.val false (.list Ii)],[],true,0,false⟩
abbrev Re:Type:=((Int)×(List ((aa×(aa×(aa×Bool)))))×Unit)×(Unit)
def B1:Shape:=⟨39,[(0,.val false .int),(1,.val false (.list (.prod .elem (.prod .elem (.prod .elem .bool))))),(4,.ptr 0 0 0),(5,.ptr 1 0 0),(6,.val false .int)],[(0,.cells [.val false .u64,.val false .u64,.val false .u64,.val false .u64,.val false .u64,.val false .u64,.val false .u64,.val false .u64,.val false .bool]),(1,.cells [.val false .u64,.val false .u64,.val false .u64,.val false .u64,.val false .u64,.val false .u64,.val false .u64,.val false .u64,.val false .bool])],0,true⟩
abbrev cM:Type:=((Int)×(List ((aa×(aa×(aa×Bool)))))×(Unit)×(Unit)×(Int)×Unit)×(((UInt64)×(UInt64)×(UInt64)×(UInt64)×(UInt64)×(UInt64)×(UInt64)×(UInt64)×(Bool)×Unit)×((UInt64)×(UInt64)×(UInt64)×(UInt64)×(UInt64)×(UInt64)×(UInt64)×(UInt64)×(Bool)×Unit)×Unit)
def B0:Shape:=⟨39,[(0,.val false .int),(1,.val false (.list (.prod .elem (.prod .elem (.prod .elem .bool))))),(4,.ptr 0 0 0),(5,.ptr 1 0 0),(6,.val false .int),(24,.val false .int)],[(0,.cells [.val false .u64,.val false .u64,.val false .u64,.val false .u64,.val false .u64,.val false .u64,.val false .u64,.val false .u64,.val false .bool]),(1,.cells [.val false .u64,.val false .u64,.val false .u64,.val false .u64,.val false .u64,.val false .u64,.val false .u64,.val false .u64,.val false .bool])],0,true⟩
abbrev bG:Type:=((Int)×(List ((aa×(aa×(aa×Bool)))))×(Unit)×(Unit)×(Int)×(Int)×Unit)×(((UInt64)×(UInt64)×(UInt64)×(UInt64)×(UInt64)×(UInt64)×(UInt64)×(UInt64)×(Bool)×Unit)×((UInt64)×(UInt64)×(UInt64)×(UInt64)×(UInt64)×(UInt64)×(UInt64)×(UInt64)×(Bool)×Unit)×Unit)
def wD:Shape:=⟨39,[(0,.val false .int),(1,.val false (.list (.prod .elem (.prod .elem (.prod .elem .bool))))),(4,.ptr 0 0 0),(5,.ptr 1 0 0),(6,.val false .int)],[(0,.cells [.val false .u64,.val false .u64,.val false .u64,.val false .u64,.val false .u64,.val false .u64,.val false .u64,.val false .u64,.val false .bool]),(1,.cells [.val false .u64,.val false .u64,.val false .u64,.val false .u64,.val false .u64,.val false .u64,.val false .u64,.val false .u64,.val false .bool])],0,true⟩
abbrev eA:Type:=((Int)×(List ((aa×(aa×(aa×Bool)))))×(Unit)×(Unit)×(Int)×Unit)×(((UInt64)×(UInt64)×(UInt64)×(UInt64)×(UInt64)×(UInt64)×(UInt64)×(UInt64)×(Bool)×Unit)×((UInt64)×(UInt64)×(UInt64)×(UInt64)×(UInt64)×(UInt64)×(UInt64)×(UInt64)×(Bool)×Unit)×Unit)
def ajT:SE->Option Shape:=fc [(2,wD)] none
def aA1 (a0:Int) (a1:List ((aa×(aa×(aa×Bool))))) (a6:Int) (a24:Int) (c0_0:UInt64) (c0_1:UInt64) (c0_2:UInt64) (c0_3:UInt64) (c0_4:UInt64) (c0_5:UInt64) (c0_6:UInt64) (c0_7:UInt64) (c0_8:Bool) (c1_0:UInt64) (c1_1:UInt64) (c1_2:UInt64) (c1_3:UInt64) (c1_4:UInt64) (c1_5:UInt64) (c1_6:UInt64) (c1_7:UInt64) (c1_8:Bool):OT (Sum bG aE):=
 let z0:aa×aa×Bool:=({w0:=c1_0,w1:=c1_1,w2:=c1_2,w3:=c1_3},{w0:=c1_4,w1:=c1_5,w2:=c1_6,w3:=c1_7},c1_8)
 let z1:aa×aa×Bool:=lb a0 z0 z0
 let z2:=z1.fst
 let z3:=z1.snd
 let z4:=z3.fst
 (.br (decide (a24<(4:Int)))
 (gd [inR (a24+(1:Int))] (.ok (.inl ((a0,(a1,((),((),(a6,(a24+(1:Int),())))))),((c0_0,(c0_1,(c0_2,(c0_3,(c0_4,(c0_5,(c0_6,(c0_7,(c0_8,()))))))))),((z2.w0,(z2.w1,(z2.w2,(z2.w3,(z4.w0,(z4.w1,(z4.w2,(z4.w3,(z3.snd,()))))))))),()))))))
 (.ok (.inr ⟨(.exit 2,wD),((a0,(a1,((),((),(a6,()))))),((c0_0,(c0_1,(c0_2,(c0_3,(c0_4,(c0_5,(c0_6,(c0_7,(c0_8,()))))))))),((c1_0,(c1_1,(c1_2,(c1_3,(c1_4,(c1_5,(c1_6,(c1_7,(c1_8,()))))))))),())))⟩)))
def B4 (s:bG):OT (Sum bG aE):=aA1 (s.1.1) (s.1.2.1) (s.1.2.2.2.2.1) (s.1.2.2.2.2.2.1) (s.2.1.1) (s.2.1.2.1) (s.2.1.2.2.1) (s.2.1.2.2.2.1) (s.2.1.2.2.2.2.1) (s.2.1.2.2.2.2.2.1) (s.2.1.2.2.2.2.2.2.1) (s.2.1.2.2.2.2.2.2.2.1) (s.2.1.2.2.2.2.2.2.2.2.1) (s.2.2.1.1) (s.2.2.1.2.1) (s.2.2.1.2.2.1) (s.2.2.1.2.2.2.1) (s.2.2.1.2.2.2.2.1) (s.2.2.1.2.2.2.2.2.1) (s.2.2.1.2.2.2.2.2.2.1) (s.2.2.1.2.2.2.2.2.2.2.1) (s.2.2.1.2.2.2.2.2.2.2.2.1)
theorem aAW (s:bG) (Q:Sum bG aE->Prop):wps te jX av 1000 (aU (aU (aj Tryz.f148) 0) 2) (B0.inj s) (bU B0 ajT (Q:Sum B0.T aE->Prop))=(B4 s).wpR Q:=by kernel_rfl
def IU (g2_2:bG->eA) (s:bG):OT aE:=(.ok ⟨(.exit 2,wD),g2_2 s⟩)
def wE:Shape:=⟨39,[(4,.ptr 0 0 0),(5,.ptr 1 0 0)],[(0,.cells [.val false .u64,.val false .u64,.val false .u64,.val false .u64,.val false .u64,.val false .u64,.val false .u64,.val false .u64,.val false .bool]),(1,.cells [.val false .u64,.val false .u64,.val false .u64,.val false .u64,.val false .u64,.val false .u64,.val false .u64,.val false .u64,.val false .bool])],0,true⟩
abbrev jL:Type:=((Unit)×(Unit)×Unit)×(((UInt64)×(UInt64)×(UInt64)×(UInt64)×(UInt64)×(UInt64)×(UInt64)×(UInt64)×(Bool)×Unit)×((UInt64)×(UInt64)×(UInt64)×(UInt64)×(UInt64)×(UInt64)×(UInt64)×(UInt64)×(Bool)×Unit)×Unit)
def ajU:SE->Option Shape:=fc [(0,wE)] none
def ajV (ok2:bG->Bool) (g2_2:bG->eA) (a0:Int) (a1:List ((aa×(aa×(aa×Bool))))) (a6:Int) (c0_0:UInt64) (c0_1:UInt64) (c0_2:UInt64) (c0_3:UInt64) (c0_4:UInt64) (c0_5:UInt64) (c0_6:UInt64) (c0_7:UInt64) (c0_8:Bool) (c1_0:UInt64) (c1_1:UInt64) (c1_2:UInt64) (c1_3:UInt64) (c1_4:UInt64) (c1_5:UInt64) (c1_6:UInt64) (c1_7:UInt64) (c1_8:Bool):OT (Sum cM aE):=
 let z0:(Int×List (aa×aa×aa×Bool)×PUnit×PUnit×Int×Int×PUnit)×(UInt64×UInt64×UInt64×UInt64×UInt64×UInt64×UInt64×UInt64×Bool×PUnit)×(UInt64×UInt64×UInt64×UInt64×UInt64×UInt64×UInt64×UInt64×Bool×PUnit)×PUnit:=((a0,a1,(),(),a6,(0:Int),()),(c0_0,c0_1,c0_2,c0_3,c0_4,c0_5,c0_6,c0_7,c0_8,()),(c1_0,c1_1,c1_2,c1_3,c1_4,c1_5,c1_6,c1_7,c1_8,()),())
 let z1:(Int×List (aa×aa×aa×Bool)×PUnit×PUnit×Int×PUnit)×(UInt64×UInt64×UInt64×UInt64×UInt64×UInt64×UInt64×UInt64×Bool×PUnit)×(UInt64×UInt64×UInt64×UInt64×UInt64×UInt64×UInt64×UInt64×Bool×PUnit)×PUnit:=g2_2 z0
 let z2:=z1.fst
 let z3:=z2.fst
 let z4:=z2.snd
 let z5:=z4.fst
 let z6:=z4.snd.snd.snd.fst
 let z7:=z1.snd
 let z8:=z7.fst
 let z9:=z8.snd
 let z10:=z9.snd
 let z11:=z10.snd
 let z12:=z11.snd
 let z13:=z12.snd
 let z14:=z13.snd
 let z15:=z14.snd
 let z16:=z7.snd.fst
 let z17:=z16.snd
 let z18:=z17.snd
 let z19:=z18.snd
 let z20:=z19.snd
 let z21:=z20.snd
 let z22:=z21.snd
 let z23:=z22.snd
 let z24:aa×aa×Bool:=lb z3 ({w0:=z16.fst,w1:=z17.fst,w2:=z18.fst,w3:=z19.fst},{w0:=z20.fst,w1:=z21.fst,w2:=z22.fst,w3:=z23.fst},z23.snd.fst) (awD z3 z5 z6)
 let z25:=z24.fst
 let z26:=z24.snd
 let z27:=z26.fst
 (.br (decide ((0:Int)<=a6))
 (gd [ok2 z0,tM ((z3,z5,z6,()),()),inR (z6-(4:Int))] (.ok (.inl ((z3,(z5,((),((),(z6-(4:Int),()))))),((z8.fst,(z9.fst,(z10.fst,(z11.fst,(z12.fst,(z13.fst,(z14.fst,(z15.fst,(z15.snd.fst,()))))))))),((z25.w0,(z25.w1,(z25.w2,(z25.w3,(z27.w0,(z27.w1,(z27.w2,(z27.w3,(z26.snd,()))))))))),()))))))
 (.ok (.inr ⟨(.exit 0,wE),(((),((),())),((c0_0,(c0_1,(c0_2,(c0_3,(c0_4,(c0_5,(c0_6,(c0_7,(c0_8,()))))))))),((c1_0,(c1_1,(c1_2,(c1_3,(c1_4,(c1_5,(c1_6,(c1_7,(c1_8,()))))))))),())))⟩)))
def re (ok2:bG->Bool) (g2_2:bG->eA) (s:cM):OT (Sum cM aE):=ajV ok2 g2_2 (s.1.1) (s.1.2.1) (s.1.2.2.2.2.1) (s.2.1.1) (s.2.1.2.1) (s.2.1.2.2.1) (s.2.1.2.2.2.1) (s.2.1.2.2.2.2.1) (s.2.1.2.2.2.2.2.1) (s.2.1.2.2.2.2.2.2.1) (s.2.1.2.2.2.2.2.2.2.1) (s.2.1.2.2.2.2.2.2.2.2.1) (s.2.2.1.1) (s.2.2.1.2.1) (s.2.2.1.2.2.1) (s.2.2.1.2.2.2.1) (s.2.2.1.2.2.2.2.1) (s.2.2.1.2.2.2.2.2.1) (s.2.2.1.2.2.2.2.2.2.1) (s.2.2.1.2.2.2.2.2.2.2.1) (s.2.2.1.2.2.2.2.2.2.2.2.1)
theorem aAX (ok2:bG->Bool) (g2_2:bG->eA) (s:cM) (Q:Sum cM aE->Prop):wps te jX (aO 2 (cf B0 2 ok2 (IU g2_2)) av) 1000 (aU (aj Tryz.f148) 0) (B1.inj s) (bU B1 ajU (Q:Sum B1.T aE->Prop))=(re ok2 g2_2 s).wpR Q:=by kernel_rfl
def IV (g0_0:cM->jL) (s:cM):OT aE:=(.ok ⟨(.exit 0,wE),g0_0 s⟩)
def wC:az:=⟨[.val true (.prod .elem (.prod .elem .bool))],[],false⟩
def Zk:SV->Option az:=λ_=>some wC
def Fw (ok2:bG->Bool) (g2_2:bG->eA) (ok0:cM->Bool) (g0_0:cM->jL) (a0:Int) (a1:List ((aa×(aa×(aa×Bool))))):OT mm.Y:=
 let z0:Int:=Int.tdiv ((↑(aco a1):Int)+(4:Int)-(1:Int)) (4:Int)
 let z1:(Int×List (aa×aa×aa×Bool)×PUnit×PUnit×Int×PUnit)×(UInt64×UInt64×UInt64×UInt64×UInt64×UInt64×UInt64×UInt64×Bool×PUnit)×(UInt64×UInt64×UInt64×UInt64×UInt64×UInt64×UInt64×UInt64×Bool×PUnit)×PUnit:=((a0,a1,(),(),z0*(4:Int),()),((0:UInt64),(0:UInt64),(0:UInt64),(0:UInt64),(0:UInt64),(0:UInt64),(0:UInt64),(0:UInt64),false,()),((0:UInt64),(0:UInt64),(0:UInt64),(0:UInt64),(0:UInt64),(0:UInt64),(0:UInt64),(0:UInt64),true,()),())
 let z2:=(g0_0 z1).snd.snd.fst
 let z3:=z2.snd
 let z4:=z3.snd
 let z5:=z4.snd
 let z6:=z5.snd
 let z7:=z6.snd
 let z8:=z7.snd
 let z9:=z8.snd
 (.br (decide ((↑(List.length a1):Int)<(24:Int)))
 (gd [zz ((a0,a1,()),())] (.ok ⟨wC,((AS a0 a1,()),())⟩))
 (gd [UF ((a1,()),()),inR ((↑(aco a1):Int)+(4:Int)),inR ((↑(aco a1):Int)+(4:Int)-(1:Int)),true&&inR z0,inR (z0*(4:Int)),ok0 z1] (.ok ⟨wC,((({w0:=z2.fst,w1:=z3.fst,w2:=z4.fst,w3:=z5.fst},{w0:=z6.fst,w1:=z7.fst,w2:=z8.fst,w3:=z9.fst},z9.snd.fst),()),())⟩)))
theorem aGm (ok2:bG->Bool) (g2_2:bG->eA) (ok0:cM->Bool) (g0_0:cM->jL) (x:Re) (Q:mm.Y->Prop):wpf te jX (aO 0 (cf B1 0 ok0 (IV g0_0)) av) 1000 Tryz.f148 (mm.inp.inj x).tm (mm.inp.inj x).hp (fnK mm Zk Q) (λ_ _=>False)=(Fw ok2 g2_2 ok0 g0_0 (x.1.1) (x.1.2.1)).wpR Q:=by kernel_rfl
theorem anJ (ok2:bG->Bool) (g2_2:bG->eA) (ok0:cM->Bool) (g0_0:cM->jL) (h2:∀ s:bG,ok2 s=true->∃ m e,al (B4) m s=some e/\(IU g2_2 s).run=some e) (h0:∀ s:cM,ok0 s=true->∃ m e,al (re ok2 g2_2) m s=some e/\(IV g0_0 s).run=some e) (pre:Re->Bool) (F:Re->OT mm.Y) (hF:∀ (x:Re) oy,pre x=true->(F x).run=some oy->(Fw ok2 g2_2 ok0 g0_0 (x.1.1) (x.1.2.1)).run=some oy):ac Tryz.prog 148 (mm.aI pre F):=
 aD ar jv ob (f:=148) (fn:=Tryz.f148) (c:=aj Tryz.f148) (by kernel_rfl) (by kernel_rfl) (by kernel_rfl) (S:=mm) (k:=0) (by kernel_rfl) (λR hR=>(aA (c:=(aj Tryz.f148)) (by kernel_rfl) (id:=0) (by kernel_rfl) (aP ar jv ob (sh:=B1) hR (xs:=ajU) (aC (by kernel_rfl) (by kernel_rfl) hR) aM (aA (c:=(aU (aj Tryz.f148) 0)) (by kernel_rfl) (id:=2) (by kernel_rfl) (aP ar jv ob (sh:=B0) hR (xs:=ajT) (aC (by kernel_rfl) (by kernel_rfl) hR) aM af (n:=1000) (T:=B4) (λs Q=>aAW s Q) (ok:=ok2) (f:=IU g2_2) h2) af) (n:=1000) (T:=re ok2 g2_2) (λs Q=>aAX ok2 g2_2 s Q) (ok:=ok0) (f:=IV g0_0) h0) af)) (n:=1000) (sel:=Zk) (λv o h=>by cases h;rfl) (pre:=pre) (F:=F) (T:=λx=>Fw ok2 g2_2 ok0 g0_0 (x.1.1) (x.1.2.1)) (λx Q=>aGm ok2 g2_2 ok0 g0_0 x Q) hF
theorem acp (l:List Tm):∀ n,axt l n<=n
 |0=>Nat.le_refl _
 |n+1=>by
  unfold axt
  cases aJM l (n:Int)
  ·exact Nat.le_succ_of_le (acp l n)
  ·exact Nat.le_refl _
def aKv (c:Int) (O:Pt):Pt:=upto (λ_ o=>lb c o o) O 4
def tJ (s:bG):Bool:=decide (s.1.2.2.2.2.2.1=0)
def B3 (s:bG):eA:=((s.1.1,s.1.2.1,(),(),s.1.2.2.2.2.1,()),(s.2.1,bQ (aKv s.1.1 (MX s.2.2.1)),()))
theorem aAZ:∀ s:bG,tJ s=true->∃ m e,al B4 m s=some e/\(IU B3 s).run=some e:=by
 rintro ⟨⟨c,l,⟨⟩,⟨⟩,a,i,⟨⟩⟩,⟨c0,c1,⟨⟩⟩⟩ h
 have h':=of_decide_eq_true h
 dsimp only at h'
 subst h'
 have:=(aR (T:=B4) (λi O=>(((c,l,(),(),a,(i:Int),()),(c0,bQ O,())):bG)) (λ_ o=>lb c o o)
  (λO=>(⟨(.exit 2,wD),((c,l,(),(),a,()),(c0,bQ O,()))⟩:aE)) 4 (MX c1) (λ_ _=>True) trivial (λk O hk _=>⟨?_,trivial⟩) (λO _=> ?_)).1
 ·obtain ⟨m,hm⟩:=this
  exact ⟨m,_,hm,rfl⟩
 ·refine (OT.ao (decide_eq_true (by dsimp only;omega))).trans ((ah ?_).trans rfl)
  simp only [List.all_cons,List.all_nil,Bool.and_true]
  exact aH (by omega)
 ·exact OT.aq (decide_eq_false (by dsimp only;omega))
def aqq (c:Int) (l:List Tm) (W n:Nat) (O:Pt):Pt:=lb c (aKv c O) (awD c l (4*(W:Int)-4*(n:Int)))
def O2 (l:List Tm):Nat:=(aco l+3)/4
def aJU (c:Int) (l:List Tm):Pt:=upto (aqq c l (O2 l)) cO (O2 l+1)
def aqp (c:Int) (l:List Tm) (a:Int) (c0:C9) (O:Pt):bG:=((c,l,(),(),a,0,()),(c0,bQ O,()))
theorem aH8 {ok2:bG->Bool} {g2:bG->eA} {c a:Int} {l:List Tm} {c0:C9} {O D:Pt} (h0:0<=a) (h1:a<=1000) (hl:l.length<=140737488355328) (hok:ok2 (aqp c l a c0 O)=true)
 (e2:g2 (aqp c l a c0 O)=((c,l,(),(),a,()),(c0,bQ D,()))):
 (re ok2 g2 ((c,l,(),(),a,()),(c0,bQ O,()))).run=some (.inl ((c,l,(),(),a-4,()),(c0,bQ (lb c D (awD c l a)),()))):=by
 unfold aqp at hok e2
 have e2':g2 ((c,l,(),(),a,0,()),(c0.1,c0.2.1,c0.2.2.1,c0.2.2.2.1,c0.2.2.2.2.1,c0.2.2.2.2.2.1,c0.2.2.2.2.2.2.1,c0.2.2.2.2.2.2.2.1,c0.2.2.2.2.2.2.2.2.1,()),((bQ O).1,(bQ O).2.1,(bQ O).2.2.1,(bQ O).2.2.2.1,(bQ O).2.2.2.2.1,(bQ O).2.2.2.2.2.1,(bQ O).2.2.2.2.2.2.1,(bQ O).2.2.2.2.2.2.2.1,(bQ O).2.2.2.2.2.2.2.2.1,()),())=((c,l,(),(),a,()),(c0,bQ D,())):=e2
 unfold re ajV
 simp only [e2']
 refine (OT.ao (decide_eq_true h0)).trans ((ah ?_).trans rfl)
 simp only [List.all_cons,List.all_nil,Bool.and_true,Bool.and_eq_true]
 exact ⟨hok,decide_eq_true ⟨⟨h0,h1⟩,hl⟩,aH (by omega)⟩
def Lm (s:cM):Bool:=decide (s.1.2.2.2.2.1=4*(O2 s.1.2.1:Int)/\MX s.2.2.1=cO/\s.1.2.1.length<=140737488355328)
def UL (s:cM):jL:=(((),(),()),(s.2.1,bQ (aJU s.1.1 s.1.2.1),()))
theorem aA0:∀ s:cM,Lm s=true->∃ m e,al (re tJ B3) m s=some e/\(IV UL s).run=some e:=by
 rintro ⟨⟨c,l,⟨⟩,⟨⟩,a,⟨⟩⟩,⟨c0,c1,⟨⟩⟩⟩ h
 have h':=of_decide_eq_true h
 dsimp only at h'
 obtain ⟨rfl,hO,hl⟩:=h'
 have hO2:c1=bQ cO:=by rw [<-hO];rfl
 subst hO2
 have hW:O2 l<=64:=by
  have:=acp l 256
  unfold O2 aco
  omega
 have:=(aR (T:=re tJ B3) (λn O=>(((c,l,(),(),4*(O2 l:Int)-4*(n:Int),()),(c0,bQ O,())):cM)) (aqq c l (O2 l))
  (λO=>(⟨(.exit 0,wE),(((),(),()),(c0,bQ O,()))⟩:aE)) (O2 l+1) cO (λ_ _=>True) trivial (λn O hn _=>⟨?_,trivial⟩) (λO _=> ?_)).1
 ·obtain ⟨m,hm⟩:=this
  refine ⟨m,_,?_,rfl⟩
  have e:4*(O2 l:Int)-4*((0:Nat):Int)=4*(O2 l:Int):=by omega
  rw [e] at hm
  exact hm
 ·have e:4*(O2 l:Int)-4*((n+1:Nat):Int)=4*(O2 l:Int)-4*(n:Int)-4:=by omega
  rw [e]
  exact aH8 (D:=aKv c O) (by omega) (by omega) hl (decide_eq_true rfl) rfl
 ·exact OT.aq (decide_eq_false (by dsimp only;omega))
def aKs (l:List Tm):Bool:=decide ((l.length:Int)<24)
def aiN (c:Int) (l:List Tm):Pt:=cond (aKs l) (AS c l) (aJU c l)
def B2 (x:Re):Bool:=decide (x.1.2.1.length<=140737488355328)
def auy (x:Re):OT mm.Y:=.ok ⟨wC,((aiN x.1.1 x.1.2.1,()),())⟩
theorem anK {ok2:bG->Bool} {g2:bG->eA} {ok0:cM->Bool} {g0:cM->jL} {c:Int} {l:List Tm} {R:Pt} (hl:l.length<=140737488355328) (hf:aKs l=false)
 (h0:ok0 ((c,l,(),(),4*(O2 l:Int),()),(bQ dC,bQ cO,()))=true) (e0:g0 ((c,l,(),(),4*(O2 l:Int),()),(bQ dC,bQ cO,()))=(((),(),()),(bQ dC,bQ R,()))):
 (Fw ok2 g2 ok0 g0 c l).run=some ⟨wC,((R,()),())⟩:=by
 have ht:Int.tdiv ((aco l:Int)+4-1) 4=(O2 l:Int):=by
  unfold O2
  rw [Int.tdiv_eq_ediv_of_nonneg (by omega)]
  omega
 have hW:=acp l 256
 have hW:aco l<=256:=hW
 have hW2:O2 l<=64:=by unfold O2;omega
 have e1:(O2 l:Int)*4=4*(O2 l:Int):=Int.mul_comm _ _
 unfold Fw
 have e0':g0 ((c,l,(),(),4*(O2 l:Int),()),(0,0,0,0,0,0,0,0,false,()),(0,0,0,0,0,0,0,0,true,()),())=(((),(),()),(bQ dC,bQ R,())):=e0
 simp only [ht,e1,e0']
 refine (OT.aq hf).trans ((ah ?_).trans rfl)
 simp only [List.all_cons,List.all_nil,Bool.and_true,Bool.true_and,Bool.and_eq_true]
 exact ⟨decide_eq_true hl,aH (by omega),aH (by omega),aH (by omega),aH (by omega),h0⟩
theorem aAY:ac Tryz.prog 148 (mm.aI B2 auy):=anJ tJ B3 Lm UL aAZ aA0 _ _ λx oy hp ho=>by
 rw [<-ho]
 clear ho
 obtain ⟨⟨c,l,⟨⟩⟩,⟨⟩⟩:=x
 have hl:l.length<=140737488355328:=of_decide_eq_true hp
 show (Fw tJ B3 Lm UL c l).run=some ⟨wC,((aiN c l,()),())⟩
 rcases (Bool.eq_false_or_eq_true (aKs l)).symm with hf|hf
 ·have e:aiN c l=aJU c l:=by unfold aiN;rw [hf];rfl
  rw [e]
  exact anK (R:=aJU c l) hl hf (decide_eq_true ⟨rfl,rfl,hl⟩) rfl
 ·have e:aiN c l=AS c l:=by unfold aiN;rw [hf];rfl
  rw [e]
  refine (OT.ao hf).trans ((ah ?_).trans rfl)
  simp only [List.all_cons,List.all_nil,Bool.and_true]
  exact hp
def Fv:cj:=(mm.aI B2 auy)
theorem aej:ac Tryz.prog 148 Fv:=aAY
theorem aei:aG Fv:=aB
def N7:Env:=ay 148 Fv jX
theorem GC:aQ Tryz.prog N7:=ag aej jv
theorem HV:ax N7:=ae aei vl
theorem agp:aW Tryz.prog te N7:=aL follows ar GC HV
def iZ:aw:=⟨[.ptr 0 0 0],[(0,aKL (.own 1)),(1,.row Ii)],false,2,true⟩
abbrev Fs:Type:=((Unit)×Unit)×(((Int)×(Unit)×Unit)×(List ((aa×(aa×(aa×Bool)))))×Unit)
def Lg:az:=⟨[.val true (.prod .elem (.prod .elem .bool))],[(0,.cells [.val false .int,.own 1]),(1,.row (.prod .elem (.prod .elem (.prod .elem .bool))))],false⟩
def Rc:SV->Option az:=λ_=>some Lg
def UE (c0_0:Int) (c1:List ((aa×(aa×(aa×Bool))))):OT iZ.Y:=
 (gd [B2 ((c0_0,c1,()),())] (.ok ⟨Lg,((aiN c0_0 c1,()),((c0_0,((),())),(c1,())))⟩))
theorem aAS (x:Fs) (Q:iZ.Y->Prop):wpf te N7 av 1000 Tryz.f116 (iZ.inp.inj x).tm (iZ.inp.inj x).hp (fnK iZ Rc Q) (λ_ _=>False)=(UE (x.2.1.1) (x.2.2.1)).wpR Q:=by kernel_rfl
theorem aec (pre:Fs->Bool) (F:Fs->OT iZ.Y) (hF:∀ (x:Fs) oy,pre x=true->(F x).run=some oy->(UE (x.2.1.1) (x.2.2.1)).run=some oy):ac Tryz.prog 116 (iZ.aI pre F):=
 aD ar GC agp (f:=116) (fn:=Tryz.f116) (c:=aj Tryz.f116) (by kernel_rfl) (by kernel_rfl) (by kernel_rfl) (S:=iZ) (k:=2) (by kernel_rfl) (λR hR=>af) (n:=1000) (sel:=Rc) (λv o h=>by cases h;rfl) (pre:=pre) (F:=F) (T:=λx=>UE (x.2.1.1) (x.2.2.1)) (λx Q=>aAS x Q) hF
def Fq (x:Fs):Bool:=B2 ((x.2.1.1,x.2.2.1,()),())
def ajM (x:Fs):OT iZ.Y:=.ok ⟨Lg,((aiN x.2.1.1 x.2.2.1,()),((x.2.1.1,((),())),(x.2.2.1,())))⟩
theorem aul:ac Tryz.prog 116 (iZ.aI Fq ajM):=aec _ _ λx oy hp ho=>by
 rw [<-ho]
 clear ho
 refine (ah ?_).trans rfl
 simp only [List.all_cons,List.all_nil,Bool.and_true]
 exact hp
def zw:cj:=(iZ.aI Fq ajM)
theorem Zg:ac Tryz.prog 116 zw:=aul
theorem Zf:aG zw:=aB
def xQ:Env:=ay 116 zw N7
theorem rZ:aQ Tryz.prog xQ:=ag Zg GC
theorem DD:ax xQ:=ae Zf HV
theorem HT:aW Tryz.prog te xQ:=aL follows ar rZ DD
def sd:aw:=⟨[.val false .int,.val false (.list Ii)],[],true,0,false⟩
abbrev anI:Type:=((Int)×(List ((aa×(aa×(aa×Bool)))))×Unit)×(Unit)
def Ll:Shape:=⟨45,[(4,.ptr 0 0 0),(6,.ptr 1 0 0),(26,.val false (.list (.prod .elem (.prod .elem (.prod .elem .bool))))),(27,.val false .int),(28,.val false .int)],[(0,.cells [.val false .u64,.val false .u64,.val false .u64,.val false .u64,.val false .u64,.val false .u64,.val false .u64,.val false .u64,.val false .bool]),(1,.cells [.val false .int,.own 2]),(2,.row (.prod .elem (.prod .elem (.prod .elem .bool))))],0,true⟩
abbrev b9:Type:=((Unit)×(Unit)×(List ((aa×(aa×(aa×Bool)))))×(Int)×(Int)×Unit)×(((UInt64)×(UInt64)×(UInt64)×(UInt64)×(UInt64)×(UInt64)×(UInt64)×(UInt64)×(Bool)×Unit)×((Int)×(Unit)×Unit)×(List ((aa×(aa×(aa×Bool)))))×Unit)
def ml:Shape:=⟨45,[(4,.ptr 0 0 0),(5,.val false .int)],[(0,.cells [.val false .u64,.val false .u64,.val false .u64,.val false .u64,.val false .u64,.val false .u64,.val false .u64,.val false .u64,.val false .bool])],0,true⟩
abbrev pf:Type:=((Unit)×(Int)×Unit)×(((UInt64)×(UInt64)×(UInt64)×(UInt64)×(UInt64)×(UInt64)×(UInt64)×(UInt64)×(Bool)×Unit)×Unit)
def BZ:Shape:=⟨45,[(4,.ptr 0 0 0),(6,.ptr 1 0 0)],[(0,.cells [.val false .u64,.val false .u64,.val false .u64,.val false .u64,.val false .u64,.val false .u64,.val false .u64,.val false .u64,.val false .bool]),(1,.cells [.val false .int,.own 2]),(2,.row (.prod .elem (.prod .elem (.prod .elem .bool))))],0,true⟩
abbrev pg:Type:=((Unit)×(Unit)×Unit)×(((UInt64)×(UInt64)×(UInt64)×(UInt64)×(UInt64)×(UInt64)×(UInt64)×(UInt64)×(Bool)×Unit)×((Int)×(Unit)×Unit)×(List ((aa×(aa×(aa×Bool)))))×Unit)
def auv:SE->Option Shape:=fc [(1,BZ)] (some ml)
def aGl (a26:List ((aa×(aa×(aa×Bool))))) (a27:Int) (a28:Int) (c0_0:UInt64) (c0_1:UInt64) (c0_2:UInt64) (c0_3:UInt64) (c0_4:UInt64) (c0_5:UInt64) (c0_6:UInt64) (c0_7:UInt64) (c0_8:Bool) (c1_0:Int) (c2:List ((aa×(aa×(aa×Bool))))):OT (Sum b9 aE):=
 let z0:aa:= {w0:=0,w1:=0,w2:=0,w3:=0}
 let z1:aa×aa×aa×Bool:=List.getD a26 (Int.toNat a28) (z0,z0,z0,false)
 let z2:=z1.snd
 (.br (decide (a28<a27))
 (gd [inB a28 (List.length a26)] (.br (onB c1_0 z2)
  (.br (Xv c2)
   (gd [inR (a28+(1:Int))] (.ok (.inl (((),((),(a26,(a27,(a28+(1:Int),()))))),((c0_0,(c0_1,(c0_2,(c0_3,(c0_4,(c0_5,(c0_6,(c0_7,(c0_8,()))))))))),((c1_0,((),())),(c2++ [(acA c1_0 z1.fst,z2)],())))))))
   (.ok (.inr ⟨(.ret,ml),(((),((50:Int),())),(((0:UInt64),((0:UInt64),((0:UInt64),((0:UInt64),((0:UInt64),((0:UInt64),((0:UInt64),((0:UInt64),(false,()))))))))),()))⟩)))
  (.ok (.inr ⟨(.ret,ml),(((),((41:Int),())),(((0:UInt64),((0:UInt64),((0:UInt64),((0:UInt64),((0:UInt64),((0:UInt64),((0:UInt64),((0:UInt64),(false,()))))))))),()))⟩))))
 (.ok (.inr ⟨(.exit 1,BZ),(((),((),())),((c0_0,(c0_1,(c0_2,(c0_3,(c0_4,(c0_5,(c0_6,(c0_7,(c0_8,()))))))))),((c1_0,((),())),(c2,()))))⟩)))
def Fu (s:b9):OT (Sum b9 aE):=aGl (s.1.2.2.1) (s.1.2.2.2.1) (s.1.2.2.2.2.1) (s.2.1.1) (s.2.1.2.1) (s.2.1.2.2.1) (s.2.1.2.2.2.1) (s.2.1.2.2.2.2.1) (s.2.1.2.2.2.2.2.1) (s.2.1.2.2.2.2.2.2.1) (s.2.1.2.2.2.2.2.2.2.1) (s.2.1.2.2.2.2.2.2.2.2.1) (s.2.2.1.1) (s.2.2.2.1)
theorem aGi (s:b9) (Q:Sum b9 aE->Prop):wps te xQ av 1000 (aU (aj Tryz.f74) 1) (Ll.inj s) (bU Ll auv (Q:Sum Ll.T aE->Prop))=(Fu s).wpR Q:=by kernel_rfl
def UK (g1_r:b9->pf) (c1_r:b9->Bool) (g1_1:b9->pg) (s:b9):OT aE:=(.br (c1_r s) (.ok ⟨(.ret,ml),g1_r s⟩) (.ok ⟨(.exit 1,BZ),g1_1 s⟩))
def jK:az:=⟨[.val true (.prod .elem (.prod .elem .bool)),.val false .int],[],false⟩
def ajQ:SV->Option az:=λ_=>some jK
def ajS (ok1:b9->Bool) (g1_r:b9->pf) (c1_r:b9->Bool) (g1_1:b9->pg) (a0:Int) (a1:List ((aa×(aa×(aa×Bool))))):OT sd.Y:=
 let z0:Int:=(↑(List.length a1):Int)
 let z1:aa:= {w0:=0,w1:=0,w2:=0,w3:=0}
 let z2:aa×aa×Bool:=(z1,z1,false)
 let z3:(PUnit×PUnit×List (aa×aa×aa×Bool)×Int×Int×PUnit)×(UInt64×UInt64×UInt64×UInt64×UInt64×UInt64×UInt64×UInt64×Bool×PUnit)×(Int×PUnit×PUnit)×List (aa×aa×aa×Bool)×PUnit:=(((),(),a1,z0,(0:Int),()),((0:UInt64),(0:UInt64),(0:UInt64),(0:UInt64),(0:UInt64),(0:UInt64),(0:UInt64),(0:UInt64),false,()),(a0,(),()),[],())
 let z4:(PUnit×Int×PUnit)×(UInt64×UInt64×UInt64×UInt64×UInt64×UInt64×UInt64×UInt64×Bool×PUnit)×PUnit:=g1_r z3
 let z5:=z4.snd.fst
 let z6:=z5.snd
 let z7:=z6.snd
 let z8:=z7.snd
 let z9:=z8.snd
 let z10:=z9.snd
 let z11:=z10.snd
 let z12:=z11.snd
 let z13:=(g1_1 z3).snd.snd
 let z14:=z13.fst.fst
 let z15:=z13.snd.fst
 (.br (ap a0)
 (.br (decide ((100000:Int)<z0))
  (.ok ⟨jK,((z2,((50:Int),())),())⟩)
  (gd [ok1 z3] (.br (c1_r z3)
   (.ok ⟨jK,((({w0:=z5.fst,w1:=z6.fst,w2:=z7.fst,w3:=z8.fst},{w0:=z9.fst,w1:=z10.fst,w2:=z11.fst,w3:=z12.fst},z12.snd.fst),(z4.fst.snd.fst,())),())⟩)
   (gd [Fq (((),()),(z14,(),()),z15,())] (.ok ⟨jK,((aiN z14 z15,((0:Int),())),())⟩)))))
 (.ok ⟨jK,((z2,((40:Int),())),())⟩))
theorem aIY (ok1:b9->Bool) (g1_r:b9->pf) (c1_r:b9->Bool) (g1_1:b9->pg) (x:anI) (Q:sd.Y->Prop):wpf te xQ (aO 1 (cf Ll 1 ok1 (UK g1_r c1_r g1_1)) av) 1000 Tryz.f74 (sd.inp.inj x).tm (sd.inp.inj x).hp (fnK sd ajQ Q) (λ_ _=>False)=(ajS ok1 g1_r c1_r g1_1 (x.1.1) (x.1.2.1)).wpR Q:=by kernel_rfl
theorem auw (ok1:b9->Bool) (g1_r:b9->pf) (c1_r:b9->Bool) (g1_1:b9->pg) (h1:∀ s:b9,ok1 s=true->∃ m e,al (Fu) m s=some e/\(UK g1_r c1_r g1_1 s).run=some e) (pre:anI->Bool) (F:anI->OT sd.Y) (hF:∀ (x:anI) oy,pre x=true->(F x).run=some oy->(ajS ok1 g1_r c1_r g1_1 (x.1.1) (x.1.2.1)).run=some oy):ac Tryz.prog 74 (sd.aI pre F):=
 aD ar rZ HT (f:=74) (fn:=Tryz.f74) (c:=aj Tryz.f74) (by kernel_rfl) (by kernel_rfl) (by kernel_rfl) (S:=sd) (k:=0) (by kernel_rfl) (λR hR=>(aA (c:=(aj Tryz.f74)) (by kernel_rfl) (id:=1) (by kernel_rfl) (aP ar rZ HT (sh:=Ll) hR (xs:=auv) (aC (by kernel_rfl) (by kernel_rfl) hR) aM af (n:=1000) (T:=Fu) (λs Q=>aGi s Q) (ok:=ok1) (f:=UK g1_r c1_r g1_1) h1) af)) (n:=1000) (sel:=ajQ) (λv o h=>by cases h;rfl) (pre:=pre) (F:=F) (T:=λx=>ajS ok1 g1_r c1_r g1_1 (x.1.1) (x.1.2.1)) (λx Q=>aIY ok1 g1_r c1_r g1_1 x Q) hF
def ab7 (c:Int) (l:List Tm):List Tm:=l.map λt=>(acA c t.1,t.2)
def su (c:Int) (l:List Tm):Bool:=l.all λt=>onB c t.2
def UI (s:b9):Bool:=decide (s.1.2.2.2.1=(s.1.2.2.1.length:Int)/\s.1.2.2.2.2.1=0/\s.2.2.2.1= []/\s.1.2.2.1.length<=100000)
def UJ (_:b9):pf:=(((),(41:Int),()),(bQ dC,()))
def aeh (s:b9):Bool:= !su s.2.2.1.1 s.1.2.2.1
def aeg (s:b9):pg:=(((),(),()),(s.2.1,(s.2.2.1.1,(),()),ab7 s.2.2.1.1 s.1.2.2.1,()))
def W4 (c:Int) (l:List Tm) (c0:C9) (k:Int) (o:List Tm):b9:=(((),(),l,(l.length:Int),k,()),(c0,(c,(),()),o,()))
theorem aiM (c:Int) (l:List Tm) (c0:C9) (hl:l.length<=100000):∀ d k:Nat,k+d=l.length->
 ∃ m,al Fu m (W4 c l c0 (k:Int) (ab7 c (l.take k)))=some (cond (su c (l.drop k)) ⟨(.exit 1,BZ),(((),(),()),(c0,(c,(),()),ab7 c l,()))⟩ ⟨(.ret,ml),(((),(41:Int),()),(bQ dC,()))⟩)
 |0,k,h=>by
  rw [List.drop_eq_nil_of_le (by omega),List.take_of_length_le (by omega)]
  exact ⟨1,aK (OT.aq (decide_eq_false (by dsimp only [W4];omega)))⟩
 |d+1,k,h=>by
  have hk:k<l.length:=by omega
  have e1:l.drop k=l[k]::l.drop (k+1):=List.drop_eq_getElem_cons hk
  have e2:l.take (k+1)=l.take k++ [l[k]]:=(List.take_append_getElem hk).symm
  have e3:l.getD k zu=l[k]:=by rw [List.getD_eq_getElem?_getD,List.getElem?_eq_getElem hk];rfl
  have hgd:∀ z:OT (Sum b9 aE),(gd [inB (k:Int) l.length] z).run=z.run:=λz=>ah (by rw [aN (by omega)];rfl)
  have ea:su c (l.drop k)=(onB c l[k].2&&su c (l.drop (k+1))):=by rw [e1];rfl
  rw [ea]
  have hr:Xv (ab7 c (l.take k))=true:=decide_eq_true (by rw [ab7,List.length_map,List.length_take];omega)
  have first:∀ e:aE ⊕ Unit,(Fu (W4 c l c0 (k:Int) (ab7 c (l.take k)))).run=(OT.br (onB c (l.getD k zu).2) (.br (Xv (ab7 c (l.take k))) (gd [inR ((k:Int)+1)] (.ok (.inl (W4 c l c0 ((k:Int)+1) (ab7 c (l.take k)++ [(acA c (l.getD k zu).1,(l.getD k zu).2)])))))
   (.ok (.inr ⟨(.ret,ml),(((),(50:Int),()),(bQ dC,()))⟩))) (.ok (.inr ⟨(.ret,ml),(((),(41:Int),()),(bQ dC,()))⟩)):OT (Sum b9 aE)).run:=λ_=>
   (OT.ao (decide_eq_true (by dsimp only [W4];omega))).trans ((hgd _).trans rfl)
  have first:=first (.inr ())
  rw [e3] at first
  rcases (Bool.eq_false_or_eq_true (onB c l[k].2)).symm with hb|hb
  ·rw [hb]
   exact ⟨1,aK (first.trans (OT.aq hb))⟩
  ·rw [hb]
   obtain ⟨m,hm⟩:=aiM c l c0 hl d (k+1) (by omega)
   refine ⟨m+1,aF ?_ hm⟩
   refine first.trans ((OT.ao hb).trans ((OT.ao hr).trans ((ah ?_).trans ?_)))
   ·simp only [List.all_cons,List.all_nil,Bool.and_true]
    exact aH (by omega)
   ·rw [e2]
    simp only [ab7,List.map_append,List.map_cons,List.map_nil]
    rfl
theorem aGk:∀ s:b9,UI s=true->∃ m e,al Fu m s=some e/\(UK UJ aeh aeg s).run=some e:=by
 rintro ⟨⟨⟨⟩,⟨⟩,l,n,k,⟨⟩⟩,⟨c0,⟨c,⟨⟩,⟨⟩⟩,o,⟨⟩⟩⟩ h
 have h':=of_decide_eq_true h
 dsimp only at h'
 obtain ⟨rfl,rfl,rfl,hl⟩:=h'
 obtain ⟨m,hm⟩:=aiM c l c0 hl l.length 0 (by omega)
 refine ⟨m,_,hm,?_⟩
 show (OT.br (!su c l) _ _:OT aE).run=some (cond (su c l) _ _)
 cases su c l<;>rfl
def ajR (_:anI):Bool:=true
def aCZ (x:anI):OT sd.Y:=.br (ap x.1.1) (.br (decide (x.1.2.1.length<=100000)) (.br (su x.1.1 x.1.2.1) (.ok ⟨jK,((aiN x.1.1 (ab7 x.1.1 x.1.2.1),((0:Int),())),())⟩)
 (.ok ⟨jK,((dC,((41:Int),())),())⟩)) (.ok ⟨jK,((dC,((50:Int),())),())⟩)) (.ok ⟨jK,((dC,((40:Int),())),())⟩)
theorem aGj:ac Tryz.prog 74 (sd.aI ajR aCZ):=auw UI UJ aeh aeg aGk _ _ λx oy hp ho=>by
 rw [<-ho]
 clear ho
 obtain ⟨⟨c,l,⟨⟩⟩,⟨⟩⟩:=x
 show (ajS UI UJ aeh aeg c l).run=(OT.br (ap c) (.br (decide (l.length<=100000)) (.br (su c l) (.ok ⟨jK,((aiN c (ab7 c l),((0:Int),())),())⟩)
  (.ok ⟨jK,((dC,((41:Int),())),())⟩)) (.ok ⟨jK,((dC,((50:Int),())),())⟩)) (.ok ⟨jK,((dC,((40:Int),())),())⟩):OT sd.Y).run
 rcases (Bool.eq_false_or_eq_true (ap c)).symm with hs|hs
 ·exact (OT.aq hs).trans (OT.aq (b:=ap c) hs).symm
 ·refine (OT.ao hs).trans (Eq.trans ?_ (OT.ao (b:=ap c) hs).symm)
  by_cases hl:l.length<=100000
  ·refine (OT.aq (decide_eq_false (by omega))).trans (Eq.trans ?_ (OT.ao (b:=decide (l.length<=100000)) (decide_eq_true hl)).symm)
   refine (ah ?_).trans ?_
   ·simp only [List.all_cons,List.all_nil,Bool.and_true]
    exact decide_eq_true ⟨rfl,rfl,rfl,hl⟩
   ·rcases (Bool.eq_false_or_eq_true (su c l)).symm with ha|ha
    ·exact (OT.ao (b:= !su c l) (by rw [ha];rfl)).trans (OT.aq (b:=su c l) ha).symm
    ·refine (OT.aq (b:= !su c l) (by rw [ha];rfl)).trans (Eq.trans ?_ (OT.ao (b:=su c l) ha).symm)
     refine (ah ?_).trans rfl
     simp only [List.all_cons,List.all_nil,Bool.and_true]
     refine decide_eq_true ?_
     show (ab7 c l).length<=_
     rw [ab7,List.length_map]
     omega
  ·exact (OT.ao (decide_eq_true (by omega))).trans (OT.aq (b:=decide (l.length<=100000)) (decide_eq_false hl)).symm
def Lk:cj:=(sd.aI ajR aCZ)
theorem anH:ac Tryz.prog 74 Lk:=aGj
theorem anG:aG Lk:=aB
def abG:Env:=ay 74 Lk xQ
theorem N5:aQ Tryz.prog abG:=ag anH rZ
theorem N6:ax abG:=ae anG DD
theorem apR:aW Tryz.prog te abG:=aL follows ar N5 N6
abbrev aHR:Ty:=.prod .int (.prod .int (.prod (.list (.prod .elem (.prod .elem .bool))) (.prod (.prod .elem (.prod .elem .bool)) (.prod .elem (.prod .elem .bool)))))
def aKl:CSh:=.cells [.val false .int,.val false .int,.val false (.list (.prod .elem (.prod .elem .bool))),.val false .u64,.val false .u64,.val false .u64,.val false .u64,.val false .u64,.val false .u64,.val false .u64,.val false .u64,.val false .bool,.val false .u64,.val false .u64,.val false .u64,.val false .u64,.val false .u64,.val false .u64,.val false .u64,.val false .u64,.val false .bool]
def gV:aw:=⟨[.val true (.prod .elem (.prod .elem .bool)),.ptr 0 0 0],[(0,aKl)],false,1,true⟩
abbrev E3:Type:=(((aa×(aa×Bool)))×(Unit)×Unit)×(((Int)×(Int)×(List ((aa×(aa×Bool))))×(UInt64)×(UInt64)×(UInt64)×(UInt64)×(UInt64)×(UInt64)×(UInt64)×(UInt64)×(Bool)×(UInt64)×(UInt64)×(UInt64)×(UInt64)×(UInt64)×(UInt64)×(UInt64)×(UInt64)×(Bool)×Unit)×Unit)
def tp:az:=⟨[.val false .bool],[(0,.cells [.val false .int,.val false .int,.val false (.list (.prod .elem (.prod .elem .bool))),.val false .u64,.val false .u64,.val false .u64,.val false .u64,.val false .u64,.val false .u64,.val false .u64,.val false .u64,.val false .bool,.val false .u64,.val false .u64,.val false .u64,.val false .u64,.val false .u64,.val false .u64,.val false .u64,.val false .u64,.val false .bool])],false⟩
def QJ:SV->Option az:=λ_=>some tp
def Ud (a0:(aa×(aa×Bool))) (c0_0:Int) (c0_1:Int) (c0_2:List ((aa×(aa×Bool)))) (c0_3:UInt64) (c0_4:UInt64) (c0_5:UInt64) (c0_6:UInt64) (c0_7:UInt64) (c0_8:UInt64) (c0_9:UInt64) (c0_10:UInt64) (c0_11:Bool) (c0_12:UInt64) (c0_13:UInt64) (c0_14:UInt64) (c0_15:UInt64) (c0_16:UInt64) (c0_17:UInt64) (c0_18:UInt64) (c0_19:UInt64) (c0_20:Bool):OT gV.Y:=
 (.br (a0.snd.snd)
 (.ok ⟨tp,((true,()),((c0_0,(c0_1,(c0_2,(c0_3,(c0_4,(c0_5,(c0_6,(c0_7,(c0_8,(c0_9,(c0_10,(c0_11,(c0_12,(c0_13,(c0_14,(c0_15,(c0_16,(c0_17,(c0_18,(c0_19,(c0_20,()))))))))))))))))))))),()))⟩)
 (.ok ⟨tp,((!onB c0_0 a0,()),((c0_0,(c0_1,(c0_2,(c0_3,(c0_4,(c0_5,(c0_6,(c0_7,(c0_8,(c0_9,(c0_10,(c0_11,(c0_12,(c0_13,(c0_14,(c0_15,(c0_16,(c0_17,(c0_18,(c0_19,(c0_20,()))))))))))))))))))))),()))⟩))
theorem aAs (x:E3) (Q:gV.Y->Prop):wpf te abG av 1000 Tryz.f71 (gV.inp.inj x).tm (gV.inp.inj x).hp (fnK gV QJ Q) (λ_ _=>False)=(Ud (x.1.1) (x.2.1.1) (x.2.1.2.1) (x.2.1.2.2.1) (x.2.1.2.2.2.1) (x.2.1.2.2.2.2.1) (x.2.1.2.2.2.2.2.1) (x.2.1.2.2.2.2.2.2.1) (x.2.1.2.2.2.2.2.2.2.1) (x.2.1.2.2.2.2.2.2.2.2.1) (x.2.1.2.2.2.2.2.2.2.2.2.1) (x.2.1.2.2.2.2.2.2.2.2.2.2.1) (x.2.1.2.2.2.2.2.2.2.2.2.2.2.1) (x.2.1.2.2.2.2.2.2.2.2.2.2.2.2.1) (x.2.1.2.2.2.2.2.2.2.2.2.2.2.2.2.1) (x.2.1.2.2.2.2.2.2.2.2.2.2.2.2.2.2.1) (x.2.1.2.2.2.2.2.2.2.2.2.2.2.2.2.2.2.1) (x.2.1.2.2.2.2.2.2.2.2.2.2.2.2.2.2.2.2.1) (x.2.1.2.2.2.2.2.2.2.2.2.2.2.2.2.2.2.2.2.1) (x.2.1.2.2.2.2.2.2.2.2.2.2.2.2.2.2.2.2.2.2.1) (x.2.1.2.2.2.2.2.2.2.2.2.2.2.2.2.2.2.2.2.2.2.1) (x.2.1.2.2.2.2.2.2.2.2.2.2.2.2.2.2.2.2.2.2.2.2.1)).wpR Q:=by kernel_rfl
theorem adT (pre:E3->Bool) (F:E3->OT gV.Y) (hF:∀ (x:E3) oy,pre x=true->(F x).run=some oy->(Ud (x.1.1) (x.2.1.1) (x.2.1.2.1) (x.2.1.2.2.1) (x.2.1.2.2.2.1) (x.2.1.2.2.2.2.1) (x.2.1.2.2.2.2.2.1) (x.2.1.2.2.2.2.2.2.1) (x.2.1.2.2.2.2.2.2.2.1) (x.2.1.2.2.2.2.2.2.2.2.1) (x.2.1.2.2.2.2.2.2.2.2.2.1) (x.2.1.2.2.2.2.2.2.2.2.2.2.1) (x.2.1.2.2.2.2.2.2.2.2.2.2.2.1) (x.2.1.2.2.2.2.2.2.2.2.2.2.2.2.1) (x.2.1.2.2.2.2.2.2.2.2.2.2.2.2.2.1) (x.2.1.2.2.2.2.2.2.2.2.2.2.2.2.2.2.1) (x.2.1.2.2.2.2.2.2.2.2.2.2.2.2.2.2.2.1) (x.2.1.2.2.2.2.2.2.2.2.2.2.2.2.2.2.2.2.1) (x.2.1.2.2.2.2.2.2.2.2.2.2.2.2.2.2.2.2.2.1) (x.2.1.2.2.2.2.2.2.2.2.2.2.2.2.2.2.2.2.2.2.1) (x.2.1.2.2.2.2.2.2.2.2.2.2.2.2.2.2.2.2.2.2.2.1) (x.2.1.2.2.2.2.2.2.2.2.2.2.2.2.2.2.2.2.2.2.2.2.1)).run=some oy):ac Tryz.prog 71 (gV.aI pre F):=
 aD ar N5 apR (f:=71) (fn:=Tryz.f71) (c:=aj Tryz.f71) (by kernel_rfl) (by kernel_rfl) (by kernel_rfl) (S:=gV) (k:=1) (by kernel_rfl) (λR hR=>af) (n:=1000) (sel:=QJ) (λv o h=>by cases h;rfl) (pre:=pre) (F:=F) (T:=λx=>Ud (x.1.1) (x.2.1.1) (x.2.1.2.1) (x.2.1.2.2.1) (x.2.1.2.2.2.1) (x.2.1.2.2.2.2.1) (x.2.1.2.2.2.2.2.1) (x.2.1.2.2.2.2.2.2.1) (x.2.1.2.2.2.2.2.2.2.1) (x.2.1.2.2.2.2.2.2.2.2.1) (x.2.1.2.2.2.2.2.2.2.2.2.1) (x.2.1.2.2.2.2.2.2.2.2.2.2.1) (x.2.1.2.2.2.2.2.2.2.2.2.2.2.1) (x.2.1.2.2.2.2.2.2.2.2.2.2.2.2.1) (x.2.1.2.2.2.2.2.2.2.2.2.2.2.2.2.1) (x.2.1.2.2.2.2.2.2.2.2.2.2.2.2.2.2.1) (x.2.1.2.2.2.2.2.2.2.2.2.2.2.2.2.2.2.1) (x.2.1.2.2.2.2.2.2.2.2.2.2.2.2.2.2.2.2.1) (x.2.1.2.2.2.2.2.2.2.2.2.2.2.2.2.2.2.2.2.1) (x.2.1.2.2.2.2.2.2.2.2.2.2.2.2.2.2.2.2.2.2.1) (x.2.1.2.2.2.2.2.2.2.2.2.2.2.2.2.2.2.2.2.2.2.1) (x.2.1.2.2.2.2.2.2.2.2.2.2.2.2.2.2.2.2.2.2.2.2.1)) (λx Q=>aAs x Q) hF
abbrev aDs:Type:=Int×(Int×(List Pt×(UInt64×(UInt64×(UInt64×(UInt64×(UInt64×(UInt64×(UInt64×(UInt64×(Bool×(UInt64×(UInt64×(UInt64×(UInt64×(UInt64×(UInt64×(UInt64×(UInt64×(Bool×Unit))))))))))))))))))))
def Pj:Pt:=(⟨0,0,0,0⟩,⟨0,0,0,0⟩,false)
def WQ (c:Int) (P:Pt):Bool:=cond P.2.2 true (!onB c P)
def QK (_:E3):Bool:=true
def ajw (x:E3):OT gV.Y:=.ok ⟨tp,((WQ x.2.1.1 x.1.1,()),x.2)⟩
theorem atM:ac Tryz.prog 71 (gV.aI QK ajw):=adT _ _ λx oy hp ho=>by
 rw [<-ho]
 clear ho
 obtain ⟨⟨P,⟨⟩,⟨⟩⟩,⟨i,⟨⟩⟩⟩:=x
 show _=some (⟨tp,((WQ i.1 P,()),(i,()))⟩:gV.Y)
 unfold WQ
 rcases (Bool.eq_false_or_eq_true P.2.2).symm with h|h
 ·rw [h]
  exact (OT.aq h).trans rfl
 ·rw [h]
  exact (OT.ao h).trans rfl
def zd:cj:=(gV.aI QK ajw)
theorem Yz:ac Tryz.prog 71 zd:=atM
theorem Yy:aG zd:=aB
def xN:Env:=ay 71 zd abG
theorem rW:aQ Tryz.prog xN:=ag Yz N5
theorem Dr:ax xN:=ae Yy N6
theorem HO:aW Tryz.prog te xN:=aL follows ar rW Dr
def fm:aw:=⟨[.val false (.list (.prod .elem (.prod .elem .bool))),.fn 71 [0]],[(0,aKl)],false,1,true⟩
abbrev wq:Type:=((List ((aa×(aa×Bool))))×(Unit)×Unit)×(((Int)×(Int)×(List ((aa×(aa×Bool))))×(UInt64)×(UInt64)×(UInt64)×(UInt64)×(UInt64)×(UInt64)×(UInt64)×(UInt64)×(Bool)×(UInt64)×(UInt64)×(UInt64)×(UInt64)×(UInt64)×(UInt64)×(UInt64)×(UInt64)×(Bool)×Unit)×Unit)
def o3:Shape:=⟨19,[(0,.val false (.list (.prod .elem (.prod .elem .bool)))),(1,.fn 71 [0]),(7,.val false .int),(8,.val false .int)],[(0,.cells [.val false .int,.val false .int,.val false (.list (.prod .elem (.prod .elem .bool))),.val false .u64,.val false .u64,.val false .u64,.val false .u64,.val false .u64,.val false .u64,.val false .u64,.val false .u64,.val false .bool,.val false .u64,.val false .u64,.val false .u64,.val false .u64,.val false .u64,.val false .u64,.val false .u64,.val false .u64,.val false .bool])],1,true⟩
abbrev be:Type:=((List ((aa×(aa×Bool))))×(Unit)×(Int)×(Int)×Unit)×(((Int)×(Int)×(List ((aa×(aa×Bool))))×(UInt64)×(UInt64)×(UInt64)×(UInt64)×(UInt64)×(UInt64)×(UInt64)×(UInt64)×(Bool)×(UInt64)×(UInt64)×(UInt64)×(UInt64)×(UInt64)×(UInt64)×(UInt64)×(UInt64)×(Bool)×Unit)×Unit)
def nv:Shape:=⟨19,[(4,.val false .int)],[(0,.cells [.val false .int,.val false .int,.val false (.list (.prod .elem (.prod .elem .bool))),.val false .u64,.val false .u64,.val false .u64,.val false .u64,.val false .u64,.val false .u64,.val false .u64,.val false .u64,.val false .bool,.val false .u64,.val false .u64,.val false .u64,.val false .u64,.val false .u64,.val false .u64,.val false .u64,.val false .u64,.val false .bool])],1,true⟩
abbrev iS:Type:=((Int)×Unit)×(((Int)×(Int)×(List ((aa×(aa×Bool))))×(UInt64)×(UInt64)×(UInt64)×(UInt64)×(UInt64)×(UInt64)×(UInt64)×(UInt64)×(Bool)×(UInt64)×(UInt64)×(UInt64)×(UInt64)×(UInt64)×(UInt64)×(UInt64)×(UInt64)×(Bool)×Unit)×Unit)
def nw:Shape:=⟨19,[],[(0,.cells [.val false .int,.val false .int,.val false (.list (.prod .elem (.prod .elem .bool))),.val false .u64,.val false .u64,.val false .u64,.val false .u64,.val false .u64,.val false .u64,.val false .u64,.val false .u64,.val false .bool,.val false .u64,.val false .u64,.val false .u64,.val false .u64,.val false .u64,.val false .u64,.val false .u64,.val false .u64,.val false .bool])],1,true⟩
abbrev iT:Type:=(Unit)×(((Int)×(Int)×(List ((aa×(aa×Bool))))×(UInt64)×(UInt64)×(UInt64)×(UInt64)×(UInt64)×(UInt64)×(UInt64)×(UInt64)×(Bool)×(UInt64)×(UInt64)×(UInt64)×(UInt64)×(UInt64)×(UInt64)×(UInt64)×(UInt64)×(Bool)×Unit)×Unit)
def QU:SE->Option Shape:=fc [(0,nw)] (some nv)
def anl (a0:List ((aa×(aa×Bool)))) (a7:Int) (a8:Int) (c0_0:Int) (c0_1:Int) (c0_2:List ((aa×(aa×Bool)))) (c0_3:UInt64) (c0_4:UInt64) (c0_5:UInt64) (c0_6:UInt64) (c0_7:UInt64) (c0_8:UInt64) (c0_9:UInt64) (c0_10:UInt64) (c0_11:Bool) (c0_12:UInt64) (c0_13:UInt64) (c0_14:UInt64) (c0_15:UInt64) (c0_16:UInt64) (c0_17:UInt64) (c0_18:UInt64) (c0_19:UInt64) (c0_20:Bool):OT (Sum be aE):=
 let z0:aa:= {w0:=0,w1:=0,w2:=0,w3:=0}
 (.br (decide (a8<a7))
 (gd [inB a8 (List.length a0)] (.br (WQ c0_0 (List.getD a0 (Int.toNat a8) (z0,z0,false)))
  (.ok (.inr ⟨(.ret,nv),((a8,()),((c0_0,(c0_1,(c0_2,(c0_3,(c0_4,(c0_5,(c0_6,(c0_7,(c0_8,(c0_9,(c0_10,(c0_11,(c0_12,(c0_13,(c0_14,(c0_15,(c0_16,(c0_17,(c0_18,(c0_19,(c0_20,()))))))))))))))))))))),()))⟩))
  (gd [inR (a8+(1:Int))] (.ok (.inl ((a0,((),(a7,(a8+(1:Int),())))),((c0_0,(c0_1,(c0_2,(c0_3,(c0_4,(c0_5,(c0_6,(c0_7,(c0_8,(c0_9,(c0_10,(c0_11,(c0_12,(c0_13,(c0_14,(c0_15,(c0_16,(c0_17,(c0_18,(c0_19,(c0_20,()))))))))))))))))))))),())))))))
 (.ok (.inr ⟨(.exit 0,nw),((),((c0_0,(c0_1,(c0_2,(c0_3,(c0_4,(c0_5,(c0_6,(c0_7,(c0_8,(c0_9,(c0_10,(c0_11,(c0_12,(c0_13,(c0_14,(c0_15,(c0_16,(c0_17,(c0_18,(c0_19,(c0_20,()))))))))))))))))))))),()))⟩)))
def o4 (s:be):OT (Sum be aE):=anl (s.1.1) (s.1.2.2.1) (s.1.2.2.2.1) (s.2.1.1) (s.2.1.2.1) (s.2.1.2.2.1) (s.2.1.2.2.2.1) (s.2.1.2.2.2.2.1) (s.2.1.2.2.2.2.2.1) (s.2.1.2.2.2.2.2.2.1) (s.2.1.2.2.2.2.2.2.2.1) (s.2.1.2.2.2.2.2.2.2.2.1) (s.2.1.2.2.2.2.2.2.2.2.2.1) (s.2.1.2.2.2.2.2.2.2.2.2.2.1) (s.2.1.2.2.2.2.2.2.2.2.2.2.2.1) (s.2.1.2.2.2.2.2.2.2.2.2.2.2.2.1) (s.2.1.2.2.2.2.2.2.2.2.2.2.2.2.2.1) (s.2.1.2.2.2.2.2.2.2.2.2.2.2.2.2.2.1) (s.2.1.2.2.2.2.2.2.2.2.2.2.2.2.2.2.2.1) (s.2.1.2.2.2.2.2.2.2.2.2.2.2.2.2.2.2.2.1) (s.2.1.2.2.2.2.2.2.2.2.2.2.2.2.2.2.2.2.2.1) (s.2.1.2.2.2.2.2.2.2.2.2.2.2.2.2.2.2.2.2.2.1) (s.2.1.2.2.2.2.2.2.2.2.2.2.2.2.2.2.2.2.2.2.2.1) (s.2.1.2.2.2.2.2.2.2.2.2.2.2.2.2.2.2.2.2.2.2.2.1)
theorem ani (s:be) (Q:Sum be aE->Prop):wps te xN av 1000 (aU (aj Tryz.f112) 0) (o3.inj s) (bU o3 QU (Q:Sum o3.T aE->Prop))=(o4 s).wpR Q:=by kernel_rfl
def wo (g0_r:be->iS) (c0_r:be->Bool) (g0_0:be->iT) (s:be):OT aE:=(.br (c0_r s) (.ok ⟨(.ret,nv),g0_r s⟩) (.ok ⟨(.exit 0,nw),g0_0 s⟩))
def jI:az:=⟨[.val false .int],[(0,.cells [.val false .int,.val false .int,.val false (.list (.prod .elem (.prod .elem .bool))),.val false .u64,.val false .u64,.val false .u64,.val false .u64,.val false .u64,.val false .u64,.val false .u64,.val false .u64,.val false .bool,.val false .u64,.val false .u64,.val false .u64,.val false .u64,.val false .u64,.val false .u64,.val false .u64,.val false .u64,.val false .bool])],false⟩
def KX:SV->Option az:=λ_=>some jI
def K0 (ok0:be->Bool) (g0_r:be->iS) (c0_r:be->Bool) (g0_0:be->iT) (a0:List ((aa×(aa×Bool)))) (c0_0:Int) (c0_1:Int) (c0_2:List ((aa×(aa×Bool)))) (c0_3:UInt64) (c0_4:UInt64) (c0_5:UInt64) (c0_6:UInt64) (c0_7:UInt64) (c0_8:UInt64) (c0_9:UInt64) (c0_10:UInt64) (c0_11:Bool) (c0_12:UInt64) (c0_13:UInt64) (c0_14:UInt64) (c0_15:UInt64) (c0_16:UInt64) (c0_17:UInt64) (c0_18:UInt64) (c0_19:UInt64) (c0_20:Bool):OT fm.Y:=
 let z0:(List (aa×aa×Bool)×PUnit×Int×Int×PUnit)×(Int×Int×List (aa×aa×Bool)×UInt64×UInt64×UInt64×UInt64×UInt64×UInt64×UInt64×UInt64×Bool×UInt64×UInt64×UInt64×UInt64×UInt64×UInt64×UInt64×UInt64×Bool×PUnit)×PUnit:=((a0,(),(↑(List.length a0):Int),(0:Int),()),(c0_0,c0_1,c0_2,c0_3,c0_4,c0_5,c0_6,c0_7,c0_8,c0_9,c0_10,c0_11,c0_12,c0_13,c0_14,c0_15,c0_16,c0_17,c0_18,c0_19,c0_20,()),())
 let z1:(Int×PUnit)×(Int×Int×List (aa×aa×Bool)×UInt64×UInt64×UInt64×UInt64×UInt64×UInt64×UInt64×UInt64×Bool×UInt64×UInt64×UInt64×UInt64×UInt64×UInt64×UInt64×UInt64×Bool×PUnit)×PUnit:=g0_r z0
 let z2:=z1.snd.fst
 let z3:=z2.snd
 let z4:=z3.snd
 let z5:=z4.snd
 let z6:=z5.snd
 let z7:=z6.snd
 let z8:=z7.snd
 let z9:=z8.snd
 let z10:=z9.snd
 let z11:=z10.snd
 let z12:=z11.snd
 let z13:=z12.snd
 let z14:=z13.snd
 let z15:=z14.snd
 let z16:=z15.snd
 let z17:=z16.snd
 let z18:=z17.snd
 let z19:=z18.snd
 let z20:=z19.snd
 let z21:=z20.snd
 let z22:=(g0_0 z0).snd.fst
 let z23:=z22.snd
 let z24:=z23.snd
 let z25:=z24.snd
 let z26:=z25.snd
 let z27:=z26.snd
 let z28:=z27.snd
 let z29:=z28.snd
 let z30:=z29.snd
 let z31:=z30.snd
 let z32:=z31.snd
 let z33:=z32.snd
 let z34:=z33.snd
 let z35:=z34.snd
 let z36:=z35.snd
 let z37:=z36.snd
 let z38:=z37.snd
 let z39:=z38.snd
 let z40:=z39.snd
 let z41:=z40.snd
 (gd [ok0 z0] (.br (c0_r z0)
 (.ok ⟨jI,((z1.fst.fst,()),((z2.fst,(z3.fst,(z4.fst,(z5.fst,(z6.fst,(z7.fst,(z8.fst,(z9.fst,(z10.fst,(z11.fst,(z12.fst,(z13.fst,(z14.fst,(z15.fst,(z16.fst,(z17.fst,(z18.fst,(z19.fst,(z20.fst,(z21.fst,(z21.snd.fst,()))))))))))))))))))))),()))⟩)
 (.ok ⟨jI,(((-1:Int),()),((z22.fst,(z23.fst,(z24.fst,(z25.fst,(z26.fst,(z27.fst,(z28.fst,(z29.fst,(z30.fst,(z31.fst,(z32.fst,(z33.fst,(z34.fst,(z35.fst,(z36.fst,(z37.fst,(z38.fst,(z39.fst,(z40.fst,(z41.fst,(z41.snd.fst,()))))))))))))))))))))),()))⟩)))
theorem atZ (ok0:be->Bool) (g0_r:be->iS) (c0_r:be->Bool) (g0_0:be->iT) (x:wq) (Q:fm.Y->Prop):wpf te xN (aO 0 (cf o3 0 ok0 (wo g0_r c0_r g0_0)) av) 1000 Tryz.f112 (fm.inp.inj x).tm (fm.inp.inj x).hp (fnK fm KX Q) (λ_ _=>False)=(K0 ok0 g0_r c0_r g0_0 (x.1.1) (x.2.1.1) (x.2.1.2.1) (x.2.1.2.2.1) (x.2.1.2.2.2.1) (x.2.1.2.2.2.2.1) (x.2.1.2.2.2.2.2.1) (x.2.1.2.2.2.2.2.2.1) (x.2.1.2.2.2.2.2.2.2.1) (x.2.1.2.2.2.2.2.2.2.2.1) (x.2.1.2.2.2.2.2.2.2.2.2.1) (x.2.1.2.2.2.2.2.2.2.2.2.2.1) (x.2.1.2.2.2.2.2.2.2.2.2.2.2.1) (x.2.1.2.2.2.2.2.2.2.2.2.2.2.2.1) (x.2.1.2.2.2.2.2.2.2.2.2.2.2.2.2.1) (x.2.1.2.2.2.2.2.2.2.2.2.2.2.2.2.2.1) (x.2.1.2.2.2.2.2.2.2.2.2.2.2.2.2.2.2.1) (x.2.1.2.2.2.2.2.2.2.2.2.2.2.2.2.2.2.2.1) (x.2.1.2.2.2.2.2.2.2.2.2.2.2.2.2.2.2.2.2.1) (x.2.1.2.2.2.2.2.2.2.2.2.2.2.2.2.2.2.2.2.2.1) (x.2.1.2.2.2.2.2.2.2.2.2.2.2.2.2.2.2.2.2.2.2.1) (x.2.1.2.2.2.2.2.2.2.2.2.2.2.2.2.2.2.2.2.2.2.2.1)).wpR Q:=by kernel_rfl
theorem YT (ok0:be->Bool) (g0_r:be->iS) (c0_r:be->Bool) (g0_0:be->iT) (h0:∀ s:be,ok0 s=true->∃ m e,al (o4) m s=some e/\(wo g0_r c0_r g0_0 s).run=some e) (pre:wq->Bool) (F:wq->OT fm.Y) (hF:∀ (x:wq) oy,pre x=true->(F x).run=some oy->(K0 ok0 g0_r c0_r g0_0 (x.1.1) (x.2.1.1) (x.2.1.2.1) (x.2.1.2.2.1) (x.2.1.2.2.2.1) (x.2.1.2.2.2.2.1) (x.2.1.2.2.2.2.2.1) (x.2.1.2.2.2.2.2.2.1) (x.2.1.2.2.2.2.2.2.2.1) (x.2.1.2.2.2.2.2.2.2.2.1) (x.2.1.2.2.2.2.2.2.2.2.2.1) (x.2.1.2.2.2.2.2.2.2.2.2.2.1) (x.2.1.2.2.2.2.2.2.2.2.2.2.2.1) (x.2.1.2.2.2.2.2.2.2.2.2.2.2.2.1) (x.2.1.2.2.2.2.2.2.2.2.2.2.2.2.2.1) (x.2.1.2.2.2.2.2.2.2.2.2.2.2.2.2.2.1) (x.2.1.2.2.2.2.2.2.2.2.2.2.2.2.2.2.2.1) (x.2.1.2.2.2.2.2.2.2.2.2.2.2.2.2.2.2.2.1) (x.2.1.2.2.2.2.2.2.2.2.2.2.2.2.2.2.2.2.2.1) (x.2.1.2.2.2.2.2.2.2.2.2.2.2.2.2.2.2.2.2.2.1) (x.2.1.2.2.2.2.2.2.2.2.2.2.2.2.2.2.2.2.2.2.2.1) (x.2.1.2.2.2.2.2.2.2.2.2.2.2.2.2.2.2.2.2.2.2.2.1)).run=some oy):ac Tryz.prog 112 (fm.aI pre F):=
 aD ar rW HO (f:=112) (fn:=Tryz.f112) (c:=aj Tryz.f112) (by kernel_rfl) (by kernel_rfl) (by kernel_rfl) (S:=fm) (k:=1) (by kernel_rfl) (λR hR=>(aA (c:=(aj Tryz.f112)) (by kernel_rfl) (id:=0) (by kernel_rfl) (aP ar rW HO (sh:=o3) hR (xs:=QU) (aC (by kernel_rfl) (by kernel_rfl) hR) aM af (n:=1000) (T:=o4) (λs Q=>ani s Q) (ok:=ok0) (f:=wo g0_r c0_r g0_0) h0) af)) (n:=1000) (sel:=KX) (λv o h=>by cases h;rfl) (pre:=pre) (F:=F) (T:=λx=>K0 ok0 g0_r c0_r g0_0 (x.1.1) (x.2.1.1) (x.2.1.2.1) (x.2.1.2.2.1) (x.2.1.2.2.2.1) (x.2.1.2.2.2.2.1) (x.2.1.2.2.2.2.2.1) (x.2.1.2.2.2.2.2.2.1) (x.2.1.2.2.2.2.2.2.2.1) (x.2.1.2.2.2.2.2.2.2.2.1) (x.2.1.2.2.2.2.2.2.2.2.2.1) (x.2.1.2.2.2.2.2.2.2.2.2.2.1) (x.2.1.2.2.2.2.2.2.2.2.2.2.2.1) (x.2.1.2.2.2.2.2.2.2.2.2.2.2.2.1) (x.2.1.2.2.2.2.2.2.2.2.2.2.2.2.2.1) (x.2.1.2.2.2.2.2.2.2.2.2.2.2.2.2.2.1) (x.2.1.2.2.2.2.2.2.2.2.2.2.2.2.2.2.2.1) (x.2.1.2.2.2.2.2.2.2.2.2.2.2.2.2.2.2.2.1) (x.2.1.2.2.2.2.2.2.2.2.2.2.2.2.2.2.2.2.2.1) (x.2.1.2.2.2.2.2.2.2.2.2.2.2.2.2.2.2.2.2.2.1) (x.2.1.2.2.2.2.2.2.2.2.2.2.2.2.2.2.2.2.2.2.2.1) (x.2.1.2.2.2.2.2.2.2.2.2.2.2.2.2.2.2.2.2.2.2.2.1)) (λx Q=>atZ ok0 g0_r c0_r g0_0 x Q) hF
def ui (l:List Pt) (i:aDs):Nat->Nat->Int
 |0,_=> -1
 |n+1,k=>cond (WQ i.1 (l.getD k Pj)) (k:Int) (ui l i n (k+1))
def KY (s:be):Bool:=decide (s.1.2.2.1=(s.1.1.length:Int)/\s.1.2.2.2.1=0/\s.1.1.length<=140737488355328)
def kE (l:List Pt) (i:aDs):Int:=ui l i l.length 0
def KZ (s:be):iS:=((kE s.1.1 s.2.1,()),s.2)
def QW (s:be):Bool:=decide (0<=kE s.1.1 s.2.1)
def QV (s:be):iT:=((),s.2)
def K1 (l:List Pt) (i:aDs) (k:Int):be:=((l,(),(l.length:Int),k,()),(i,()))
theorem RE (l:List Pt) (i:aDs):∀ n k,ui l i n k= -1\/0<=ui l i n k
 |0,_=>.inl rfl
 |n+1,k=>by
  unfold ui
  cases WQ i.1 (l.getD k Pj)
  ·exact RE l i n (k+1)
  ·right
   show (0:Int)<=(k:Int)
   omega
theorem YV (l:List Pt) (i:aDs) (hl:l.length<=140737488355328):∀ n k:Nat,k+n=l.length->
 ∃ m,al o4 m (K1 l i (k:Int))=some (cond (decide (0<=ui l i n k)) ⟨(.ret,nv),((ui l i n k,()),(i,()))⟩ ⟨(.exit 0,nw),((),(i,()))⟩)
 |0,k,h=>⟨1,aK (OT.aq (decide_eq_false (by dsimp only [K1];omega)))⟩
 |n+1,k,h=>by
  have hin:inB (k:Int) l.length=true:=aN (by omega)
  have hgd:∀ z:OT (Sum be aE),(gd [inB (k:Int) l.length] z).run=z.run:=λz=>ah (by rw [hin];rfl)
  unfold ui
  rcases (Bool.eq_false_or_eq_true (WQ i.1 (l.getD k Pj))).symm with hb|hb
  ·obtain ⟨m,hm⟩:=YV l i hl n (k+1) (by omega)
   rw [hb]
   refine ⟨m+1,aF ?_ hm⟩
   refine (OT.ao (decide_eq_true (by dsimp only [K1];omega))).trans ((hgd _).trans ((OT.aq hb).trans ((ah ?_).trans rfl)))
   simp only [List.all_cons,List.all_nil,Bool.and_true]
   exact aH (by dsimp only [K1];omega)
  ·rw [hb]
   have e:decide ((0:Int)<=cond true (k:Int) (ui l i n (k+1)))=true:=decide_eq_true (by show (0:Int)<=(k:Int);omega)
   rw [e]
   refine ⟨1,aK ?_⟩
   exact (OT.ao (decide_eq_true (by dsimp only [K1];omega))).trans ((hgd _).trans ((OT.ao hb).trans rfl))
theorem ank:∀ s:be,KY s=true->∃ m e,al o4 m s=some e/\(wo KZ QW QV s).run=some e:=by
 rintro ⟨⟨l,⟨⟩,n,k,⟨⟩⟩,⟨i,⟨⟩⟩⟩ h
 have h':=of_decide_eq_true h
 dsimp only at h'
 obtain ⟨rfl,rfl,hl⟩:=h'
 obtain ⟨m,hm⟩:=YV l i hl l.length 0 (by omega)
 refine ⟨m,_,hm,?_⟩
 show (OT.br (decide (0<=kE l i)) _ _:OT aE).run=some (cond (decide (0<=kE l i)) _ _)
 cases decide (0<=kE l i)<;>rfl
def zj (x:wq):Bool:=decide (x.1.1.length<=140737488355328)
def YU (x:wq):OT fm.Y:=.ok ⟨jI,((kE x.1.1 x.2.1,()),x.2)⟩
theorem anj:ac Tryz.prog 112 (fm.aI zj YU):=YT KY KZ QW QV ank _ _ λx oy hp ho=>by
 rw [<-ho]
 clear ho
 obtain ⟨⟨l,⟨⟩,⟨⟩⟩,⟨i,⟨⟩⟩⟩:=x
 have hl:l.length<=140737488355328:=of_decide_eq_true hp
 refine (ah ?_).trans ?_
 ·simp only [List.all_cons,List.all_nil,Bool.and_true]
  exact decide_eq_true ⟨rfl,rfl,hl⟩
 ·show (OT.br (decide (0<=kE l i)) (.ok ⟨jI,((kE l i,()),(i,()))⟩) (.ok ⟨jI,(((-1:Int),()),(i,()))⟩):OT fm.Y).run=some ⟨jI,((kE l i,()),(i,()))⟩
  rcases RE l i l.length 0 with h|h
  ·have h:kE l i= -1:=h
   rw [h]
   rfl
  ·exact OT.ao (decide_eq_true h)
def tB:cj:=(fm.aI zj YU)
theorem Up:ac Tryz.prog 112 tB:=anj
theorem Uo:aG tB:=aB
def ve:Env:=ay 112 tB xN
theorem vd:aQ Tryz.prog ve:=ag Up rW
theorem yD:ax ve:=ae Uo Dr
theorem Ww:aW Tryz.prog te ve:=aL follows ar vd yD
def iV:aw:=⟨[.val false (.list (.prod .elem (.prod .elem .bool))),.fn 71 [0]],[(0,aKl)],false,1,true⟩
abbrev Fg:Type:=((List ((aa×(aa×Bool))))×(Unit)×Unit)×(((Int)×(Int)×(List ((aa×(aa×Bool))))×(UInt64)×(UInt64)×(UInt64)×(UInt64)×(UInt64)×(UInt64)×(UInt64)×(UInt64)×(Bool)×(UInt64)×(UInt64)×(UInt64)×(UInt64)×(UInt64)×(UInt64)×(UInt64)×(UInt64)×(Bool)×Unit)×Unit)
def K7:az:=⟨[.val false .bool],[(0,.cells [.val false .int,.val false .int,.val false (.list (.prod .elem (.prod .elem .bool))),.val false .u64,.val false .u64,.val false .u64,.val false .u64,.val false .u64,.val false .u64,.val false .u64,.val false .u64,.val false .bool,.val false .u64,.val false .u64,.val false .u64,.val false .u64,.val false .u64,.val false .u64,.val false .u64,.val false .u64,.val false .bool])],false⟩
def QZ:SV->Option az:=λ_=>some K7
def Us (a0:List ((aa×(aa×Bool)))) (c0_0:Int) (c0_1:Int) (c0_2:List ((aa×(aa×Bool)))) (c0_3:UInt64) (c0_4:UInt64) (c0_5:UInt64) (c0_6:UInt64) (c0_7:UInt64) (c0_8:UInt64) (c0_9:UInt64) (c0_10:UInt64) (c0_11:Bool) (c0_12:UInt64) (c0_13:UInt64) (c0_14:UInt64) (c0_15:UInt64) (c0_16:UInt64) (c0_17:UInt64) (c0_18:UInt64) (c0_19:UInt64) (c0_20:Bool):OT iV.Y:=
 let z0:Int×Int×List (aa×aa×Bool)×UInt64×UInt64×UInt64×UInt64×UInt64×UInt64×UInt64×UInt64×Bool×UInt64×UInt64×UInt64×UInt64×UInt64×UInt64×UInt64×UInt64×Bool×PUnit:=(c0_0,c0_1,c0_2,c0_3,c0_4,c0_5,c0_6,c0_7,c0_8,c0_9,c0_10,c0_11,c0_12,c0_13,c0_14,c0_15,c0_16,c0_17,c0_18,c0_19,c0_20,())
 (gd [zj ((a0,(),()),z0,())] (.ok ⟨K7,((decide ((0:Int)<=kE a0 z0),()),((c0_0,(c0_1,(c0_2,(c0_3,(c0_4,(c0_5,(c0_6,(c0_7,(c0_8,(c0_9,(c0_10,(c0_11,(c0_12,(c0_13,(c0_14,(c0_15,(c0_16,(c0_17,(c0_18,(c0_19,(c0_20,()))))))))))))))))))))),()))⟩))
theorem aAF (x:Fg) (Q:iV.Y->Prop):wpf te ve av 1000 Tryz.f72 (iV.inp.inj x).tm (iV.inp.inj x).hp (fnK iV QZ Q) (λ_ _=>False)=(Us (x.1.1) (x.2.1.1) (x.2.1.2.1) (x.2.1.2.2.1) (x.2.1.2.2.2.1) (x.2.1.2.2.2.2.1) (x.2.1.2.2.2.2.2.1) (x.2.1.2.2.2.2.2.2.1) (x.2.1.2.2.2.2.2.2.2.1) (x.2.1.2.2.2.2.2.2.2.2.1) (x.2.1.2.2.2.2.2.2.2.2.2.1) (x.2.1.2.2.2.2.2.2.2.2.2.2.1) (x.2.1.2.2.2.2.2.2.2.2.2.2.2.1) (x.2.1.2.2.2.2.2.2.2.2.2.2.2.2.1) (x.2.1.2.2.2.2.2.2.2.2.2.2.2.2.2.1) (x.2.1.2.2.2.2.2.2.2.2.2.2.2.2.2.2.1) (x.2.1.2.2.2.2.2.2.2.2.2.2.2.2.2.2.2.1) (x.2.1.2.2.2.2.2.2.2.2.2.2.2.2.2.2.2.2.1) (x.2.1.2.2.2.2.2.2.2.2.2.2.2.2.2.2.2.2.2.1) (x.2.1.2.2.2.2.2.2.2.2.2.2.2.2.2.2.2.2.2.2.1) (x.2.1.2.2.2.2.2.2.2.2.2.2.2.2.2.2.2.2.2.2.2.1) (x.2.1.2.2.2.2.2.2.2.2.2.2.2.2.2.2.2.2.2.2.2.2.1)).wpR Q:=by kernel_rfl
theorem ad4 (pre:Fg->Bool) (F:Fg->OT iV.Y) (hF:∀ (x:Fg) oy,pre x=true->(F x).run=some oy->(Us (x.1.1) (x.2.1.1) (x.2.1.2.1) (x.2.1.2.2.1) (x.2.1.2.2.2.1) (x.2.1.2.2.2.2.1) (x.2.1.2.2.2.2.2.1) (x.2.1.2.2.2.2.2.2.1) (x.2.1.2.2.2.2.2.2.2.1) (x.2.1.2.2.2.2.2.2.2.2.1) (x.2.1.2.2.2.2.2.2.2.2.2.1) (x.2.1.2.2.2.2.2.2.2.2.2.2.1) (x.2.1.2.2.2.2.2.2.2.2.2.2.2.1) (x.2.1.2.2.2.2.2.2.2.2.2.2.2.2.1) (x.2.1.2.2.2.2.2.2.2.2.2.2.2.2.2.1) (x.2.1.2.2.2.2.2.2.2.2.2.2.2.2.2.2.1) (x.2.1.2.2.2.2.2.2.2.2.2.2.2.2.2.2.2.1) (x.2.1.2.2.2.2.2.2.2.2.2.2.2.2.2.2.2.2.1) (x.2.1.2.2.2.2.2.2.2.2.2.2.2.2.2.2.2.2.2.1) (x.2.1.2.2.2.2.2.2.2.2.2.2.2.2.2.2.2.2.2.2.1) (x.2.1.2.2.2.2.2.2.2.2.2.2.2.2.2.2.2.2.2.2.2.1) (x.2.1.2.2.2.2.2.2.2.2.2.2.2.2.2.2.2.2.2.2.2.2.1)).run=some oy):ac Tryz.prog 72 (iV.aI pre F):=
 aD ar vd Ww (f:=72) (fn:=Tryz.f72) (c:=aj Tryz.f72) (by kernel_rfl) (by kernel_rfl) (by kernel_rfl) (S:=iV) (k:=1) (by kernel_rfl) (λR hR=>af) (n:=1000) (sel:=QZ) (λv o h=>by cases h;rfl) (pre:=pre) (F:=F) (T:=λx=>Us (x.1.1) (x.2.1.1) (x.2.1.2.1) (x.2.1.2.2.1) (x.2.1.2.2.2.1) (x.2.1.2.2.2.2.1) (x.2.1.2.2.2.2.2.1) (x.2.1.2.2.2.2.2.2.1) (x.2.1.2.2.2.2.2.2.2.1) (x.2.1.2.2.2.2.2.2.2.2.1) (x.2.1.2.2.2.2.2.2.2.2.2.1) (x.2.1.2.2.2.2.2.2.2.2.2.2.1) (x.2.1.2.2.2.2.2.2.2.2.2.2.2.1) (x.2.1.2.2.2.2.2.2.2.2.2.2.2.2.1) (x.2.1.2.2.2.2.2.2.2.2.2.2.2.2.2.1) (x.2.1.2.2.2.2.2.2.2.2.2.2.2.2.2.2.1) (x.2.1.2.2.2.2.2.2.2.2.2.2.2.2.2.2.2.1) (x.2.1.2.2.2.2.2.2.2.2.2.2.2.2.2.2.2.2.1) (x.2.1.2.2.2.2.2.2.2.2.2.2.2.2.2.2.2.2.2.1) (x.2.1.2.2.2.2.2.2.2.2.2.2.2.2.2.2.2.2.2.2.1) (x.2.1.2.2.2.2.2.2.2.2.2.2.2.2.2.2.2.2.2.2.2.1) (x.2.1.2.2.2.2.2.2.2.2.2.2.2.2.2.2.2.2.2.2.2.2.1)) (λx Q=>aAF x Q) hF
def axg (l:List Pt) (i:aDs):Bool:=decide (0<=kE l i)
def Ff (x:Fg):Bool:=decide (x.1.1.length<=140737488355328)
def ajE (x:Fg):OT iV.Y:=.ok ⟨K7,((axg x.1.1 x.2.1,()),x.2)⟩
theorem at2:ac Tryz.prog 72 (iV.aI Ff ajE):=ad4 _ _ λx oy hp ho=>by
 rw [<-ho]
 clear ho
 refine (ah ?_).trans rfl
 simp only [List.all_cons,List.all_nil,Bool.and_true]
 exact hp
def zk:cj:=(iV.aI Ff ajE)
theorem YZ:ac Tryz.prog 72 zk:=at2
theorem YY:aG zk:=aB
def Dz:Env:=ay 72 zk ve
theorem Aj:aQ Tryz.prog Dz:=ag YZ vd
theorem Dy:ax Dz:=ae YY yD
theorem abE:aW Tryz.prog te Dz:=aL follows ar Aj Dy
def gW:aw:=⟨[.val true aHR],[],true,0,false⟩
abbrev Fj:Type:=(((Int×(Int×(List ((aa×(aa×Bool)))×((aa×(aa×Bool))×(aa×(aa×Bool)))))))×Unit)×(Unit)
def fZ:az:=⟨[.val false .int],[],false⟩
def Q1:SV->Option az:=λ_=>some fZ
def BO (a0:(Int×(Int×(List ((aa×(aa×Bool)))×((aa×(aa×Bool))×(aa×(aa×Bool))))))):OT gW.Y:=
 let z0:Int×Int×List (aa×aa×Bool)×UInt64×UInt64×UInt64×UInt64×UInt64×UInt64×UInt64×UInt64×Bool×UInt64×UInt64×UInt64×UInt64×UInt64×UInt64×UInt64×UInt64×Bool×PUnit:=(a0.fst,a0.snd.fst,a0.snd.snd.fst,a0.snd.snd.snd.fst.fst.w0,a0.snd.snd.snd.fst.fst.w1,a0.snd.snd.snd.fst.fst.w2,a0.snd.snd.snd.fst.fst.w3,a0.snd.snd.snd.fst.snd.fst.w0,a0.snd.snd.snd.fst.snd.fst.w1,a0.snd.snd.snd.fst.snd.fst.w2,a0.snd.snd.snd.fst.snd.fst.w3,a0.snd.snd.snd.fst.snd.snd,a0.snd.snd.snd.snd.fst.w0,a0.snd.snd.snd.snd.fst.w1,a0.snd.snd.snd.snd.fst.w2,a0.snd.snd.snd.snd.fst.w3,a0.snd.snd.snd.snd.snd.fst.w0,a0.snd.snd.snd.snd.snd.fst.w1,a0.snd.snd.snd.snd.snd.fst.w2,a0.snd.snd.snd.snd.snd.fst.w3,a0.snd.snd.snd.snd.snd.snd,())
 (.br (ap a0.fst)
 (.br (decide (a0.snd.fst<(0:Int)))
  (.ok ⟨fZ,(((60:Int),()),())⟩)
  (.br (decide ((5:Int)<a0.snd.fst))
   (.ok ⟨fZ,(((60:Int),()),())⟩)
   (gd [decide ((0:Int)<=a0.snd.fst)] (.br (!(↑(List.length a0.snd.snd.fst):Int)==Rr (1:Int) a0.snd.fst)
    (.ok ⟨fZ,(((90:Int),()),())⟩)
    (gd [Ff ((a0.snd.snd.fst,(),()),z0,())] (.br (axg a0.snd.snd.fst z0)
     (.ok ⟨fZ,(((90:Int),()),())⟩)
     (.br (WQ a0.fst a0.snd.snd.snd.fst)
      (.ok ⟨fZ,(((90:Int),()),())⟩)
      (.br (WQ a0.fst a0.snd.snd.snd.snd)
       (.ok ⟨fZ,(((90:Int),()),())⟩)
       (.ok ⟨fZ,(((0:Int),()),())⟩)))))))))
 (.ok ⟨fZ,(((40:Int),()),())⟩))
theorem aAK (x:Fj) (Q:gW.Y->Prop):wpf te Dz av 1000 Tryz.f35 (gW.inp.inj x).tm (gW.inp.inj x).hp (fnK gW Q1 Q) (λ_ _=>False)=(BO (x.1.1)).wpR Q:=by kernel_rfl
theorem ad7 (pre:Fj->Bool) (F:Fj->OT gW.Y) (hF:∀ (x:Fj) oy,pre x=true->(F x).run=some oy->(BO (x.1.1)).run=some oy):ac Tryz.prog 35 (gW.aI pre F):=
 aD ar Aj abE (f:=35) (fn:=Tryz.f35) (c:=aj Tryz.f35) (by kernel_rfl) (by kernel_rfl) (by kernel_rfl) (S:=gW) (k:=0) (by kernel_rfl) (λR hR=>af) (n:=1000) (sel:=Q1) (λv o h=>by cases h;rfl) (pre:=pre) (F:=F) (T:=λx=>BO (x.1.1)) (λx Q=>aAK x Q) hF
abbrev axx:Type:=Int×(Int×(List Pt×(Pt×Pt)))
theorem alG (l:List Pt) (i:aDs):∀ n k:Nat,k+n=l.length->decide (0<=ui l i n k)=(l.drop k).any (WQ i.1)
 |0,k,h=>by
  rw [List.drop_eq_nil_of_le (by omega)]
  rfl
 |n+1,k,h=>by
  have hk:k<l.length:=by omega
  have e1:l.drop k=l[k]::l.drop (k+1):=List.drop_eq_getElem_cons hk
  have e3:l.getD k Pj=l[k]:=by rw [List.getD_eq_getElem?_getD,List.getElem?_eq_getElem hk];rfl
  rw [e1,List.any_cons]
  unfold ui
  rw [e3]
  cases WQ i.1 l[k]
  ·rw [cond_false,Bool.false_or]
   exact alG l i n (k+1) (by omega)
  ·rw [cond_true,Bool.true_or]
   exact decide_eq_true (by omega)
theorem aHJ (l:List Pt) (i:aDs):axg l i=l.any (WQ i.1):=alG l i l.length 0 (by omega)
def uF (p:axx):Int:=cond (ap p.1) (cond (decide (p.2.1<0)) 60 (cond (decide (5<p.2.1)) 60 (cond (!((p.2.2.1.length:Int)==Rr 1 p.2.1)) 90 (cond (p.2.2.1.any (WQ p.1)) 90 (cond (WQ p.1 p.2.2.2.1) 90 (cond (WQ p.1 p.2.2.2.2) 90 0)))))) 40
def wz (x:Fj):Bool:=decide (x.1.1.2.2.1.length<=140737488355328)
def ajF (x:Fj):OT gW.Y:=.ok ⟨fZ,((uF x.1.1,()),())⟩
theorem at8:ac Tryz.prog 35 (gW.aI wz ajF):=ad7 _ _ λx oy hp ho=>by
 rw [<-ho]
 clear ho
 obtain ⟨⟨p,⟨⟩⟩,⟨⟩⟩:=x
 show (BO p).run=some (⟨fZ,((uF p,()),())⟩:gW.Y)
 have hp:decide (p.2.2.1.length<=140737488355328)=true:=hp
 unfold BO uF
 simp only [aHJ]
 rcases (Bool.eq_false_or_eq_true (ap p.1)).symm with h1|h1
 ·rw [h1];exact (OT.aq rfl).trans rfl
 ·rw [h1]
  refine (OT.ao rfl).trans ?_
  by_cases h2:p.2.1<0
  ·rw [decide_eq_true h2];exact (OT.ao rfl).trans rfl
  ·rw [decide_eq_false h2]
   refine (OT.aq rfl).trans ?_
   by_cases h3:5<p.2.1
   ·rw [decide_eq_true h3];exact (OT.ao rfl).trans rfl
   ·rw [decide_eq_false h3]
    refine (OT.aq rfl).trans ((ah (by rw [decide_eq_true (show 0<=p.2.1 by omega)];rfl)).trans ?_)
    rcases (Bool.eq_false_or_eq_true (!((p.2.2.1.length:Int)==Rr 1 p.2.1))).symm with h4|h4
    ·rw [h4]
     refine (OT.aq rfl).trans ((ah ?_).trans ?_)
     ·simp only [List.all_cons,List.all_nil,Bool.and_true]
      exact hp
     ·rcases (Bool.eq_false_or_eq_true (p.2.2.1.any (WQ p.1))).symm with h5|h5
      ·rw [h5]
       refine (OT.aq rfl).trans ?_
       rcases (Bool.eq_false_or_eq_true (WQ p.1 p.2.2.2.1)).symm with h6|h6
       ·rw [h6]
        refine (OT.aq rfl).trans ?_
        rcases (Bool.eq_false_or_eq_true (WQ p.1 p.2.2.2.2)).symm with h7|h7
        ·rw [h7];exact (OT.aq rfl).trans rfl
        ·rw [h7];exact (OT.ao rfl).trans rfl
       ·rw [h6];exact (OT.ao rfl).trans rfl
      ·rw [h5];exact (OT.ao rfl).trans rfl
    ·rw [h4];exact (OT.ao rfl).trans rfl
def zn:cj:=(gW.aI wz ajF)
theorem Y4:ac Tryz.prog 35 zn:=at8
theorem Y3:aG zn:=aB
def xP:Env:=ay 35 zn Dz
theorem rY:aQ Tryz.prog xP:=ag Y4 Aj
theorem DA:ax xP:=ae Y3 Dy
theorem HS:aW Tryz.prog te xP:=aL follows ar rY DA
def mh:aw:=⟨[.val false (.list (.prod .elem (.prod .elem .bool))),.val false (.list (.prod .elem (.prod .elem .bool)))],[],true,0,false⟩
abbrev QS:Type:=((List ((aa×(aa×Bool))))×(List ((aa×(aa×Bool))))×Unit)×(Unit)
def BH:Shape:=⟨26,[(0,.val false (.list (.prod .elem (.prod .elem .bool)))),(1,.val false (.list (.prod .elem (.prod .elem .bool)))),(5,.val false .int)],[],0,true⟩
abbrev bL:Type:=((List ((aa×(aa×Bool))))×(List ((aa×(aa×Bool))))×(Int)×Unit)×(Unit)
def wj:Shape:=⟨26,[(4,.val false .bool)],[],0,true⟩
abbrev mf:Type:=((Bool)×Unit)×(Unit)
def wk:Shape:=⟨26,[],[],0,true⟩
abbrev mg:Type:=(Unit)×(Unit)
def ajB:SE->Option Shape:=fc [(0,wk)] (some wj)
def aAz (a0:List ((aa×(aa×Bool)))) (a1:List ((aa×(aa×Bool)))) (a5:Int):OT (Sum bL aE):=
 let z0:Nat:=List.length a0
 let z1:Nat:=Int.toNat a5
 let z2:aa:= {w0:=0,w1:=0,w2:=0,w3:=0}
 let z3:aa×aa×Bool:=(z2,z2,false)
 let z4:aa×aa×Bool:=List.getD a0 z1 z3
 let z5:=z4.fst
 let z6:aa×aa×Bool:=List.getD a1 z1 z3
 let z7:=z6.fst
 let z8:=z4.snd
 let z9:=z8.fst
 let z10:=z6.snd
 let z11:=z10.fst
 (.br (decide (a5<(↑z0:Int)))
 (gd [inB a5 z0,inB a5 (List.length a1)] (.br (!(z5.w0==z7.w0&&(z5.w1==z7.w1&&(z5.w2==z7.w2&&(z5.w3==z7.w3&&true)))&&(z9.w0==z11.w0&&(z9.w1==z11.w1&&(z9.w2==z11.w2&&(z9.w3==z11.w3&&true)))&&(z8.snd==z10.snd&&true))))
  (.ok (.inr ⟨(.ret,wj),((false,()),())⟩))
  (gd [inR (a5+(1:Int))] (.ok (.inl ((a0,(a1,(a5+(1:Int),()))),()))))))
 (.ok (.inr ⟨(.exit 0,wk),((),())⟩)))
def BJ (s:bL):OT (Sum bL aE):=aAz (s.1.1) (s.1.2.1) (s.1.2.2.1)
theorem aAw (s:bL) (Q:Sum bL aE->Prop):wps te xP av 1000 (aU (aj Tryz.f70) 0) (BH.inj s) (bU BH ajB (Q:Sum BH.T aE->Prop))=(BJ s).wpR Q:=by kernel_rfl
def wi (g0_r:bL->mf) (c0_r:bL->Bool) (g0_0:bL->mg) (s:bL):OT aE:=(.br (c0_r s) (.ok ⟨(.ret,wj),g0_r s⟩) (.ok ⟨(.exit 0,wk),g0_0 s⟩))
def BI:az:=⟨[.val false .bool],[],false⟩
def YM:SV->Option az:=λ_=>some BI
def ad0 (ok0:bL->Bool) (g0_r:bL->mf) (c0_r:bL->Bool) (g0_0:bL->mg) (a0:List ((aa×(aa×Bool)))) (a1:List ((aa×(aa×Bool)))):OT mh.Y:=
 let z0:(List (aa×aa×Bool)×List (aa×aa×Bool)×Int×PUnit)×PUnit:=((a0,a1,(0:Int),()),())
 (.br (!(↑(List.length a0):Int)==(↑(List.length a1):Int))
 (.ok ⟨BI,((false,()),())⟩)
 (gd [ok0 z0] (.br (c0_r z0)
  (.ok ⟨BI,(((g0_r z0).fst.fst,()),())⟩)
  (.ok ⟨BI,((true,()),())⟩))))
theorem aFX (ok0:bL->Bool) (g0_r:bL->mf) (c0_r:bL->Bool) (g0_0:bL->mg) (x:QS) (Q:mh.Y->Prop):wpf te xP (aO 0 (cf BH 0 ok0 (wi g0_r c0_r g0_0)) av) 1000 Tryz.f70 (mh.inp.inj x).tm (mh.inp.inj x).hp (fnK mh YM Q) (λ_ _=>False)=(ad0 ok0 g0_r c0_r g0_0 (x.1.1) (x.1.2.1)).wpR Q:=by kernel_rfl
theorem anc (ok0:bL->Bool) (g0_r:bL->mf) (c0_r:bL->Bool) (g0_0:bL->mg) (h0:∀ s:bL,ok0 s=true->∃ m e,al (BJ) m s=some e/\(wi g0_r c0_r g0_0 s).run=some e) (pre:QS->Bool) (F:QS->OT mh.Y) (hF:∀ (x:QS) oy,pre x=true->(F x).run=some oy->(ad0 ok0 g0_r c0_r g0_0 (x.1.1) (x.1.2.1)).run=some oy):ac Tryz.prog 70 (mh.aI pre F):=
 aD ar rY HS (f:=70) (fn:=Tryz.f70) (c:=aj Tryz.f70) (by kernel_rfl) (by kernel_rfl) (by kernel_rfl) (S:=mh) (k:=0) (by kernel_rfl) (λR hR=>(aA (c:=(aj Tryz.f70)) (by kernel_rfl) (id:=0) (by kernel_rfl) (aP ar rY HS (sh:=BH) hR (xs:=ajB) (aC (by kernel_rfl) (by kernel_rfl) hR) aM af (n:=1000) (T:=BJ) (λs Q=>aAw s Q) (ok:=ok0) (f:=wi g0_r c0_r g0_0) h0) af)) (n:=1000) (sel:=YM) (λv o h=>by cases h;rfl) (pre:=pre) (F:=F) (T:=λx=>ad0 ok0 g0_r c0_r g0_0 (x.1.1) (x.1.2.1)) (λx Q=>aFX ok0 g0_r c0_r g0_0 x Q) hF
def aDe (a b:Pt):Bool:=(a.1.w0==b.1.w0&&(a.1.w1==b.1.w1&&(a.1.w2==b.1.w2&&(a.1.w3==b.1.w3&&true)))&&(a.2.1.w0==b.2.1.w0&&(a.2.1.w1==b.2.1.w1&&(a.2.1.w2==b.2.1.w2&&(a.2.1.w3==b.2.1.w3&&true)))&&(a.2.2==b.2.2&&true)))
theorem I6 {a b:Pt}:aDe a b=true ↔ a=b:=by
 obtain ⟨⟨a0,a1,a2,a3⟩,⟨a4,a5,a6,a7⟩,a8⟩:=a
 obtain ⟨⟨b0,b1,b2,b3⟩,⟨b4,b5,b6,b7⟩,b8⟩:=b
 simp only [aDe,Bool.and_eq_true,beq_iff_eq,and_true,Prod.mk.injEq,aa.mk.injEq]
def YN (s:bL):Bool:=decide (s.1.2.2.1=0/\s.1.1.length=s.1.2.1.length/\s.1.1.length<=140737488355328)
def YO (_:bL):mf:=((false,()),())
def wl (s:bL):Bool:= !decide (s.1.1=s.1.2.1)
def ajC (_:bL):mg:=((),())
theorem QR {a b:List Pt} (hab:a.length=b.length) (hl:a.length<=140737488355328):∀ d i,i+d=a.length->
 ∃ m,al BJ m ((a,b,(i:Int),()),())=some (cond (decide (a.drop i=b.drop i)) ⟨(.exit 0,wk),((),())⟩ ⟨(.ret,wj),((false,()),())⟩)
 |0,i,h=>by
  refine ⟨1,?_⟩
  have h1:a.drop i= []:=List.drop_eq_nil_of_le (by omega)
  have h2:b.drop i= []:=List.drop_eq_nil_of_le (by omega)
  rw [h1,h2,decide_eq_true rfl]
  exact aK (OT.aq (decide_eq_false (by dsimp only;omega)))
 |d+1,i,h=>by
  have hi:i<a.length:=by omega
  have hi':i<b.length:=by omega
  have e1:a.drop i=a[i]::a.drop (i+1):=List.drop_eq_getElem_cons hi
  have e2:b.drop i=b[i]::b.drop (i+1):=List.drop_eq_getElem_cons hi'
  have g1:a.getD i Pj=a[i]:=by rw [List.getD_eq_getElem?_getD,List.getElem?_eq_getElem hi];rfl
  have g2:b.getD i Pj=b[i]:=by rw [List.getD_eq_getElem?_getD,List.getElem?_eq_getElem hi'];rfl
  have hg:∀ x:OT (Sum bL aE),(gd [inB (i:Int) a.length,inB (i:Int) b.length] x).run=x.run:=λx=>ah (by simp only [List.all_cons,List.all_nil,Bool.and_true,Bool.and_eq_true];exact ⟨aN (by omega),aN (by omega)⟩)
  by_cases hx:a[i]=b[i]
  ·obtain ⟨m,hm⟩:=QR hab hl d (i+1) (by omega)
   refine ⟨m+1,aF (s':=((a,b,((i+1:Nat):Int),()),())) ?_ ?_⟩
   ·refine (OT.ao (decide_eq_true (by dsimp only;omega))).trans ((hg _).trans ((OT.aq ?_).trans ((ah ?_).trans rfl)))
    ·show (!aDe (a.getD i Pj) (b.getD i Pj))=false
     rw [g1,g2,hx,I6.2 rfl]
     rfl
    ·simp only [List.all_cons,List.all_nil,Bool.and_true]
     exact aH (by omega)
   ·rw [hm,e1,e2,hx]
    simp only [List.cons.injEq,true_and]
  ·refine ⟨1,?_⟩
   have:decide (a.drop i=b.drop i)=false:=decide_eq_false (by rw [e1,e2];intro h;exact hx (List.cons.inj h).1)
   rw [this]
   refine aK ((OT.ao (decide_eq_true (by dsimp only;omega))).trans ((hg _).trans ((OT.ao ?_).trans rfl)))
   show (!aDe (a.getD i Pj) (b.getD i Pj))=true
   rw [g1,g2]
   cases hq:aDe a[i] b[i]
   ·rfl
   ·exact absurd (I6.1 hq) hx
theorem aAy:∀ s:bL,YN s=true->∃ m e,al BJ m s=some e/\(wi YO wl ajC s).run=some e:=by
 rintro ⟨⟨a,b,i,⟨⟩⟩,⟨⟩⟩ h
 have h':=of_decide_eq_true h
 dsimp only at h'
 obtain ⟨rfl,hab,hl⟩:=h'
 obtain ⟨m,hm⟩:=QR hab hl a.length 0 (by omega)
 refine ⟨m,_,hm,?_⟩
 simp only [List.drop_zero]
 by_cases hx:a=b
 ·simp only [wi,wl,hx,decide_true,Bool.not_true]
  rfl
 ·have:decide (a=b)=false:=decide_eq_false hx
  simp only [wi,wl,this,Bool.not_false]
  rfl
def KT (x:QS):Bool:=decide (x.1.1.length<=140737488355328)
def KU (x:QS):OT mh.Y:=.ok ⟨BI,((decide (x.1.1=x.1.2.1),()),())⟩
theorem aAx:ac Tryz.prog 70 (mh.aI KT KU):=anc YN YO wl ajC aAy _ _ λx oy hp ho=>by
 rw [<-ho]
 clear ho
 obtain ⟨⟨a,b,⟨⟩⟩,⟨⟩⟩:=x
 have hp':a.length<=140737488355328:=of_decide_eq_true hp
 by_cases hab:a.length=b.length
 ·refine (OT.aq (by simp [hab])).trans ((ah ?_).trans ?_)
  ·simp only [List.all_cons,List.all_nil,Bool.and_true]
   exact decide_eq_true ⟨rfl,hab,hp'⟩
  ·by_cases hx:a=b
   ·refine (OT.aq (by simp [wl,hx])).trans ?_
    simp only [KU,hx,decide_true]
   ·refine (OT.ao (by simp [wl,hx])).trans ?_
    have:decide (a=b)=false:=decide_eq_false hx
    simp only [KU,this]
    rfl
 ·refine (OT.ao (by simp;omega)).trans ?_
  have:decide (a=b)=false:=decide_eq_false λe=>hab (by rw [e])
  simp only [KU,this]
def E8:cj:=(mh.aI KT KU)
theorem adZ:ac Tryz.prog 70 E8:=aAx
theorem adY:aG E8:=aB
def N0:Env:=ay 70 E8 xP
theorem GA:aQ Tryz.prog N0:=ag adZ rY
theorem HQ:ax N0:=ae adY DA
theorem ago:aW Tryz.prog te N0:=aL follows ar GA HQ
def gA:aw:=⟨[.val true aHR,.val true aHR],[],true,0,false⟩
abbrev E7:Type:=(((Int×(Int×(List ((aa×(aa×Bool)))×((aa×(aa×Bool))×(aa×(aa×Bool)))))))×((Int×(Int×(List ((aa×(aa×Bool)))×((aa×(aa×Bool))×(aa×(aa×Bool)))))))×Unit)×(Unit)
def kj:az:=⟨[.val false .bool],[],false⟩
def QQ:SV->Option az:=λ_=>some kj
def BG (a0:(Int×(Int×(List ((aa×(aa×Bool)))×((aa×(aa×Bool))×(aa×(aa×Bool))))))) (a1:(Int×(Int×(List ((aa×(aa×Bool)))×((aa×(aa×Bool))×(aa×(aa×Bool))))))):OT gA.Y:=
 (.br (a0.fst==a1.fst)
 (.br (a0.snd.fst==a1.snd.fst)
  (gd [KT ((a0.snd.snd.fst,a1.snd.snd.fst,()),())] (.br (decide (a0.snd.snd.fst=a1.snd.snd.fst))
   (.br (a0.snd.snd.snd.fst.fst.w0==a1.snd.snd.snd.fst.fst.w0&&(a0.snd.snd.snd.fst.fst.w1==a1.snd.snd.snd.fst.fst.w1&&(a0.snd.snd.snd.fst.fst.w2==a1.snd.snd.snd.fst.fst.w2&&(a0.snd.snd.snd.fst.fst.w3==a1.snd.snd.snd.fst.fst.w3&&true)))&&(a0.snd.snd.snd.fst.snd.fst.w0==a1.snd.snd.snd.fst.snd.fst.w0&&(a0.snd.snd.snd.fst.snd.fst.w1==a1.snd.snd.snd.fst.snd.fst.w1&&(a0.snd.snd.snd.fst.snd.fst.w2==a1.snd.snd.snd.fst.snd.fst.w2&&(a0.snd.snd.snd.fst.snd.fst.w3==a1.snd.snd.snd.fst.snd.fst.w3&&true)))&&(a0.snd.snd.snd.fst.snd.snd==a1.snd.snd.snd.fst.snd.snd&&true)))
    (.ok ⟨kj,((a0.snd.snd.snd.snd.fst.w0==a1.snd.snd.snd.snd.fst.w0&&(a0.snd.snd.snd.snd.fst.w1==a1.snd.snd.snd.snd.fst.w1&&(a0.snd.snd.snd.snd.fst.w2==a1.snd.snd.snd.snd.fst.w2&&(a0.snd.snd.snd.snd.fst.w3==a1.snd.snd.snd.snd.fst.w3&&true)))&&(a0.snd.snd.snd.snd.snd.fst.w0==a1.snd.snd.snd.snd.snd.fst.w0&&(a0.snd.snd.snd.snd.snd.fst.w1==a1.snd.snd.snd.snd.snd.fst.w1&&(a0.snd.snd.snd.snd.snd.fst.w2==a1.snd.snd.snd.snd.snd.fst.w2&&(a0.snd.snd.snd.snd.snd.fst.w3==a1.snd.snd.snd.snd.snd.fst.w3&&true)))&&(a0.snd.snd.snd.snd.snd.snd==a1.snd.snd.snd.snd.snd.snd&&true)),()),())⟩)
    (.ok ⟨kj,((false,()),())⟩))
   (.ok ⟨kj,((false,()),())⟩)))
  (.ok ⟨kj,((false,()),())⟩))
 (.ok ⟨kj,((false,()),())⟩))
theorem aAv (x:E7) (Q:gA.Y->Prop):wpf te N0 av 1000 Tryz.f34 (gA.inp.inj x).tm (gA.inp.inj x).hp (fnK gA QQ Q) (λ_ _=>False)=(BG (x.1.1) (x.1.2.1)).wpR Q:=by kernel_rfl
theorem adX (pre:E7->Bool) (F:E7->OT gA.Y) (hF:∀ (x:E7) oy,pre x=true->(F x).run=some oy->(BG (x.1.1) (x.1.2.1)).run=some oy):ac Tryz.prog 34 (gA.aI pre F):=
 aD ar GA ago (f:=34) (fn:=Tryz.f34) (c:=aj Tryz.f34) (by kernel_rfl) (by kernel_rfl) (by kernel_rfl) (S:=gA) (k:=0) (by kernel_rfl) (λR hR=>af) (n:=1000) (sel:=QQ) (λv o h=>by cases h;rfl) (pre:=pre) (F:=F) (T:=λx=>BG (x.1.1) (x.1.2.1)) (λx Q=>aAv x Q) hF
def acC (p q:axx):Bool:=cond (p.1==q.1) (cond (p.2.1==q.2.1) (cond (decide (p.2.2.1=q.2.2.1)) (cond (aDe p.2.2.2.1 q.2.2.2.1) (aDe p.2.2.2.2 q.2.2.2.2) false) false) false) false
theorem al6 (p:axx):acC p p=true:=by
 unfold acC
 rw [beq_self_eq_true,beq_self_eq_true,decide_eq_true rfl,I6.2 rfl,I6.2 rfl]
 rfl
def E6 (x:E7):Bool:=decide (x.1.1.2.2.1.length<=140737488355328)
def Ul (x:E7):OT gA.Y:=.ok ⟨kj,((acC x.1.1 x.1.2.1,()),())⟩
theorem YK:ac Tryz.prog 34 (gA.aI E6 Ul):=adX _ _ λx oy hp ho=>by
 rw [<-ho]
 clear ho
 obtain ⟨⟨p,q,⟨⟩⟩,⟨⟩⟩:=x
 have hp:decide (p.2.2.1.length<=140737488355328)=true:=hp
 show (BG p q).run=some (⟨kj,((acC p q,()),())⟩:gA.Y)
 unfold BG acC
 rcases (Bool.eq_false_or_eq_true (p.1==q.1)).symm with h1|h1
 ·rw [h1];exact (OT.aq rfl).trans rfl
 ·rw [h1]
  refine (OT.ao rfl).trans ?_
  rcases (Bool.eq_false_or_eq_true (p.2.1==q.2.1)).symm with h2|h2
  ·rw [h2];exact (OT.aq rfl).trans rfl
  ·rw [h2]
   refine (OT.ao rfl).trans ((ah ?_).trans ?_)
   ·simp only [List.all_cons,List.all_nil,Bool.and_true]
    exact hp
   ·rcases (Bool.eq_false_or_eq_true (decide (p.2.2.1=q.2.2.1))).symm with h3|h3
    ·rw [h3];exact (OT.aq rfl).trans rfl
    ·rw [h3]
     refine (OT.ao rfl).trans ?_
     rcases (Bool.eq_false_or_eq_true (aDe p.2.2.2.1 q.2.2.2.1)).symm with h4|h4
     ·rw [h4];exact (OT.aq h4).trans rfl
     ·rw [h4];exact (OT.ao h4).trans rfl
def zi:cj:=(gA.aI E6 Ul)
theorem YL:ac Tryz.prog 34 zi:=YK
theorem YJ:aG zi:=aB
def xO:Env:=ay 34 zi N0
theorem rX:aQ Tryz.prog xO:=ag YL GA
theorem Dw:ax xO:=ae YJ HQ
theorem HP:aW Tryz.prog te xO:=aL follows ar rX Dw
end Go.Proofs.YtohjofabochgfaaGreat
