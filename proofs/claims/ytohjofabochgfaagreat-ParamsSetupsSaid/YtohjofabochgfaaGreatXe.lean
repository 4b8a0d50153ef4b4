/- A symbolic machine for Go code over plain data, and functions of the program as it shows them. No statement is proved in this file. -/
import Derived.KernelRfl
import Derived.Test.YtohjofabochgfaaGreatXd
set_option linter.unusedSimpArgs false
set_option linter.unusedVariables false
set_option linter.unusedSectionVars false

namespace Go.Proofs.YtohjofabochgfaaGreat
theorem Ko {α:Type} [BEq α] [LawfulBEq α]:∀ {l1 l2:List α},l1.Nodup->(∀ x ∈ l1,x ∈ l2)->l2.length<=l1.length->l1.Perm l2
 | [],l2,_,_,h=>by
  have:l2= []:=List.length_eq_zero_iff.1 (Nat.le_zero.1 h)
  rw [this]
 |a::t,l2,hn,hs,hl=>by
  have ha:a ∈ l2:=hs a (List.mem_cons_self ..)
  have hp:l2.Perm (a::l2.erase a):=List.perm_cons_erase ha
  rw [List.nodup_cons] at hn
  have hl2:=List.length_erase_of_mem ha
  have hpos:0<l2.length:=List.length_pos_of_mem ha
  have ih:t.Perm (l2.erase a):=Ko hn.2 (λx hx=>by
   have hne:x≠a:=λe=>hn.1 (e▸hx)
   exact (List.mem_erase_of_ne hne).2 (hs x (List.mem_cons_of_mem _ hx))) (by rw [List.length_cons] at hl;omega)
  exact (ih.cons a).trans hp.symm
def Pr (p:Nat):Prop:=2<=p/\∀ d,d∣p->d=1\/d=p
theorem Pr.pos {p:Nat} (h:Pr p):0<p:=by have:=h.1;omega
theorem Pr.cop {p a:Nat} (h:Pr p) (ha:¬p∣a):Nat.Coprime p a:=by
 rcases h.2 (Nat.gcd p a) (Nat.gcd_dvd_left ..) with e|e
 ·exact e
 ·exact absurd (e▸Nat.gcd_dvd_right p a) ha
theorem Pr.aj6 {p a b:Nat} (h:Pr p) (hd:p∣a*b):p∣a\/p∣b:=by
 by_cases ha:p∣a
 ·exact .inl ha
 ·exact .inr ((h.cop ha).dvd_of_dvd_mul_left hd)
def xr:List Nat->Nat
 | []=>1
 |a::l=>a*xr l
theorem amm {l1 l2:List Nat} (h:l1.Perm l2):xr l1=xr l2:=by
 induction h with
 |nil=>rfl
 |cons x _ ih=>simp only [xr,ih]
 |swap x y l=>simp only [xr];rw [<-Nat.mul_assoc,<-Nat.mul_assoc,Nat.mul_comm x y]
 |trans _ _ a b=>exact a.trans b
theorem XU (p a:Nat):∀ l:List Nat,xr (l.map λx=>a*x%p)%p=a^l.length*xr l%p
 | []=>by simp [xr]
 |x::l=>by
  have ih:=XU p a l
  simp only [List.map_cons,xr,List.length_cons]
  rw [Nat.mul_mod,Nat.mod_mod,ih,<-Nat.mul_mod,Nat.pow_succ]
  congr 1
  rw [Nat.mul_assoc,Nat.mul_assoc,Nat.mul_left_comm x]
  rw [Nat.mul_left_comm a]
theorem XT {p:Nat} (h:Pr p):∀ l:List Nat,(∀ x ∈ l,¬p∣x)->¬p∣xr l
 | [],_,hd=>by
  have:=Nat.le_of_dvd (by decide) hd
  have:=h.1
  simp only [xr] at*
  omega
 |x::l,hx,hd=>by
  rcases h.aj6 hd with h1|h1
  ·exact hx x (List.mem_cons_self ..) h1
  ·exact XT h l (λy hy=>hx y (List.mem_cons_of_mem _ hy)) h1
theorem amZ {p a b:Nat} (hab:a<=b) (h:a%p=b%p):p∣b-a:=by
 have h1:=Nat.div_add_mod a p
 have h2:=Nat.div_add_mod b p
 refine ⟨b/p-a/p,?_⟩
 rw [Nat.mul_sub]
 omega
theorem qK {p x:Nat} (h0:0<x) (h1:x<p):¬p∣x:=λh=>by
 have:=Nat.le_of_dvd h0 h
 omega
theorem atT {p a:Nat} (h:Pr p) (ha:¬p∣a) {x y:Nat} (hx:x<p) (hy:y<p) (e:a*x%p=a*y%p):x=y:=by
 have aux:∀ {x y:Nat},x<p->y<p->x<=y->a*x%p=a*y%p->x=y:=λ{x y} hx hy hxy e=>by
  have hd:=amZ (Nat.mul_le_mul_left a hxy) e
  rw [<-Nat.mul_sub] at hd
  rcases h.aj6 hd with h1|h1
  ·exact absurd h1 ha
  ·by_cases h0:y-x=0
   ·omega
   ·exact absurd h1 (qK (by omega) (by omega))
 rcases Nat.le_total x y with hxy|hxy
 ·exact aux hx hy hxy e
 ·exact (aux hy hx hxy e.symm).symm
theorem Gy {α β:Type} {f:α->β}:∀ {l:List α},l.Nodup->(∀ x ∈ l,∀ y ∈ l,f x=f y->x=y)->(l.map f).Nodup
 | [],_,_=>List.nodup_nil
 |a::l,hn,hi=>by
  rw [List.nodup_cons] at hn
  rw [List.map_cons,List.nodup_cons]
  refine ⟨λhm=> ?_,Gy hn.2 λx hx y hy=>hi x (List.mem_cons_of_mem _ hx) y (List.mem_cons_of_mem _ hy)⟩
  obtain ⟨b,hb,e⟩:=List.mem_map.1 hm
  have:=hi a (List.mem_cons_self ..) b (List.mem_cons_of_mem _ hb) e.symm
  exact hn.1 (this▸hb)
theorem auG {p a:Nat} (h:Pr p) (ha:¬p∣a):a^(p-1)%p=1:=by
 have hp:=h.1
 have hn:(List.range' 1 (p-1)).Nodup:=List.nodup_range' ..
 have hm:((List.range' 1 (p-1)).map λx=>a*x%p).Nodup:=Gy hn λx hx y hy e=>by
  rw [List.mem_range'_1] at hx hy
  exact atT h ha (by omega) (by omega) e
 have hperm:=Ko (l2:=List.range' 1 (p-1)) hm (λy hy=>by
  obtain ⟨x,hx,rfl⟩:=List.mem_map.1 hy
  rw [List.mem_range'_1] at hx⊢
  have hlt:=Nat.mod_lt (a*x) h.pos
  have hne:a*x%p≠0:=λe=>by
   rcases h.aj6 (Nat.dvd_of_mod_eq_zero e) with h1|h1
   ·exact ha h1
   ·exact qK (by omega) (by omega) h1
  omega) (by rw [List.length_map];exact Nat.le_refl _)
 have e:=XU p a (List.range' 1 (p-1))
 rw [amm hperm,List.length_range'] at e
 have hnot:¬p∣xr (List.range' 1 (p-1)):=XT h _ λx hx=>by
  rw [List.mem_range'_1] at hx
  exact qK (by omega) (by omega)
 have hmul:∀ z,z*xr (List.range' 1 (p-1))%p=xr (List.range' 1 (p-1))*(z%p)%p:=λz=>by
  rw [Nat.mul_comm,Nat.mul_mod_mod]
 rw [hmul] at e
 have e1:xr (List.range' 1 (p-1))%p=xr (List.range' 1 (p-1))*1%p:=by rw [Nat.mul_one]
 rw [e1] at e
 exact (atT h hnot (by omega) (Nat.mod_lt _ h.pos) e).symm
theorem Lb:∀ (k n:Nat),2<=n->n<=k->∃ r,Pr r/\r∣n
 |0,n,h2,hk=>by omega
 |k+1,n,h2,hk=>by
  by_cases hp:Pr n
  ·exact ⟨n,hp,Nat.dvd_refl _⟩
  ·have:∃ d,d∣n/\d≠1/\d≠n:=by
    apply Classical.byContradiction
    intro hc
    refine hp ⟨h2,λd hd=> ?_⟩
    apply Classical.byContradiction
    intro hd2
    exact hc ⟨d,hd,λe=>hd2 (.inl e),λe=>hd2 (.inr e)⟩
   obtain ⟨d,hd,h1,h3⟩:=this
   have hle:=Nat.le_of_dvd (by omega) hd
   have h0:d≠0:=λe=>by subst e;have:=Nat.eq_zero_of_zero_dvd hd;omega
   obtain ⟨r,hr,hrd⟩:=Lb k d (by omega) (by omega)
   exact ⟨r,hr,Nat.dvd_trans hrd hd⟩
theorem Wh {n:Nat} (h2:2<=n) (hp:¬Pr n):∃ r,Pr r/\r∣n/\r*r<=n:=by
 have:∃ d,d∣n/\d≠1/\d≠n:=by
  apply Classical.byContradiction
  intro hc
  refine hp ⟨h2,λd hd=> ?_⟩
  apply Classical.byContradiction
  intro hd2
  exact hc ⟨d,hd,λe=>hd2 (.inl e),λe=>hd2 (.inr e)⟩
 obtain ⟨d,⟨e,rfl⟩,h1,h3⟩:=this
 have hd0:d≠0:=λe'=>by subst e';omega
 have he0:e≠0:=λe'=>by subst e';omega
 have he1:e≠1:=λe'=>by subst e';omega
 rcases Nat.le_total d e with hde|hde
 ·obtain ⟨r,hr,hrd⟩:=Lb d d (by omega) (Nat.le_refl _)
  have hle:=Nat.le_of_dvd (by omega) hrd
  exact ⟨r,hr,Nat.dvd_trans hrd (Nat.dvd_mul_right ..),Nat.le_trans (Nat.mul_le_mul hle hle) (Nat.mul_le_mul_left d hde)⟩
 ·obtain ⟨r,hr,hrd⟩:=Lb e e (by omega) (Nat.le_refl _)
  have hle:=Nat.le_of_dvd (by omega) hrd
  exact ⟨r,hr,Nat.dvd_trans hrd (Nat.dvd_mul_left ..),Nat.le_trans (Nat.mul_le_mul hle hle) (Nat.mul_le_mul_right e hde)⟩
theorem aEX {r a:Nat} (hr:2<=r) (m k:Nat):a^m%r=1->a^k%r=1->a^Nat.gcd m k%r=1:=by
 induction m,k using Nat.gcd.induction with
 |H0 n=>intro _ h;rw [Nat.gcd_zero_left];exact h
 |H1 m n hm ih=>
  intro h1 h2
  rw [Nat.gcd_rec]
  refine ih ?_ h1
  have e:a^n%r=a^(n%m)%r:=by
   conv=>lhs;rw [<-Nat.div_add_mod n m,Nat.pow_add,Nat.pow_mul,Nat.mul_mod,Nat.pow_mod,h1,Nat.one_pow,Nat.mod_eq_of_lt (show 1<r by omega),Nat.one_mul,Nat.mod_mod]
  rw [<-e]
  exact h2
theorem azF {n q e a m:Nat} (hn2:2<=n) (hq:Pr q) (he:n-1=q^(e+1)*m) (h1:a^(n-1)%n=1) (h2:Nat.gcd (a^(q^e*m)%n+n-1) n=1)
 {r:Nat} (hr:Pr r) (hd:r∣n):q^(e+1)∣r-1:=by
 have hr2:=hr.1
 have ha1:a^(n-1)%r=1:=by
  have:=congrArg (· %r) h1
  simp only [Nat.mod_mod_of_dvd _ hd] at this
  rw [this,Nat.mod_eq_of_lt (by omega)]
 have hna:¬r∣a:=λh=>by
  have:r∣a^(n-1):=Nat.dvd_trans h (by
   have:=Nat.pow_dvd_pow a (show 1<=n-1 by omega)
   rwa [Nat.pow_one] at this)
  rw [Nat.mod_eq_zero_of_dvd this] at ha1
  omega
 have hg:=aEX hr2 _ _ ha1 (auG hr hna)
 obtain ⟨h,hh⟩:=Nat.gcd_dvd_left (n-1) (r-1)
 by_cases hqh:q∣h
 ·obtain ⟨k,rfl⟩:=hqh
  have hk:q^e*m=Nat.gcd (n-1) (r-1)*k:=by
   have:q*(q^e*m)=q*(Nat.gcd (n-1) (r-1)*k):=by
    rw [<-Nat.mul_assoc,<-Nat.pow_succ',<-he,Nat.mul_left_comm q,<-hh]
   exact Nat.eq_of_mul_eq_mul_left hq.pos this
  have hone:a^(q^e*m)%r=1:=by
   rw [hk,Nat.pow_mul,Nat.pow_mod,hg,Nat.one_pow,Nat.mod_eq_of_lt (by omega)]
  have hmn:a^(q^e*m)%n%r=1:=by rw [Nat.mod_mod_of_dvd _ hd,hone]
  have hdv:r∣a^(q^e*m)%n+n-1:=by
   obtain ⟨c,rfl⟩:=hd
   have:=Nat.div_add_mod (a^(q^e*m)%(r*c)) r
   refine ⟨a^(q^e*m)%(r*c)/r+c,?_⟩
   rw [Nat.mul_add]
   omega
  have:=Nat.dvd_gcd hdv hd
  rw [h2] at this
  have:=Nat.le_of_dvd (by decide) this
  omega
 ·have hc:Nat.Coprime (q^(e+1)) h:=Nat.Coprime.pow_left _ (hq.cop hqh)
  have hdg:q^(e+1)∣Nat.gcd (n-1) (r-1)*h:=by rw [<-hh,he];exact Nat.dvd_mul_right ..
  exact Nat.dvd_trans (hc.dvd_of_dvd_mul_right hdg) (Nat.gcd_dvd_right ..)
theorem azG {n F:Nat} (h2:2<=n) (hF:n<F*F) (h:∀ r,Pr r->r∣n->F∣r-1):Pr n:=by
 apply Classical.byContradiction
 intro hp
 obtain ⟨r,hr,hd,hle⟩:=Wh h2 hp
 have h1:=hr.1
 have:=Nat.le_of_dvd (by omega) (h r hr hd)
 have:F*F<=r*r:=Nat.mul_le_mul (by omega) (by omega)
 omega
def YW {α:Type} (n:Nat) (f:Nat->α):α:=match n with
 |0=>f 0
 |k+1=>f (k+1)
theorem YV {α:Type} (n:Nat) (f:Nat->α):YW n f=f n:=by cases n<;>rfl
def pw (n:Nat):Nat->Nat->Nat->Nat->Nat
 |0,o,_,_=>o
 |f+1,o,x,k=>YW k λk=>cond (Nat.beq k 0) o (YW (x*x%n) λy=>YW (cond (Nat.beq (k%2) 1) (o*x%n) o) λo=>pw n f o y (k/2))
theorem aEU {p:Nat}:∀ (n o x k:Nat),k<2^n->o<p->pw p n o x k=o*x^k%p
 |0,o,x,k,hk,ho=>by
  have:k=0:=by omega
  subst this
  show o=_
  rw [Nat.pow_zero,Nat.mul_one,Nat.mod_eq_of_lt ho]
 |n+1,o,x,k,hk,ho=>by
  unfold pw
  simp only [YV]
  rw [Nat.pow_succ] at hk
  cases h0:Nat.beq k 0
  ·simp only [cond_false]
   have hsq:(x*x%p)^(k/2)%p=x^(2*(k/2))%p:=by
    rw [<-Nat.pow_mod,Nat.pow_mul,Nat.pow_two]
   cases h1:Nat.beq (k%2) 1
   ·have h1':¬k%2=1:=λe=>by rw [e] at h1;cases h1
    simp only [cond_false]
    rw [aEU n _ _ _ (by omega) ho,Nat.mul_mod,hsq,<-Nat.mul_mod,show 2*(k/2)=k by omega]
   ·have h1:=Nat.eq_of_beq_eq_true h1
    simp only [cond_true]
    rw [aEU n _ _ _ (by omega) (Nat.mod_lt _ (by omega)),Nat.mul_mod,hsq,Nat.mod_mod,<-Nat.mul_mod,Nat.mul_assoc,<-Nat.pow_succ',show (2*(k/2)).succ=k by omega]
  ·have h0:=Nat.eq_of_beq_eq_true h0
   subst h0
   simp only [cond_true]
   rw [Nat.pow_zero,Nat.mul_one,Nat.mod_eq_of_lt ho]
def pwm (n a k:Nat):Nat:=pw n 256 1 (a%n) k
theorem aiL {n:Nat} (hn:2<=n) {a k:Nat} (hk:Nat.blt k (2^256)=true):pwm n a k=a^k%n:=by
 have hk':k<2^256:=Nat.le_of_ble_eq_true hk
 unfold pwm
 rw [aEU 256 1 _ _ hk' (by omega),Nat.one_mul,<-Nat.pow_mod]
def aHJ (n q e a m:Nat):Bool:=Nat.beq (n-1) (q^(e+1)*m)&&(Nat.blt n (2^256)&&(Nat.beq (pwm n a (n-1)) 1&&Nat.beq (Nat.gcd (pwm n a (q^e*m)+n-1) n) 1))
theorem fG {n q e a m:Nat} (h2:2<=n) (hq:Pr q) (h:aHJ n q e a m=true) {r:Nat} (hr:Pr r) (hd:r∣n):q^(e+1)∣r-1:=by
 simp only [aHJ,Bool.and_eq_true] at h
 obtain ⟨h1,h3,h4,h5⟩:=h
 have h1:=Nat.eq_of_beq_eq_true h1
 have h3:n<2^256:=Nat.le_of_ble_eq_true h3
 have hm:q^e*m<=n-1:=by
  rw [h1,Nat.pow_succ,Nat.mul_right_comm]
  exact Nat.le_mul_of_pos_right _ hq.pos
 rw [aiL h2 (Nat.ble_eq_true_of_le (show n-1+1<=2^256 by omega))] at h4
 rw [aiL h2 (Nat.ble_eq_true_of_le (show q^e*m+1<=2^256 by omega))] at h5
 exact azF h2 hq h1 (Nat.eq_of_beq_eq_true h4) (Nat.eq_of_beq_eq_true h5) hr hd
def aIU (n:Nat):Nat->Nat->Bool
 |0,_=>false
 |f+1,d=>YW d λd=>cond (Nat.blt n (d*d)) true (cond (Nat.beq (n%d) 0) false (aIU n f (d+1)))
theorem apJ {n:Nat}:∀ (f d:Nat),aIU n f d=true->0<d->(∀ x,1<x->x<d->¬x∣n)->∀ x,1<x->x*x<=n->¬x∣n
 |0,d,h,_,_=>by cases h
 |f+1,d,h,hd0,hb=>by
  unfold aIU at h
  rw [YV] at h
  cases h1:Nat.blt n (d*d)
  ·rw [h1] at h
   cases h2:Nat.beq (n%d) 0
   ·rw [h2] at h
    refine apJ f (d+1) h (by omega) λx hx hxd hdv=> ?_
    by_cases hxd2:x=d
    ·subst hxd2
     rw [Nat.mod_eq_zero_of_dvd hdv] at h2
     cases h2
    ·exact hb x hx (by omega) hdv
   ·rw [h2] at h;cases h
  ·have h1:n<d*d:=Nat.le_of_ble_eq_true h1
   intro x hx hxx
   refine hb x hx ?_
   apply Classical.byContradiction
   intro hc
   have:=Nat.mul_le_mul (show d<=x by omega) (show d<=x by omega)
   omega
theorem Ag {n:Nat} (f:Nat) (h2:2<=n) (h:aIU n f 2=true):Pr n:=by
 apply Classical.byContradiction
 intro hp
 obtain ⟨r,hr,hd,hle⟩:=Wh h2 hp
 have:=hr.1
 exact apJ f 2 h (by decide) (λx a b=>by omega) r (by omega) hle hd
end Go.Proofs.YtohjofabochgfaaGreat

set_option maxRecDepth 100000
namespace Go.Proofs.YtohjofabochgfaaGreat
theorem Ki:Pr 16513537:=Ag 4065 (by decide) (by decide+kernel)
theorem Kh:Pr 16521217:=Ag 4066 (by decide) (by decide+kernel)
theorem asW:Pr 772231:=Ag 880 (by decide) (by decide+kernel)
theorem asX:Pr 413527:=Ag 645 (by decide) (by decide+kernel)
theorem Be:Pr 325086459374267:=azG (F:=319338368737) (by decide) (by decide+kernel) λr hr hd=>by
 have h0:772231∣r-1:=fG (n:=325086459374267) (q:=772231) (e:=0) (a:=2) (m:=420970486) (by decide) asW (by decide+kernel) hr hd
 have h1:413527∣r-1:=fG (n:=325086459374267) (q:=413527) (e:=0) (a:=2) (m:=786131158) (by decide) asX (by decide+kernel) hr hd
 have k1:319338368737∣r-1:=Nat.Coprime.mul_dvd_of_dvd_of_dvd (m:=772231) (n:=413527) (show Nat.gcd 772231 413527=1 by decide+kernel) h0 h1
 exact k1
theorem amn:Pr 6942563:=Ag 2636 (by decide) (by decide+kernel)
theorem ade:Pr 41655379:=azG (F:=6942563) (by decide) (by decide+kernel) λr hr hd=>by
 have h0:6942563∣r-1:=fG (n:=41655379) (q:=6942563) (e:=0) (a:=2) (m:=6) (by decide) amn (by decide+kernel) hr hd
 exact h0
theorem OC:Pr 22160661629:=azG (F:=41655379) (by decide) (by decide+kernel) λr hr hd=>by
 have h0:41655379∣r-1:=fG (n:=22160661629) (q:=41655379) (e:=0) (a:=2) (m:=532) (by decide) ade (by decide+kernel) hr hd
 exact h0
theorem eB:Pr 8999194758858563409123804352480028797519453:=azG (F:=7204131026362786056900943) (by decide) (by decide+kernel) λr hr hd=>by
 have h0:325086459374267∣r-1:=fG (n:=8999194758858563409123804352480028797519453) (q:=325086459374267) (e:=0) (a:=2) (m:=27682465692912573825889481556) (by decide) Be (by decide+kernel) hr hd
 have h1:22160661629∣r-1:=fG (n:=8999194758858563409123804352480028797519453) (q:=22160661629) (e:=0) (a:=2) (m:=406088721966766121824069856270988) (by decide) OC (by decide+kernel) hr hd
 have k1:7204131026362786056900943∣r-1:=Nat.Coprime.mul_dvd_of_dvd_of_dvd (m:=325086459374267) (n:=22160661629) (show Nat.gcd 325086459374267 22160661629=1 by decide+kernel) h0 h1
 exact k1
theorem bj:Pr 28948022309329048855892746252171976963363056481941560715954676764349967630337:=azG (F:=8999194758858563409123804352480028797519453) (by decide) (by decide+kernel) λr hr hd=>by
 have h0:8999194758858563409123804352480028797519453∣r-1:=fG (n:=28948022309329048855892746252171976963363056481941560715954676764349967630337) (q:=8999194758858563409123804352480028797519453) (e:=0) (a:=2) (m:=3216734728497058061019394250637312) (by decide) eB (by decide+kernel) hr hd
 exact h0
theorem azC:Pr 31649:=Ag 179 (by decide) (by decide+kernel)
theorem azD:Pr 12149:=Ag 112 (by decide) (by decide+kernel)
theorem HE:Pr 5239247429827:=azG (F:=384503701) (by decide) (by decide+kernel) λr hr hd=>by
 have h0:31649∣r-1:=fG (n:=5239247429827) (q:=31649) (e:=0) (a:=2) (m:=165542274) (by decide) azC (by decide+kernel) hr hd
 have h1:12149∣r-1:=fG (n:=5239247429827) (q:=12149) (e:=0) (a:=2) (m:=431249274) (by decide) azD (by decide+kernel) hr hd
 have k1:384503701∣r-1:=Nat.Coprime.mul_dvd_of_dvd_of_dvd (m:=31649) (n:=12149) (show Nat.gcd 31649 12149=1 by decide+kernel) h0 h1
 exact k1
theorem amo:Pr 5701177:=Ag 2389 (by decide) (by decide+kernel)
theorem XW:Pr 399082391:=azG (F:=5701177) (by decide) (by decide+kernel) λr hr hd=>by
 have h0:5701177∣r-1:=fG (n:=399082391) (q:=5701177) (e:=0) (a:=2) (m:=70) (by decide) amo (by decide+kernel) hr hd
 exact h0
theorem gr:Pr 10427374428728808478656897599072717:=azG (F:=2090891391335963876357) (by decide) (by decide+kernel) λr hr hd=>by
 have h0:5239247429827∣r-1:=fG (n:=10427374428728808478656897599072717) (q:=5239247429827) (e:=0) (a:=2) (m:=1990242791238649418308) (by decide) HE (by decide+kernel) hr hd
 have h1:399082391∣r-1:=fG (n:=10427374428728808478656897599072717) (q:=399082391) (e:=0) (a:=2) (m:=26128375152309860944621076) (by decide) XW (by decide+kernel) hr hd
 have k1:2090891391335963876357∣r-1:=Nat.Coprime.mul_dvd_of_dvd_of_dvd (m:=5239247429827) (n:=399082391) (show Nat.gcd 5239247429827 399082391=1 by decide+kernel) h0 h1
 exact k1
theorem aJN:Pr 2:=Ag 3 (by decide) (by decide+kernel)
theorem bi:Pr 28948022309329048855892746252171976963363056481941647379679742748393362948097:=azG (F:=44785232154536915268878889192838239440863232) (by decide) (by decide+kernel) λr hr hd=>by
 have h0:10427374428728808478656897599072717∣r-1:=fG (n:=28948022309329048855892746252171976963363056481941647379679742748393362948097) (q:=10427374428728808478656897599072717) (e:=0) (a:=2) (m:=2776156405161148062854777934377771323097088) (by decide) gr (by decide+kernel) hr hd
 have h1:4294967296∣r-1:=fG (n:=28948022309329048855892746252171976963363056481941647379679742748393362948097) (q:=2) (e:=31) (a:=5) (m:=6739986666787659948666753771754907668419893943225417141728043264801) (by decide) aJN (by decide+kernel) hr hd
 have k1:44785232154536915268878889192838239440863232∣r-1:=Nat.Coprime.mul_dvd_of_dvd_of_dvd (m:=10427374428728808478656897599072717) (n:=4294967296) (show Nat.gcd 10427374428728808478656897599072717 4294967296=1 by decide+kernel) h0 h1
 exact k1
end Go.Proofs.YtohjofabochgfaaGreat

namespace Go.Proofs.YtohjofabochgfaaGreat
theorem Pr.auV {p:Nat} (h:Pr p) {a b:Int} (hd:(p:Int)∣a*b):(p:Int)∣a\/(p:Int)∣b:=by
 rw [Int.ofNat_dvd_left,Int.natAbs_mul] at hd
 rcases h.aj6 hd with h1|h1
 ·exact .inl (Int.ofNat_dvd_left.2 h1)
 ·exact .inr (Int.ofNat_dvd_left.2 h1)
def nm (p:Nat) (z:Int):Nat:=(z%(p:Int)).toNat
theorem atk {p:Nat} (hp:0<p) (z:Int):((nm p z:Nat):Int)=z%(p:Int):=by
 unfold nm
 have:=Int.emod_nonneg z (show (p:Int)≠0 by omega)
 omega
theorem aHS {p:Nat} (hp:0<p) (z:Int):(p:Int)∣((nm p z:Nat):Int)-z:=by
 rw [atk hp]
 have:=Int.emod_add_mul_ediv z p
 exact ⟨-(z/p),by grind⟩
theorem amI {p:Nat} (hp:0<p) (z:Int):nm p z<p:=by
 have h:=atk hp z
 have:=Int.emod_lt_of_pos z (show (0:Int)<p by omega)
 omega
theorem abK {p a b:Nat} (ha:a<p) (hb:b<p) (h:(p:Int)∣(a:Int)-(b:Int)):a=b:=by
 obtain ⟨k,hk⟩:=h
 have hpk:(p:Int)*k<p*1/\(p:Int)*(-1)<p*k:=by constructor<;>omega
 have h1:=Int.lt_of_mul_lt_mul_left hpk.1 (by omega)
 have h2:=Int.lt_of_mul_lt_mul_left hpk.2 (by omega)
 have:k=0:=by omega
 subst this
 omega
def aJG (p:Nat) (a:Int):Int:=((nm p a^(p-2):Nat):Int)
structure Cur (p b:Nat):Prop where
 pr:Pr p
 big:5<=p
 n2:∀ x:Int,¬(p:Int)∣x*x*x+b
theorem Cur.pos {p b:Nat} (c:Cur p b):0<p:=c.pr.pos
abbrev PtQ:Type:=Option (Nat×Nat)
structure Lin (p:Nat) (x1 y1 x2 y2 l:Int):Prop where
 a:(p:Int)∣l*(x1-x2)-(y1-y2)
 b:(p:Int)∣l*(y1+y2)-(x1*x1+x1*x2+x2*x2)
structure Thd (p:Nat) (x1 y1 x2 l x3 y3:Int):Prop where
 x:(p:Int)∣x3-(l*l-x1-x2)
 y:(p:Int)∣y3-(l*(x1-x3)-y1)
def aHv (p:Nat) (P R:Nat×Nat):Int:=if P.1=R.1 then 3*P.1*P.1*aJG p (P.2+P.2) else ((R.2:Int)-P.2)*aJG p ((R.1:Int)-P.1)
def aHh (p:Nat) (P R:Nat×Nat) (l:Int):Nat×Nat:=(nm p (l*l-P.1-R.1),nm p (l*(P.1-nm p (l*l-P.1-R.1))-P.2))
def aJT (p:Nat):PtQ->PtQ->PtQ
 |none,R=>R
 |some P,none=>some P
 |some P,some R=>if P.1=R.1/\P.2≠R.2 then none else some (aHh p P R (aHv p P R))
variable {p b:Nat}
theorem gQ (P:PtQ):aJT p P none=P:=by cases P<;>rfl
end Go.Proofs.YtohjofabochgfaaGreat

namespace Go.Proofs.YtohjofabochgfaaGreat
open Sx Go
abbrev Sm (p:Nat):Prop:=0<p/\p<57896044618658097711785492504343953926634992332820282019728792003956564819968
theorem aIZ {p:Nat} (n:Nat):(p:Int)∣((n%p:Nat):Int)-(n:Int):=by
 have:=Nat.div_add_mod n p
 refine ⟨-((n/p:Nat):Int),?_⟩
 have h:((p*(n/p)+n%p:Nat):Int)=(n:Int):=by rw [this]
 rw [Int.natCast_add,Int.natCast_mul] at h
 rw [Int.mul_neg]
 omega
variable {p:Nat}
theorem aBW (hp:Sm p) (a b:aa):(p:Int)∣((bP p a b).nat:Int)-((a.nat:Int)*(b.nat:Int)):=by
 have e:(bP p a b).nat=a.nat*b.nat%p:=dg hp
 rw [e]
 have:=aIZ (p:=p) (a.nat*b.nat)
 rwa [Int.natCast_mul] at this
theorem aIL (hp:Sm p) (a b:aa):(p:Int)∣((FC p a b).nat:Int)-((a.nat:Int)+(b.nat:Int)):=by
 have e:(FC p a b).nat=(a.nat+b.nat)%p:=dg hp
 rw [e]
 have:=aIZ (p:=p) (a.nat+b.nat)
 rwa [Int.natCast_add] at this
theorem tg (hp:Sm p) (a b:aa):(bP p a b).nat<p:=by
 rw [show (bP p a b).nat=a.nat*b.nat%p from dg hp]
 exact Nat.mod_lt _ hp.1
theorem awl (hp:Sm p) (a b:aa):(FC p a b).nat<p:=by
 rw [show (FC p a b).nat=(a.nat+b.nat)%p from dg hp]
 exact Nat.mod_lt _ hp.1
theorem amH:(aa.mk 0 0 0 0).nat=0:=by decide
variable {b:Nat}
end Go.Proofs.YtohjofabochgfaaGreat

namespace Go.Proofs.YtohjofabochgfaaGreat
open Sx Go
theorem TO {p b m:Nat} (pr:Pr p) (h3:p=3*m+1) (hb0:0<b) (hb:b<p) (hm:Nat.blt m (2^256)=true) (hk:Nat.beq (pwm p (p-b) m) 1=false) (x:Int):¬(p:Int)∣x*x*x+b:=λhd=>by
 have h2:=pr.1
 rw [aiL h2 hm] at hk
 obtain ⟨k,hk1⟩:=hd
 obtain ⟨j,hj⟩:=aHS pr.pos x
 have hn:p∣nm p x*nm p x*nm p x+b:=Int.natCast_dvd_natCast.1 (by
  rw [Int.natCast_add,Int.natCast_mul,Int.natCast_mul]
  generalize ((nm p x:Nat):Int)=n at*
  exact ⟨k+j*(n*n+n*x+x*x),by grind⟩)
 generalize nm p x=n at*
 have hpn:¬p∣n:=λhd=>by
  have h1:p∣n*n*n:=Nat.dvd_trans hd (Nat.dvd_mul_left ..)
  have:=(Nat.dvd_add_right h1).1 hn
  have:=Nat.le_of_dvd hb0 this
  omega
 have hf:=auG pr hpn
 have e:n^3%p=(p-b)%p:=by
  obtain ⟨c,hc⟩:=hn
  have hc0:c≠0:=λe=>by rw [e] at hc;omega
  obtain ⟨d,rfl⟩:∃ d,c=d+1:=⟨c-1,by omega⟩
  have:n^3=(p-b)+p*d:=by
   rw [show n^3=n*n*n by rw [Nat.pow_succ,Nat.pow_succ,Nat.pow_one]]
   rw [Nat.mul_succ] at hc
   omega
  rw [this,Nat.add_mul_mod_self_left]
 have:(p-b)^m%p=1:=by
  rw [Nat.pow_mod,<-e,<-Nat.pow_mod,<-Nat.pow_mul,show 3*m=p-1 by omega]
  exact hf
 rw [this] at hk
 cases hk
theorem aCh {s:Int} (h:ap s=true):Cur (pS s) (bS s).nat:=by
 rcases cv h with rfl|rfl|rfl|rfl
 ·have e:pS 0=16513537:=by decide+kernel
  have e2:(bS 0).nat=23:=by decide+kernel
  rw [e,e2]
  exact ⟨Ki,by decide,TO (m:=5504512) Ki (by decide) (by decide) (by decide) (by decide+kernel) (by decide+kernel)⟩
 ·have e:pS 1=16521217:=by decide+kernel
  have e2:(bS 1).nat=21:=by decide+kernel
  rw [e,e2]
  exact ⟨Kh,by decide,TO (m:=5507072) Kh (by decide) (by decide) (by decide) (by decide+kernel) (by decide+kernel)⟩
 ·have e:pS 2=28948022309329048855892746252171976963363056481941560715954676764349967630337:=by decide+kernel
  have e2:(bS 2).nat=5:=by decide+kernel
  rw [e,e2]
  exact ⟨bj,by decide,TO (m:=9649340769776349618630915417390658987787685493980520238651558921449989210112) bj (by decide) (by decide) (by decide) (by decide+kernel) (by decide+kernel)⟩
 ·have e:pS 3=28948022309329048855892746252171976963363056481941647379679742748393362948097:=by decide+kernel
  have e2:(bS 3).nat=5:=by decide+kernel
  rw [e,e2]
  exact ⟨bi,by decide,TO (m:=9649340769776349618630915417390658987787685493980549126559914249464454316032) bi (by decide) (by decide) (by decide) (by decide+kernel) (by decide+kernel)⟩
end Go.Proofs.YtohjofabochgfaaGreat

namespace Go.Proofs.YtohjofabochgfaaGreat
open Sx Go
theorem gU (a n p:Nat):(a%p)^n%p=a^n%p:=(Nat.pow_mod a n p).symm
theorem aJg {p a b c d:Nat} (h1:a%p=c%p) (h2:b%p=d%p):a*b%p=c*d%p:=by rw [Nat.mul_mod,h1,h2,<-Nat.mul_mod]
theorem aBJ {p t:Nat} (pr:Pr p) (ht:t<p) (h:t*t%p=1):t=1\/t=p-1:=by
 have h2:=pr.1
 have hd:(p:Int)∣((t:Int)-1)*((t:Int)+1):=by
  have e:=Nat.div_add_mod (t*t) p
  rw [h] at e
  refine ⟨((t*t/p:Nat):Int),?_⟩
  have e:((p*(t*t/p)+1:Nat):Int)=((t*t:Nat):Int):=congrArg (λn:Nat=>(n:Int)) e
  rw [Int.natCast_add,Int.natCast_mul,Int.natCast_mul] at e
  have e2:((t:Int)-1)*((t:Int)+1)=(t:Int)*t-1:=by grind
  rw [e2,<-e]
  omega
 rcases pr.auV hd with h|h
 ·left
  exact abK ht (by omega) h
 ·right
  refine abK ht (by omega) ?_
  obtain ⟨k,hk⟩:=h
  have:((p-1:Nat):Int)=(p:Int)-1:=by omega
  rw [this]
  exact ⟨k-1,by rw [Int.mul_sub];omega⟩
theorem aHT {p:Nat} (h2:2<=p):(p-1)*(p-1)%p=1:=by
 obtain ⟨q,rfl⟩:∃ q,p=q+2:=⟨p-2,by omega⟩
 have:(q+2-1)*(q+2-1)=1+(q+2)*q:=by
  rw [show q+2-1=q+1 by omega]
  grind
 rw [this,Nat.add_mul_mod_self_left]
 exact Nat.mod_eq_of_lt (by omega)
section
variable {p:Nat}
theorem xD (hp:Sm p) (a b:aa):(bP p a b).nat=a.nat*b.nat%p:=dg hp
theorem kB (hp:Sm p) (h2:2<=p) (a k:aa):(gO p a k).nat=a.nat^k.nat%p:=by
 rw [auR (by omega)]
 exact dg hp
theorem aEd (hp:Sm p) {b:aa} (hb:b.nat<p):∀ n,(sqN p b n).nat=b.nat^2^n%p
 |0=>by
  show b.nat=_
  rw [Nat.pow_zero,Nat.pow_one,Nat.mod_eq_of_lt hb]
 |n+1=>by
  show (bP p (sqN p b n) (sqN p b n)).nat=_
  rw [xD hp,aEd hp hb n,<-Nat.mul_mod,<-Nat.pow_add,<-Nat.two_mul,<-Nat.pow_succ']
theorem E9 (t:aa):eqE t eP=Nat.beq t.nat 1:=by rw [auX];rfl
theorem yV {a b:Nat} (h:Nat.beq a b=false):a≠b:=λe=>by rw [e,Nat.beq_refl] at h;cases h
structure aBs (p a i:Nat) (w:Ton):Prop where
 x:w.1.nat<p
 b:w.2.1.nat<p
 z:w.2.2.nat<p
 sq:w.1.nat*w.1.nat%p=a*w.2.1.nat%p
 one:w.2.1.nat^2^i%p=1
 neg:w.2.2.nat^2^i%p=p-1
theorem amp (b i:Nat):b^2^(i+1)=b^2^i*b^2^i:=by rw [<-Nat.pow_add,<-Nat.two_mul,<-Nat.pow_succ']
theorem aq4 (z i:Nat) (p:Nat):(z*z%p)^2^i%p=z^2^(i+1)%p:=by rw [gU,<-Nat.pow_two,<-Nat.pow_mul,<-Nat.pow_succ']
theorem YG (pr:Pr p) {b i:Nat} (h:b^2^(i+1)%p=1):b^2^i%p=1\/b^2^i%p=p-1:=by
 rw [amp,Nat.mul_mod] at h
 exact aBJ pr (Nat.mod_lt _ pr.pos) h
theorem apK (hp:Sm p) (pr:Pr p) {a i:Nat} {x b z u:aa} (hx:x.nat*x.nat%p=a*b.nat%p) (hb:b.nat^2^i%p=p-1) (hu:u.nat*u.nat%p=z.nat%p) (hz:z.nat^2^i%p=p-1):
 (bP p x u).nat*(bP p x u).nat%p=a*(bP p b z).nat%p/\(bP p b z).nat^2^i%p=1:=by
 constructor
 ·rw [xD hp,xD hp,<-Nat.mul_mod,Nat.mul_mod_mod,show x.nat*u.nat*(x.nat*u.nat)=x.nat*x.nat*(u.nat*u.nat) by ac_rfl,show a*(b.nat*z.nat)=a*b.nat*z.nat from (Nat.mul_assoc ..).symm]
  exact aJg hx hu
 ·rw [xD hp,gU,Nat.mul_pow,Nat.mul_mod,hb,hz]
  exact aHT pr.1
theorem alf (hp:Sm p) (pr:Pr p) {a m k:Nat} {w:Ton} (hk:k<m) (h:aBs p a (m-k) w):aBs p a (m-(k+1)) (yh p m k w):=by
 obtain ⟨x,b,z⟩:=w
 have e:m-k=(m-(k+1))+1:=by omega
 rw [e] at h
 obtain ⟨hx,hb,hz,h1,h2,h3⟩:=h
 dsimp only at*
 have ht:=aEd hp hb (m-(k+1))
 have hz2:(bP p z z).nat^2^(m-(k+1))%p=p-1:=by rw [xD hp,aq4];exact h3
 unfold yh
 dsimp only
 rw [show m-k-1=m-(k+1) by omega,E9]
 cases hq:Nat.beq (sqN p b (m-(k+1))).nat 1
 ·simp only [cond_false]
  have hn:=yV hq
  rw [ht] at hn
  have hb1:=(YG pr h2).resolve_left hn
  obtain ⟨g1,g2⟩:=apK hp pr (u:=z) h1 hb1 (by rw [xD hp,Nat.mod_mod]) hz2
  exact ⟨tg hp _ _,tg hp _ _,tg hp _ _,g1,g2,hz2⟩
 ·simp only [cond_true]
  have hb1:=Nat.eq_of_beq_eq_true hq
  rw [ht] at hb1
  exact ⟨hx,hb,tg hp _ _,h1,hb1,hz2⟩
theorem aCQ (hp:Sm p) (pr:Pr p) {a m:Nat} {w:Ton} (h:aBs p a m w):(awJ p m w).1.nat<p/\(awJ p m w).1.nat*(awJ p m w).1.nat%p=a%p:=by
 have key:∀ n,n<=m->aBs p a (m-n) (upto (yh p m) w n):=by
  intro n
  induction n with
  |zero=>intro _;exact h
  |succ n ih=>intro hn;exact alf hp pr (by omega) (ih (by omega))
 have hk:=key m (Nat.le_refl _)
 rw [Nat.sub_self] at hk
 obtain ⟨hx,hb,hz,h1,h2,h3⟩:=hk
 refine ⟨hx,?_⟩
 rw [Nat.pow_zero,Nat.pow_one,Nat.mod_eq_of_lt hb] at h2
 rw [h2,Nat.mul_one] at h1
 exact h1
end
def H9 (s:Int):aa:=dT (eu (aY s.toNat).1 eP).1 (aY s.toNat).2.1.toNat
def adS (s:Int):Nat:=(aY s.toNat).2.1.toNat
structure akT (s:Int):Prop where
 od:(H9 s).nat*2^adS s=pS s-1
 up:2*(dp (qa (H9 s) eP).1).nat=(H9 s).nat+1
 hf:(dp (eu (aY s.toNat).1 eP).1).nat=(pS s-1)/2
 ad:1<=adS s
 ai:(aY s.toNat).2.1=(adS s:Int)
 nr:pwm (pS s) 5 ((pS s-1)/2)=pS s-1
 pr:Pr (pS s)
 sm:Sm (pS s)
 o2:pS s%2=1
theorem I3 {s:Int} (hs:ap s=true):akT s:=by
 have pr:=(aCh hs).pr
 have sm:Sm (pS s):=oW hs
 rcases cv hs with rfl|rfl|rfl|rfl<;>
  exact ⟨by decide+kernel,by decide+kernel,by decide+kernel,by decide+kernel,by decide+kernel,by decide+kernel,pr,sm,by decide+kernel⟩
section
variable {s:Int} (k:akT s)
include k
theorem asY (a:Nat):(a^(H9 s).nat)^2^(adS s-1)=a^((pS s-1)/2):=by
 rw [<-Nat.pow_mul]
 congr 1
 have h:=k.od
 have ha:=k.ad
 obtain ⟨n,hn⟩:∃ n,adS s=n+1:=⟨adS s-1,by omega⟩
 rw [hn] at h⊢
 rw [Nat.pow_succ,<-Nat.mul_assoc] at h
 rw [show n+1-1=n by omega]
 omega
theorem ajT:(5^(H9 s).nat)^2^(adS s-1)%pS s=pS s-1:=by
 rw [asY k]
 have h:=k.nr
 have hp:=k.sm
 rw [aiL k.pr.1 (Nat.ble_eq_true_of_le (by have:=hp.2;omega))] at h
 exact h
omit k in
theorem ajU:(aa.mk 5 0 0 0).nat=5:=by decide
theorem ars {a:aa} (he:a.nat^((pS s-1)/2)%pS s=1):(sr s a).nat<pS s/\(sr s a).nat*(sr s a).nat%pS s=a.nat%pS s:=by
 have hp:=k.sm
 have pr:=k.pr
 have e:sr s a=(awJ (pS s) (adS s-1) (gO (pS s) a (dp (qa (H9 s) eP).1),gO (pS s) a (H9 s),gO (pS s) ⟨5,0,0,0⟩ (H9 s))).1:=by
  show (awJ (pS s) ((aY s.toNat).2.1-1).toNat _).1=_
  rw [k.ai,show ((adS s:Int)-1).toNat=adS s-1 by omega]
  rfl
 rw [e]
 refine aCQ hp pr (a:=a.nat) ⟨?_,?_,?_,?_,?_,?_⟩
 ·rw [kB hp pr.1];exact Nat.mod_lt _ pr.pos
 ·rw [kB hp pr.1];exact Nat.mod_lt _ pr.pos
 ·rw [kB hp pr.1];exact Nat.mod_lt _ pr.pos
 ·show (gO (pS s) a (dp (qa (H9 s) eP).1)).nat*(gO (pS s) a (dp (qa (H9 s) eP).1)).nat%pS s=a.nat*(gO (pS s) a (H9 s)).nat%pS s
  rw [kB hp pr.1,kB hp pr.1,<-Nat.mul_mod,Nat.mul_mod_mod,<-Nat.pow_add,<-Nat.two_mul,k.up,Nat.pow_succ,Nat.mul_comm]
 ·show (gO (pS s) a (H9 s)).nat^_%pS s=1
  rw [kB hp pr.1,gU,asY k]
  exact he
 ·show (gO (pS s) ⟨5,0,0,0⟩ (H9 s)).nat^_%pS s=pS s-1
  rw [kB hp pr.1,gU,ajU]
  exact ajT k
end
theorem aet {p:Nat} (hp:Sm p) (ho:p%2=1) {x:aa} (hx:x.nat<p):(kS p x).nat<p/\(kS p x).nat%2=0/\(kS p x).nat*(kS p x).nat%p=x.nat*x.nat%p:=by
 have hb:(x.w0%2==1)=Nat.beq (x.nat%2) 1:=by
  have e:x.nat%2=x.w0.toNat%2:=by unfold Sx.aa.nat;omega
  rw [e]
  have h2:(x.w0%2).toNat=x.w0.toNat%2:=by rw [UInt64.toNat_mod];rfl
  rw [<-h2]
  by_cases h:x.w0%2=1
  ·rw [h];rfl
  ·have hn:¬(x.w0%2).toNat=1:=λe=>h (UInt64.toNat_inj.1 e)
   have:Nat.beq (x.w0%2).toNat 1=false:=by
    cases hb:Nat.beq (x.w0%2).toNat 1
    ·rfl
    ·exact absurd (Nat.eq_of_beq_eq_true hb) hn
   rw [this]
   simpa using h
 unfold kS
 rw [hb]
 cases hq:Nat.beq (x.nat%2) 1
 ·simp only [cond_false]
  have:=yV hq
  exact ⟨hx,by omega,trivial⟩
 ·simp only [cond_true]
  have h1:=Nat.eq_of_beq_eq_true hq
  have e:(zW p x).nat=p-x.nat:=by
   rw [show (zW p x).nat=(p-x.nat%p)%p from dg hp,Nat.mod_eq_of_lt hx,Nat.mod_eq_of_lt (by omega)]
  rw [e]
  refine ⟨by omega,by omega,?_⟩
  obtain ⟨d,hd⟩:∃ d,p=x.nat+d:=⟨p-x.nat,by omega⟩
  have e2:p-x.nat=d:=by omega
  rw [e2]
  have e3:d*d+p*x.nat=x.nat*x.nat+p*d:=by rw [hd];grind
  have:=congrArg (· %p) e3
  simp only [Nat.add_mul_mod_self_left] at this
  exact this
theorem auT {p:Nat} (pr:Pr p) (ho:p%2=1) {x y:Nat} (hx:x<p) (hy:y<p) (ex:x%2=0) (ey:y%2=0) (h:x*x%p=y*y%p):x=y:=by
 have hd:(p:Int)∣((x:Int)-y)*((x:Int)+y):=by
  obtain ⟨a,ha⟩:=aIZ (p:=p) (x*x)
  obtain ⟨b,hb⟩:=aIZ (p:=p) (y*y)
  rw [h] at ha
  rw [Int.natCast_mul] at ha hb
  generalize (((y*y%p):Nat):Int)=r at*
  exact ⟨b-a,by grind⟩
 rcases pr.auV hd with h|h
 ·exact abK hx hy h
 ·have h:(p:Int)∣((x+y:Nat):Int):=by rw [Int.natCast_add];exact h
  have h:=Int.natCast_dvd_natCast.1 h
  obtain ⟨c,hc⟩:=h
  have hc2:c<2:=by
   apply Classical.byContradiction
   intro h2
   have:=Nat.mul_le_mul_left p (show 2<=c by omega)
   omega
  rcases (show c=0\/c=1 by omega) with rfl|rfl<;>omega
end Go.Proofs.YtohjofabochgfaaGreat

namespace Go.Proofs.YtohjofabochgfaaGreat
open Sx Go
def kF (p:Nat):Nat->aa->Nat->Nat
 |0,_,k=>k
 |n+1,s,k=>cond (eqE s eP) k (kF p n (bP p s s) (k+1))
def tsB (p m k:Nat) (w:Ton):aa:=sqN p w.2.2 (m-k-1)
def tsW (p m k:Nat) (w:Ton):Ton:=(bP p w.1 (tsB p m k w),bP p w.2.1 (bP p (tsB p m k w) (tsB p m k w)),bP p (tsB p m k w) (tsB p m k w))
def tsF (p:Nat):Nat->Nat->Ton->Option aa
 |0,_,_=>none
 |f+1,m,w=>cond (eqE w.2.1 eP) (some w.1) (cond (Nat.beq (kF p m w.2.1 0) m) none (tsF p f (kF p m w.2.1 0) (tsW p m (kF p m w.2.1 0) w)))
section
variable {p:Nat}
theorem adR (hp:Sm p):∀ (n:Nat) (s:aa) (k:Nat),s.nat<p->k<=kF p n s k/\kF p n s k<=k+n/\(kF p n s k<k+n->s.nat^2^(kF p n s k-k)%p=1)/\∀ j,k<=j->j<kF p n s k->s.nat^2^(j-k)%p≠1
 |0,s,k,_=>⟨Nat.le_refl _,Nat.le_refl _,λh=>absurd h (Nat.lt_irrefl _),λj h1 h2=>absurd h2 (by show ¬j<k;omega)⟩
 |n+1,s,k,hs=>by
  unfold kF
  rw [E9]
  cases hq:Nat.beq s.nat 1
  ·simp only [cond_false]
   obtain ⟨h1,h2,h3,h4⟩:=adR hp n (bP p s s) (k+1) (tg hp _ _)
   have e:∀ j,(bP p s s).nat^2^j%p=s.nat^2^(j+1)%p:=λj=>by rw [xD hp,aq4]
   refine ⟨by omega,by omega,λh=> ?_,λj hj1 hj2=> ?_⟩
   ·have:=h3 (by omega)
    rw [e] at this
    rw [show kF p n (bP p s s) (k+1)-k=kF p n (bP p s s) (k+1)-(k+1)+1 by omega]
    exact this
   ·by_cases hj:j=k
    ·subst hj
     rw [Nat.sub_self,Nat.pow_zero,Nat.pow_one,Nat.mod_eq_of_lt hs]
     exact yV hq
    ·have:=h4 j (by omega) hj2
     rw [e] at this
     rw [show j-k=j-(k+1)+1 by omega]
     exact this
  ·simp only [cond_true]
   have h1:=Nat.eq_of_beq_eq_true hq
   refine ⟨Nat.le_refl _,by omega,λ_=> ?_,λj hj1 hj2=>by omega⟩
   rw [Nat.sub_self,Nat.pow_zero,Nat.pow_one,Nat.mod_eq_of_lt hs]
   exact h1
structure aIM (p a m:Nat) (w:Ton):Prop where
 x:w.1.nat<p
 t:w.2.1.nat<p
 z:w.2.2.nat<p
 sq:w.1.nat*w.1.nat%p=a*w.2.1.nat%p
 m1:1<=m
 neg:w.2.2.nat^2^(m-1)%p=p-1
theorem aCL (hp:Sm p) (pr:Pr p) {a m k:Nat} {w:Ton} (h:aIM p a m w) (hk0:1<=k) (hk:k<m) (h1:w.2.1.nat^2^k%p=1) (h2:w.2.1.nat^2^(k-1)%p≠1):
 aIM p a k (tsW p m k w)/\(tsW p m k w).2.1.nat^2^(k-1)%p=1:=by
 have hb:=aEd hp h.z (m-k-1)
 have hz':(bP p (tsB p m k w) (tsB p m k w)).nat^2^(k-1)%p=p-1:=by
  rw [xD hp,aq4]
  show (sqN p w.2.2 (m-k-1)).nat^_%p=_
  rw [hb,gU,<-Nat.pow_mul,<-Nat.pow_add,show m-k-1+(k-1+1)=m-1 by omega]
  exact h.neg
 have ht:w.2.1.nat^2^(k-1)%p=p-1:=by
  have e:k=(k-1)+1:=by omega
  rw [e] at h1
  exact (YG pr h1).resolve_left h2
 obtain ⟨g1,g2⟩:=apK hp pr (u:=tsB p m k w) (z:=bP p (tsB p m k w) (tsB p m k w)) h.sq ht (by rw [xD hp,Nat.mod_mod]) hz'
 exact ⟨⟨tg hp _ _,tg hp _ _,tg hp _ _,g1,hk0,hz'⟩,g2⟩
theorem apI (hp:Sm p) (pr:Pr p) {a:Nat}:∀ (f m:Nat) (w:Ton),m<f->aIM p a m w->w.2.1.nat^2^(m-1)%p=1->∃ x,tsF p f m w=some x/\x.nat<p/\x.nat*x.nat%p=a%p
 |0,m,w,h,_,_=>absurd h (Nat.not_lt_zero _)
 |f+1,m,w,hf,h,hr=>by
  unfold tsF
  rw [E9]
  cases hq:Nat.beq w.2.1.nat 1
  ·simp only [cond_false]
   obtain ⟨k1,k2,k3,k4⟩:=adR hp m w.2.1 0 h.t
   have m1:=h.m1
   have hk:kF p m w.2.1 0<m:=by
    apply Classical.byContradiction
    intro hn
    exact k4 (m-1) (by omega) (by omega) hr
   have hk0:1<=kF p m w.2.1 0:=by
    apply Classical.byContradiction
    intro hn
    have e:kF p m w.2.1 0=0:=by omega
    have:=k3 (by omega)
    rw [e,Nat.sub_self,Nat.pow_zero,Nat.pow_one,Nat.mod_eq_of_lt h.t] at this
    exact yV hq this
   have e1:=k3 (by omega)
   have e2:=k4 (kF p m w.2.1 0-1) (by omega) (by omega)
   rw [Nat.sub_zero] at e1 e2
   have hb:Nat.beq (kF p m w.2.1 0) m=false:=by
    cases hb:Nat.beq (kF p m w.2.1 0) m
    ·rfl
    ·have:=Nat.eq_of_beq_eq_true hb;omega
   rw [hb]
   obtain ⟨g1,g2⟩:=aCL hp pr h hk0 hk e1 e2
   exact apI hp pr f _ _ (by omega) g1 g2
  ·simp only [cond_true]
   have h1:=Nat.eq_of_beq_eq_true hq
   have:=h.sq
   rw [h1,Nat.mul_one] at this
   exact ⟨w.1,rfl,h.x,this⟩
theorem aCN (hp:Sm p) (pr:Pr p) (h3:3<=p) {a f m:Nat} {w:Ton} (h:aIM p a m w) (hr:w.2.1.nat^2^(m-1)%p=p-1):tsF p f m w=none:=by
 cases f with
 |zero=>rfl
 |succ f=>
  unfold tsF
  rw [E9]
  have m1:=h.m1
  have up:∀ j,j<=m-1->w.2.1.nat^2^j%p≠1:=λj hj e=>by
   have:w.2.1.nat^2^(m-1)%p=1:=by
    rw [show m-1=j+(m-1-j) by omega,Nat.pow_add,Nat.pow_mul,Nat.pow_mod,e,Nat.one_pow,Nat.mod_eq_of_lt (by omega)]
   omega
  have hq:Nat.beq w.2.1.nat 1=false:=by
   cases hq:Nat.beq w.2.1.nat 1
   ·rfl
   ·have:=up 0 (by omega)
    rw [Nat.pow_zero,Nat.pow_one,Nat.mod_eq_of_lt h.t] at this
    exact absurd (Nat.eq_of_beq_eq_true hq) this
  rw [hq]
  obtain ⟨k1,k2,k3,k4⟩:=adR hp m w.2.1 0 h.t
  have e:kF p m w.2.1 0=m:=by
   apply Classical.byContradiction
   intro hn
   have:=k3 (by omega)
   rw [Nat.sub_zero] at this
   exact up _ (by omega) this
  rw [e,Nat.beq_refl]
  rfl
end
section
variable {s:Int} (k:akT s)
include k
def fD (s:Int) (a:aa):Ton:=(gO (pS s) a (dp (qa (H9 s) eP).1),gO (pS s) a (H9 s),gO (pS s) ⟨5,0,0,0⟩ (H9 s))
theorem ale (a:aa):aIM (pS s) a.nat (adS s) (fD s a):=by
 have hp:=k.sm
 have pr:=k.pr
 refine ⟨?_,?_,?_,?_,k.ad,?_⟩
 ·show (gO (pS s) a _).nat<_
  rw [kB hp pr.1];exact Nat.mod_lt _ pr.pos
 ·show (gO (pS s) a _).nat<_
  rw [kB hp pr.1];exact Nat.mod_lt _ pr.pos
 ·show (gO (pS s) _ _).nat<_
  rw [kB hp pr.1];exact Nat.mod_lt _ pr.pos
 ·show (gO (pS s) a (dp (qa (H9 s) eP).1)).nat*(gO (pS s) a (dp (qa (H9 s) eP).1)).nat%pS s=a.nat*(gO (pS s) a (H9 s)).nat%pS s
  rw [kB hp pr.1,kB hp pr.1,<-Nat.mul_mod,Nat.mul_mod_mod,<-Nat.pow_add,<-Nat.two_mul,k.up,Nat.pow_succ,Nat.mul_comm]
 ·show (gO (pS s) ⟨5,0,0,0⟩ (H9 s)).nat^_%pS s=pS s-1
  rw [kB hp pr.1,gU,ajU]
  exact ajT k
theorem abv (a:aa):(fD s a).2.1.nat^2^(adS s-1)%pS s=a.nat^((pS s-1)/2)%pS s:=by
 show (gO (pS s) a (H9 s)).nat^_%pS s=_
 rw [kB k.sm k.pr.1,gU,asY k]
theorem auU {a:Nat} (ha:¬pS s∣a):a^((pS s-1)/2)%pS s=1\/a^((pS s-1)/2)%pS s=pS s-1:=by
 have hf:=auG k.pr ha
 have ho:=k.o2
 have h2:=k.pr.1
 have e:pS s-1=(pS s-1)/2+(pS s-1)/2:=by omega
 rw [e,Nat.pow_add,Nat.mul_mod] at hf
 exact aBJ k.pr (Nat.mod_lt _ k.pr.pos) hf
theorem aCM {a:aa} (ha:a.nat<pS s) (hz:bU a=false):(tsF (pS s) (adS s+1) (adS s) (fD s a)).map (kS (pS s))=
 cond (eqE (gO (pS s) a (dp (eu (aY s.toNat).1 eP).1)) eP) (some (kS (pS s) (sr s a))) none:=by
 have hp:=k.sm
 have pr:=k.pr
 have h2:=pr.1
 have ho:=k.o2
 have h0:=ale k a
 have hpw:=abv k a
 rw [E9,kB hp h2,k.hf]
 have hn:¬pS s∣a.nat:=λhd=>by
  have:=Nat.eq_zero_of_dvd_of_lt hd ha
  rw [lf,this] at hz
  cases hz
 rcases auU k hn with h|h
 ·rw [h]
  obtain ⟨x,e1,e2,e3⟩:=apI hp pr (adS s+1) (adS s) _ (by omega) h0 (by rw [hpw];exact h)
  rw [e1]
  obtain ⟨r1,r2⟩:=ars k h
  obtain ⟨v1,v2,v3⟩:=aet hp ho e2
  obtain ⟨w1,w2,w3⟩:=aet hp ho r1
  show some _=some _
  rw [qM (auT pr ho v1 w1 v2 w2 (by rw [v3,w3,e3,r2]))]
 ·have h3:3<=pS s:=by omega
  rw [aCN hp pr h3 h0 (by rw [hpw];exact h),h]
  have:Nat.beq (pS s-1) 1=false:=by
   cases hb:Nat.beq (pS s-1) 1
   ·rfl
   ·have:=Nat.eq_of_beq_eq_true hb;omega
  rw [this]
  rfl
end
end Go.Proofs.YtohjofabochgfaaGreat

namespace Go.Proofs.YtohjofabochgfaaGreat
open Sx Go
theorem zero_eq {e:aa} (h:bU e=true):e=⟨0,0,0,0⟩:=qM (by rw [lf] at h;rw [Nat.eq_of_beq_eq_true h];exact amH.symm)
def sqA (s:Int) (x:aa):aa:=ofP (pS s) (xt (pS s) x (bS s))
def sqB (s:Int) (x:aa):Bool:=eqE (gO (pS s) (sqA s x) (dp (eu (aY s.toNat).1 eP).1)) eP
def sqY (s:Int) (x:aa):aa:=kS (pS s) (sr s (sqA s x))
def ptD (s:Int) (x:aa) (odd:Bool):Pt:=(x,cond odd (zW (pS s) (sqY s x)) (sqY s x),false)
theorem aHu {s:Int} (hs:ap s=true) (x:aa):(sqA s x).nat<pS s/\((pS s:Nat):Int)∣((sqA s x).nat:Int)-((x.nat:Int)*x.nat*x.nat+(bS s).nat):=by
 have hp:Sm (pS s):=oW hs
 have e:(sqA s x).nat=(xt (pS s) x (bS s)).nat%pS s:=dg hp
 have hlt:(xt (pS s) x (bS s)).nat<pS s:=awl hp _ _
 rw [e,Nat.mod_eq_of_lt hlt]
 refine ⟨hlt,?_⟩
 have c2:=aBW hp x x
 have c3:=aBW hp (bP (pS s) x x) x
 have c4:=aIL hp (bP (pS s) (bP (pS s) x x) x) (bS s)
 unfold xt
 generalize bP (pS s) (bP (pS s) x x) x=xxx at*
 generalize bP (pS s) x x=xx at*
 generalize FC (pS s) xxx (bS s)=z at*
 have:(z.nat:Int)-((x.nat:Int)*x.nat*x.nat+(bS s).nat)=((z.nat:Int)-(xxx.nat+(bS s).nat))+(((xxx.nat:Int)-xx.nat*x.nat)+(((xx.nat:Int)-x.nat*x.nat)*x.nat)):=by grind
 rw [this]
 exact Int.dvd_add c4 (Int.dvd_add c3 (Int.dvd_trans c2 (Int.dvd_mul_right ..)))
theorem abB {s:Int} (hs:ap s=true) (x:aa):bU (sqA s x)=false:=by
 have h:=(aHu hs x).2
 cases hz:bU (sqA s x)
 ·rfl
 ·exfalso
  rw [lf] at hz
  rw [Nat.eq_of_beq_eq_true hz] at h
  obtain ⟨k,hk⟩:=h
  exact (aCh hs).n2 (x.nat:Int) ⟨-k,by rw [Int.mul_neg,<-hk];simp⟩
theorem ayH {s:Int} (hs:ap s=true):sqB s ⟨0,0,0,0⟩=false:=by
 rcases cv hs with rfl|rfl|rfl|rfl<;>decide+kernel
theorem aHs {s:Int} (hs:ap s=true) {x:aa} (h:sqB s x=true):(sqY s x).nat<pS s/\(sqY s x).nat%2=0/\(sqY s x).nat*(sqY s x).nat%pS s=(sqA s x).nat%pS s:=by
 have k:=I3 hs
 unfold sqB at h
 rw [E9,kB k.sm k.pr.1,k.hf] at h
 obtain ⟨r1,r2⟩:=ars k (Nat.eq_of_beq_eq_true h)
 obtain ⟨e1,e2,e3⟩:=aet k.sm k.o2 r1
 exact ⟨e1,e2,e3.trans r2⟩
section
variable {s:Int} (hs:ap s=true)
include hs
theorem aBU {X Y:aa}:onB s (X,Y,false)=true ↔ X.nat<pS s/\Y.nat<pS s/\Y.nat*Y.nat%pS s=(sqA s X).nat:=by
 have hp:Sm (pS s):=oW hs
 have e1:(sqA s X).nat=(xt (pS s) X (bS s)).nat:=by
  show (ofN _).nat=_
  rw [dg hp]
  exact Nat.mod_eq_of_lt (awl hp _ _)
 rw [e1,<-xD hp]
 unfold onB
 rw [hs]
 simp only [cond_true,cond_false]
 rw [auX]
 generalize (xt (pS s) X (bS s)).nat=A
 generalize (bP (pS s) Y Y).nat=M
 have b1:Nat.blt X.nat (pS s)=true ↔ X.nat<pS s:=⟨λh=>Nat.le_of_ble_eq_true h,λh=>Nat.ble_eq_true_of_le h⟩
 have b2:Nat.blt Y.nat (pS s)=true ↔ Y.nat<pS s:=⟨λh=>Nat.le_of_ble_eq_true h,λh=>Nat.ble_eq_true_of_le h⟩
 rw [<-b1,<-b2]
 generalize Nat.blt X.nat (pS s)=x
 generalize Nat.blt Y.nat (pS s)=y
 have b3:Nat.beq M A=true ↔ M=A:=⟨Nat.eq_of_beq_eq_true,λe=>by rw [e,Nat.beq_refl]⟩
 rw [<-b3]
 generalize Nat.beq M A=z
 cases x<;>cases y<;>cases z<;>simp
theorem aHU {y:aa} (hy:y.nat<pS s) (h0:y.nat≠0):(zW (pS s) y).nat=pS s-y.nat:=by
 have hp:Sm (pS s):=oW hs
 rw [show (zW (pS s) y).nat=(pS s-y.nat%pS s)%pS s from dg hp,Nat.mod_eq_of_lt hy,Nat.mod_eq_of_lt (by omega)]
omit hs in
theorem amK {p y:Nat} (hy:y<p):(p-y)*(p-y)%p=y*y%p:=by
 obtain ⟨d,hd⟩:∃ d,p=y+d:=⟨p-y,by omega⟩
 have e2:p-y=d:=by omega
 rw [e2]
 have e3:d*d+p*y=y*y+p*d:=by rw [hd];grind
 have:=congrArg (· %p) e3
 simp only [Nat.add_mul_mod_self_left] at this
 exact this
theorem ayI (x:aa):(sqA s x).nat≠0:=λh=>by
 have:=abB hs x
 rw [lf,h] at this
 cases this
theorem aEt {X:aa} (hx:X.nat<pS s) (hq:sqB s X=true) (o:Bool):onB s (ptD s X o)=true/\Nat.beq ((ptD s X o).2.1.nat%2) 1=o:=by
 have k:=I3 hs
 have ho:=k.o2
 have hA:=(aHu hs X).1
 have hz:=ayI hs X
 obtain ⟨r1,r2,r3⟩:=aHs hs hq
 rw [Nat.mod_eq_of_lt hA] at r3
 have r0:(sqY s X).nat≠0:=λe=>hz (by rw [<-r3,e,Nat.zero_mul,Nat.zero_mod])
 unfold ptD
 cases o
 ·refine ⟨(aBU hs).2 ⟨hx,r1,r3⟩,?_⟩
  show Nat.beq ((sqY s X).nat%2) 1=false
  rw [r2]
  rfl
 ·have e:=aHU hs r1 r0
  refine ⟨(aBU hs).2 ⟨hx,?_,?_⟩,?_⟩
  ·show (zW (pS s) (sqY s X)).nat<pS s
   rw [e]
   omega
  ·show (zW (pS s) (sqY s X)).nat*(zW (pS s) (sqY s X)).nat%pS s=_
   rw [e,amK r1,r3]
  ·show Nat.beq ((zW (pS s) (sqY s X)).nat%2) 1=true
   rw [e,show (pS s-(sqY s X).nat)%2=1 by omega]
   rfl
end
end Go.Proofs.YtohjofabochgfaaGreat

namespace Go.Proofs.YtohjofabochgfaaGreat
open Sx Go
set_option maxRecDepth 100000
def kq:aw:=⟨[.val false .int,.val true .elem],[],true,0,false⟩
abbrev QQ:Type:=((Int)×(aa)×Unit)×(Unit)
def BG:Shape:=⟨126,[(4,.ptr 0 0 0),(6,.ptr 1 0 0),(8,.ptr 2 0 0),(12,.ptr 3 0 0),(13,.ptr 4 0 0),(16,.ptr 5 0 0),(17,.val false .int)],[(0,.row .u64),(1,.cells [.val false .u64,.val false .u64,.val false .u64,.val false .u64,.val false .int,.val false .u64,.val false .u64,.val false .u64,.val false .u64,.val false .u64,.val false .u64]),(2,.row .u64),(3,.row .u64),(4,.row .u64),(5,.row .u64)],0,true⟩
abbrev bo:Type:=((Unit)×(Unit)×(Unit)×(Unit)×(Unit)×(Unit)×(Int)×Unit)×((List (UInt64))×((UInt64)×(UInt64)×(UInt64)×(UInt64)×(Int)×(UInt64)×(UInt64)×(UInt64)×(UInt64)×(UInt64)×(UInt64)×Unit)×(List (UInt64))×(List (UInt64))×(List (UInt64))×(List (UInt64))×Unit)
def BF:Shape:=⟨126,[(4,.ptr 0 0 0),(6,.ptr 1 0 0),(8,.ptr 2 0 0),(12,.ptr 3 0 0),(13,.ptr 4 0 0),(16,.ptr 5 0 0),(17,.val false .int),(18,.val false .int),(19,.ptr 6 0 0)],[(0,.row .u64),(1,.cells [.val false .u64,.val false .u64,.val false .u64,.val false .u64,.val false .int,.val false .u64,.val false .u64,.val false .u64,.val false .u64,.val false .u64,.val false .u64]),(2,.row .u64),(3,.row .u64),(4,.row .u64),(5,.row .u64),(6,.row .u64)],0,true⟩
abbrev bM:Type:=((Unit)×(Unit)×(Unit)×(Unit)×(Unit)×(Unit)×(Int)×(Int)×(Unit)×Unit)×((List (UInt64))×((UInt64)×(UInt64)×(UInt64)×(UInt64)×(Int)×(UInt64)×(UInt64)×(UInt64)×(UInt64)×(UInt64)×(UInt64)×Unit)×(List (UInt64))×(List (UInt64))×(List (UInt64))×(List (UInt64))×(List (UInt64))×Unit)
def pc:Shape:=⟨126,[(4,.ptr 0 0 0),(6,.ptr 1 0 0),(8,.ptr 2 0 0),(12,.ptr 3 0 0),(13,.ptr 4 0 0),(16,.ptr 5 0 0),(17,.val false .int),(18,.val false .int)],[(0,.row .u64),(1,.cells [.val false .u64,.val false .u64,.val false .u64,.val false .u64,.val false .int,.val false .u64,.val false .u64,.val false .u64,.val false .u64,.val false .u64,.val false .u64]),(2,.row .u64),(3,.row .u64),(4,.row .u64),(5,.row .u64)],0,true⟩
abbrev ek:Type:=((Unit)×(Unit)×(Unit)×(Unit)×(Unit)×(Unit)×(Int)×(Int)×Unit)×((List (UInt64))×((UInt64)×(UInt64)×(UInt64)×(UInt64)×(Int)×(UInt64)×(UInt64)×(UInt64)×(UInt64)×(UInt64)×(UInt64)×Unit)×(List (UInt64))×(List (UInt64))×(List (UInt64))×(List (UInt64))×Unit)
def ajA:SE->Option Shape:=fC [(2,pc)] none
def aAm (a17:Int) (a18:Int) (c0:List (UInt64)) (c1_0:UInt64) (c1_1:UInt64) (c1_2:UInt64) (c1_3:UInt64) (c1_4:Int) (c1_5:UInt64) (c1_6:UInt64) (c1_7:UInt64) (c1_8:UInt64) (c1_9:UInt64) (c1_10:UInt64) (c2:List (UInt64)) (c3:List (UInt64)) (c4:List (UInt64)) (c5:List (UInt64)) (c6:List (UInt64)):OT (Sum bM aE):=
 let z0:Nat:=List.length c6
 let z1:Bool:=decide (4<=z0)
 let z2:UInt64:=List.getD c6 0 0
 let z3:UInt64:=List.getD c6 1 0
 let z4:UInt64:=List.getD c6 2 0
 let z5:UInt64:=List.getD c6 3 0
 let z6:aa:= {w0:=c1_0,w1:=c1_1,w2:=c1_2,w3:=c1_3}
 let z7:aa:= {w0:=z2,w1:=z3,w2:=z4,w3:=z5}
 let z8:aa:=bP (aa.nat z6) z7 z7
 let z9:List UInt64:=List.set (List.set (List.set (List.set c6 0 z8.w0) 1 z8.w1) 2 z8.w2) 3 z8.w3
 (gd [z1,decide (4<=List.length c2)] (.br (!(z2==List.getD c2 0 0&&(z3==List.getD c2 1 0&&(z4==List.getD c2 2 0&&(z5==List.getD c2 3 0&&true)))))
 (.br (decide (a18<a17))
  (gd [z1,z1,fZ (((z6,c1_4,c1_5,c1_6,{w0:=c1_7,w1:=c1_8,w2:=c1_9,w3:=c1_10}),z7,z7,()),()),decide ((4/1:Nat)+0<=z0),decide (4<=List.length z9),inR (a18+(1:Int))] (.ok (.inl (((),((),((),((),((),((),(a17,(a18+(1:Int),((),()))))))))),(c0,((c1_0,(c1_1,(c1_2,(c1_3,(c1_4,(c1_5,(c1_6,(c1_7,(c1_8,(c1_9,(c1_10,()))))))))))),(c2,(c3,(c4,(c5,([List.getD z9 0 0,List.getD z9 1 0,List.getD z9 2 0,List.getD z9 3 0],())))))))))))
  (.ok (.inr ⟨(.exit 2,pc),(((),((),((),((),((),((),(a17,(a18,())))))))),(c0,((c1_0,(c1_1,(c1_2,(c1_3,(c1_4,(c1_5,(c1_6,(c1_7,(c1_8,(c1_9,(c1_10,()))))))))))),(c2,(c3,(c4,(c5,())))))))⟩)))
 (.ok (.inr ⟨(.exit 2,pc),(((),((),((),((),((),((),(a17,(a18,())))))))),(c0,((c1_0,(c1_1,(c1_2,(c1_3,(c1_4,(c1_5,(c1_6,(c1_7,(c1_8,(c1_9,(c1_10,()))))))))))),(c2,(c3,(c4,(c5,())))))))⟩))))
def BJ (s:bM):OT (Sum bM aE):=aAm (s.1.2.2.2.2.2.2.1) (s.1.2.2.2.2.2.2.2.1) (s.2.1) (s.2.2.1.1) (s.2.2.1.2.1) (s.2.2.1.2.2.1) (s.2.2.1.2.2.2.1) (s.2.2.1.2.2.2.2.1) (s.2.2.1.2.2.2.2.2.1) (s.2.2.1.2.2.2.2.2.2.1) (s.2.2.1.2.2.2.2.2.2.2.1) (s.2.2.1.2.2.2.2.2.2.2.2.1) (s.2.2.1.2.2.2.2.2.2.2.2.2.1) (s.2.2.1.2.2.2.2.2.2.2.2.2.2.1) (s.2.2.2.1) (s.2.2.2.2.1) (s.2.2.2.2.2.1) (s.2.2.2.2.2.2.1) (s.2.2.2.2.2.2.2.1)
theorem aAf (s:bM) (Q:Sum bM aE->Prop):wps te uS av 1000 (aU (aU (aj Tryz.f97) 0) 2) (BF.inj s) (bY BF ajA (Q:Sum BF.T aE->Prop))=(BJ s).wpR Q:=by kernel_rfl
def Ik (g2_2:bM->ek) (s:bM):OT aE:=(.ok ⟨(.exit 2,pc),g2_2 s⟩)
def BE:Shape:=⟨126,[(4,.ptr 0 0 0),(6,.ptr 1 0 0),(8,.ptr 2 0 0),(12,.ptr 3 0 0),(13,.ptr 4 0 0),(16,.ptr 5 0 0),(18,.val false .int),(20,.ptr 6 0 0),(97,.val false .int),(98,.val false .int)],[(0,.row .u64),(1,.cells [.val false .u64,.val false .u64,.val false .u64,.val false .u64,.val false .int,.val false .u64,.val false .u64,.val false .u64,.val false .u64,.val false .u64,.val false .u64]),(2,.row .u64),(3,.row .u64),(4,.row .u64),(5,.row .u64),(6,.row .u64)],0,true⟩
abbrev bL:Type:=((Unit)×(Unit)×(Unit)×(Unit)×(Unit)×(Unit)×(Int)×(Unit)×(Int)×(Int)×Unit)×((List (UInt64))×((UInt64)×(UInt64)×(UInt64)×(UInt64)×(Int)×(UInt64)×(UInt64)×(UInt64)×(UInt64)×(UInt64)×(UInt64)×Unit)×(List (UInt64))×(List (UInt64))×(List (UInt64))×(List (UInt64))×(List (UInt64))×Unit)
def wc:Shape:=⟨126,[(4,.ptr 0 0 0),(6,.ptr 1 0 0),(8,.ptr 2 0 0),(12,.ptr 3 0 0),(13,.ptr 4 0 0),(16,.ptr 5 0 0),(18,.val false .int),(20,.ptr 6 0 0)],[(0,.row .u64),(1,.cells [.val false .u64,.val false .u64,.val false .u64,.val false .u64,.val false .int,.val false .u64,.val false .u64,.val false .u64,.val false .u64,.val false .u64,.val false .u64]),(2,.row .u64),(3,.row .u64),(4,.row .u64),(5,.row .u64),(6,.row .u64)],0,true⟩
abbrev ej:Type:=((Unit)×(Unit)×(Unit)×(Unit)×(Unit)×(Unit)×(Int)×(Unit)×Unit)×((List (UInt64))×((UInt64)×(UInt64)×(UInt64)×(UInt64)×(Int)×(UInt64)×(UInt64)×(UInt64)×(UInt64)×(UInt64)×(UInt64)×Unit)×(List (UInt64))×(List (UInt64))×(List (UInt64))×(List (UInt64))×(List (UInt64))×Unit)
def ajz:SE->Option Shape:=fC [(4,wc)] none
def aAl (a18:Int) (a97:Int) (a98:Int) (c0:List (UInt64)) (c1_0:UInt64) (c1_1:UInt64) (c1_2:UInt64) (c1_3:UInt64) (c1_4:Int) (c1_5:UInt64) (c1_6:UInt64) (c1_7:UInt64) (c1_8:UInt64) (c1_9:UInt64) (c1_10:UInt64) (c2:List (UInt64)) (c3:List (UInt64)) (c4:List (UInt64)) (c5:List (UInt64)) (c6:List (UInt64)):OT (Sum bL aE):=
 let z0:Nat:=List.length c6
 let z1:Bool:=decide (4<=z0)
 let z2:aa:= {w0:=c1_0,w1:=c1_1,w2:=c1_2,w3:=c1_3}
 let z3:aa:= {w0:=List.getD c6 0 0,w1:=List.getD c6 1 0,w2:=List.getD c6 2 0,w3:=List.getD c6 3 0}
 let z4:aa:=bP (aa.nat z2) z3 z3
 (.br (decide (a98<a97))
 (gd [z1,z1,fZ (((z2,c1_4,c1_5,c1_6,{w0:=c1_7,w1:=c1_8,w2:=c1_9,w3:=c1_10}),z3,z3,()),()),decide ((4/1:Nat)+0<=z0),inR (a98+(1:Int))] (.ok (.inl (((),((),((),((),((),((),(a18,((),(a97,(a98+(1:Int),())))))))))),(c0,((c1_0,(c1_1,(c1_2,(c1_3,(c1_4,(c1_5,(c1_6,(c1_7,(c1_8,(c1_9,(c1_10,()))))))))))),(c2,(c3,(c4,(c5,(List.set (List.set (List.set (List.set c6 0 z4.w0) 1 z4.w1) 2 z4.w2) 3 z4.w3,())))))))))))
 (.ok (.inr ⟨(.exit 4,wc),(((),((),((),((),((),((),(a18,((),())))))))),(c0,((c1_0,(c1_1,(c1_2,(c1_3,(c1_4,(c1_5,(c1_6,(c1_7,(c1_8,(c1_9,(c1_10,()))))))))))),(c2,(c3,(c4,(c5,(c6,()))))))))⟩)))
def BI (s:bL):OT (Sum bL aE):=aAl (s.1.2.2.2.2.2.2.1) (s.1.2.2.2.2.2.2.2.2.1) (s.1.2.2.2.2.2.2.2.2.2.1) (s.2.1) (s.2.2.1.1) (s.2.2.1.2.1) (s.2.2.1.2.2.1) (s.2.2.1.2.2.2.1) (s.2.2.1.2.2.2.2.1) (s.2.2.1.2.2.2.2.2.1) (s.2.2.1.2.2.2.2.2.2.1) (s.2.2.1.2.2.2.2.2.2.2.1) (s.2.2.1.2.2.2.2.2.2.2.2.1) (s.2.2.1.2.2.2.2.2.2.2.2.2.1) (s.2.2.1.2.2.2.2.2.2.2.2.2.2.1) (s.2.2.2.1) (s.2.2.2.2.1) (s.2.2.2.2.2.1) (s.2.2.2.2.2.2.1) (s.2.2.2.2.2.2.2.1)
theorem aAe (s:bL) (Q:Sum bL aE->Prop):wps te uS av 1000 (aU (aU (aj Tryz.f97) 0) 4) (BE.inj s) (bY BE ajz (Q:Sum BE.T aE->Prop))=(BI s).wpR Q:=by kernel_rfl
def Ij (g4_4:bL->ej) (s:bL):OT aE:=(.ok ⟨(.exit 4,wc),g4_4 s⟩)
def k9:Shape:=⟨126,[(4,.ptr 0 0 0),(5,.val false .int)],[(0,.row .u64)],0,true⟩
abbrev jF:Type:=((Unit)×(Int)×Unit)×((List (UInt64))×Unit)
def pd:Shape:=⟨126,[(4,.ptr 0 0 0),(6,.ptr 1 0 0),(16,.ptr 2 0 0)],[(0,.row .u64),(1,.cells [.val false .u64,.val false .u64,.val false .u64,.val false .u64,.val false .int,.val false .u64,.val false .u64,.val false .u64,.val false .u64,.val false .u64,.val false .u64]),(2,.row .u64)],0,true⟩
abbrev jG:Type:=((Unit)×(Unit)×(Unit)×Unit)×((List (UInt64))×((UInt64)×(UInt64)×(UInt64)×(UInt64)×(Int)×(UInt64)×(UInt64)×(UInt64)×(UInt64)×(UInt64)×(UInt64)×Unit)×(List (UInt64))×Unit)
def ajB:SE->Option Shape:=fC [(0,pd)] (some k9)
def Um (ok2:bM->Bool) (g2_2:bM->ek) (ok4:bL->Bool) (g4_4:bL->ej) (a17:Int) (c0:List (UInt64)) (c1_0:UInt64) (c1_1:UInt64) (c1_2:UInt64) (c1_3:UInt64) (c1_4:Int) (c1_5:UInt64) (c1_6:UInt64) (c1_7:UInt64) (c1_8:UInt64) (c1_9:UInt64) (c1_10:UInt64) (c2:List (UInt64)) (c3:List (UInt64)) (c4:List (UInt64)) (c5:List (UInt64)):OT (Sum bo aE):=
 let z0:Bool:=decide (4<=List.length c4)
 let z1:UInt64:=List.getD c4 0 0
 let z2:UInt64:=List.getD c4 1 0
 let z3:UInt64:=List.getD c4 2 0
 let z4:UInt64:=List.getD c4 3 0
 let z5:(PUnit×PUnit×PUnit×PUnit×PUnit×PUnit×Int×Int×PUnit×PUnit)×List UInt64×(UInt64×UInt64×UInt64×UInt64×Int×UInt64×UInt64×UInt64×UInt64×UInt64×UInt64×PUnit)×List UInt64×List UInt64×List UInt64×List UInt64×List UInt64×PUnit:=(((),(),(),(),(),(),a17,(0:Int),(),()),c0,(c1_0,c1_1,c1_2,c1_3,c1_4,c1_5,c1_6,c1_7,c1_8,c1_9,c1_10,()),c2,c3,c4,c5,[z1,z2,z3,z4],())
 let z6:(PUnit×PUnit×PUnit×PUnit×PUnit×PUnit×Int×Int×PUnit)×List UInt64×(UInt64×UInt64×UInt64×UInt64×Int×UInt64×UInt64×UInt64×UInt64×UInt64×UInt64×PUnit)×List UInt64×List UInt64×List UInt64×List UInt64×PUnit:=g2_2 z5
 let z7:=z6.fst.snd.snd.snd.snd.snd.snd
 let z8:=z7.snd.fst
 let z9:=z7.fst
 let z10:=z6.snd
 let z11:=z10.fst
 let z12:=z10.snd
 let z13:=z12.snd
 let z14:=z13.snd
 let z15:=z14.fst
 let z16:Int:=z9-z8
 let z17:=z12.fst
 let z18:=z17.snd
 let z19:=z18.snd
 let z20:=z19.snd
 let z21:=z20.snd
 let z22:=z21.snd
 let z23:=z22.snd
 let z24:=z23.snd
 let z25:=z24.snd
 let z26:=z25.snd
 let z27:=z14.snd
 let z28:(PUnit×PUnit×PUnit×PUnit×PUnit×PUnit×Int×PUnit×Int×Int×PUnit)×List UInt64×(UInt64×UInt64×UInt64×UInt64×Int×UInt64×UInt64×UInt64×UInt64×UInt64×UInt64×PUnit)×List UInt64×List UInt64×List UInt64×List UInt64×List UInt64×PUnit:=(((),(),(),(),(),(),z8,(),z16-(1:Int),(0:Int),()),z11,(z17.fst,z18.fst,z19.fst,z20.fst,z21.fst,z22.fst,z23.fst,z24.fst,z25.fst,z26.fst,z26.snd.fst,()),z13.fst,z15,z27.fst,z27.snd.fst,[List.getD z15 0 0,List.getD z15 1 0,List.getD z15 2 0,List.getD z15 3 0],())
 let z29:(PUnit×PUnit×PUnit×PUnit×PUnit×PUnit×Int×PUnit×PUnit)×List UInt64×(UInt64×UInt64×UInt64×UInt64×Int×UInt64×UInt64×UInt64×UInt64×UInt64×UInt64×PUnit)×List UInt64×List UInt64×List UInt64×List UInt64×List UInt64×PUnit:=g4_4 z28
 let z30:=z29.snd
 let z31:=z30.snd
 let z32:=z31.snd
 let z33:=z32.snd
 let z34:=z33.snd
 let z35:=z34.snd
 let z36:=z35.snd.fst
 let z37:Bool:=decide (4<=List.length z36)
 let z38:=z31.fst
 let z39:=z38.fst
 let z40:=z38.snd
 let z41:=z40.fst
 let z42:=z40.snd
 let z43:=z42.fst
 let z44:=z42.snd
 let z45:=z44.fst
 let z46:aa:= {w0:=z39,w1:=z41,w2:=z43,w3:=z45}
 let z47:=z44.snd
 let z48:=z47.fst
 let z49:=z47.snd
 let z50:=z49.fst
 let z51:=z49.snd
 let z52:=z51.fst
 let z53:=z51.snd
 let z54:=z53.fst
 let z55:=z53.snd
 let z56:=z55.fst
 let z57:=z55.snd
 let z58:=z57.fst
 let z59:=z57.snd.fst
 let z60:aa×Int×UInt64×UInt64×aa:=(z46,z48,z50,z52,{w0:=z54,w1:=z56,w2:=z58,w3:=z59})
 let z61:aa:= {w0:=List.getD z36 0 0,w1:=List.getD z36 1 0,w2:=List.getD z36 2 0,w3:=List.getD z36 3 0}
 let z62:aa×PUnit:=(z61,())
 let z63:=z33.fst
 let z64:=z34.fst
 let z65:Nat:=List.length z64
 let z66:Nat:=aa.nat z46
 let z67:aa:=bP z66 z61 z61
 let z68:List UInt64:=List.set (List.set (List.set (List.set z63 0 z67.w0) 1 z67.w1) 2 z67.w2) 3 z67.w3
 let z69:aa:= {w0:=List.getD z64 0 0,w1:=List.getD z64 1 0,w2:=List.getD z64 2 0,w3:=List.getD z64 3 0}
 let z70:aa:= {w0:=List.getD z68 0 0,w1:=List.getD z68 1 0,w2:=List.getD z68 2 0,w3:=List.getD z68 3 0}
 let z71:=z35.fst
 let z72:Nat:=List.length z71
 let z73:aa:= {w0:=List.getD z71 0 0,w1:=List.getD z71 1 0,w2:=List.getD z71 2 0,w3:=List.getD z71 3 0}
 let z74:aa:=bP z66 z69 z70
 let z75:aa:=bP z66 z73 z61
 (gd [z0,decide (4<=List.length c2)] (.br (!(z1==List.getD c2 0 0&&(z2==List.getD c2 1 0&&(z3==List.getD c2 2 0&&(z4==List.getD c2 3 0&&true)))))
 (gd [z0,ok2 z5] (.br (z8==z9)
  (gd [decide (4<=List.length z11)] (.ok (.inr ⟨(.ret,k9),(((),((22:Int),())),(List.set (List.set (List.set (List.set z11 0 (0:UInt64)) 1 (0:UInt64)) 2 (0:UInt64)) 3 (0:UInt64),()))⟩)))
  (gd [decide (4<=List.length z15),inR z16,inR (z16-(1:Int)),ok4 z28,z37,z37,fZ ((z60,z61,z62),()),decide ((4/1:Nat)+0<=List.length z63),decide (4<=z65),decide (4<=List.length z68),fZ ((z60,z69,z70,()),()),decide ((4/1:Nat)+0<=z65),decide (4<=z72),z37,fZ ((z60,z73,z62),()),decide ((4/1:Nat)+0<=z72)] (.ok (.inl (((),((),((),((),((),((),(z29.fst.snd.snd.snd.snd.snd.snd.fst,()))))))),(z30.fst,((z39,(z41,(z43,(z45,(z48,(z50,(z52,(z54,(z56,(z58,(z59,()))))))))))),(z32.fst,(z68,(List.set (List.set (List.set (List.set z64 0 z74.w0) 1 z74.w1) 2 z74.w2) 3 z74.w3,(List.set (List.set (List.set (List.set z71 0 z75.w0) 1 z75.w1) 2 z75.w2) 3 z75.w3,()))))))))))))
 (.ok (.inr ⟨(.exit 0,pd),(((),((),((),()))),(c0,((c1_0,(c1_1,(c1_2,(c1_3,(c1_4,(c1_5,(c1_6,(c1_7,(c1_8,(c1_9,(c1_10,()))))))))))),(c5,()))))⟩))))
def we (ok2:bM->Bool) (g2_2:bM->ek) (ok4:bL->Bool) (g4_4:bL->ej) (s:bo):OT (Sum bo aE):=Um ok2 g2_2 ok4 g4_4 (s.1.2.2.2.2.2.2.1) (s.2.1) (s.2.2.1.1) (s.2.2.1.2.1) (s.2.2.1.2.2.1) (s.2.2.1.2.2.2.1) (s.2.2.1.2.2.2.2.1) (s.2.2.1.2.2.2.2.2.1) (s.2.2.1.2.2.2.2.2.2.1) (s.2.2.1.2.2.2.2.2.2.2.1) (s.2.2.1.2.2.2.2.2.2.2.2.1) (s.2.2.1.2.2.2.2.2.2.2.2.2.1) (s.2.2.1.2.2.2.2.2.2.2.2.2.2.1) (s.2.2.2.1) (s.2.2.2.2.1) (s.2.2.2.2.2.1) (s.2.2.2.2.2.2.1)
theorem aAg (ok2:bM->Bool) (g2_2:bM->ek) (ok4:bL->Bool) (g4_4:bL->ej) (s:bo) (Q:Sum bo aE->Prop):wps te uS (aO 4 (cl BE 4 ok4 (Ij g4_4)) (aO 2 (cl BF 2 ok2 (Ik g2_2)) av)) 1000 (aU (aj Tryz.f97) 0) (BG.inj s) (bY BG ajB (Q:Sum BG.T aE->Prop))=(we ok2 g2_2 ok4 g4_4 s).wpR Q:=by kernel_rfl
def Il (g0_r:bo->jF) (c0_r:bo->Bool) (g0_0:bo->jG) (s:bo):OT aE:=(.br (c0_r s) (.ok ⟨(.ret,k9),g0_r s⟩) (.ok ⟨(.exit 0,pd),g0_0 s⟩))
def eD:az:=⟨[.val true .elem,.val false .int],[],false⟩
def YN:SV->Option az:=λ_=>some eD
def EY (ok2:bM->Bool) (g2_2:bM->ek) (ok4:bL->Bool) (g4_4:bL->ej) (ok0:bo->Bool) (g0_r:bo->jF) (c0_r:bo->Bool) (g0_0:bo->jG) (a0:Int) (a1:aa):OT kq.Y:=
 let z0:aa×Int×UInt64×UInt64×aa:=aY (Int.toNat a0)
 let z1:=z0.fst
 let z2:aa:=ofN (aa.nat a1%aa.nat z1)
 let z3:aa:= {w0:=1,w1:=0,w2:=0,w3:=0}
 let z4:=(eu z1 z3).fst
 let z5:=z0.snd
 let z6:=z5.fst
 let z7:aa:= {w0:=5,w1:=0,w2:=0,w3:=0}
 let z8:aa:=dT z4 (Int.toNat z6)
 let z9:aa×PUnit:=(z8,())
 let z10:aa:=dp (qa z8 z3).fst
 let z11:=z5.snd
 let z12:=z11.snd
 let z13:=z12.snd
 let z14:Nat:=pS a0
 let z15:aa:=gO z14 z7 z8
 let z16:aa:=gO z14 z2 z8
 let z17:aa:=gO z14 z2 z10
 let z18:(PUnit×PUnit×PUnit×PUnit×PUnit×PUnit×Int×PUnit)×List UInt64×(UInt64×UInt64×UInt64×UInt64×Int×UInt64×UInt64×UInt64×UInt64×UInt64×UInt64×PUnit)×List UInt64×List UInt64×List UInt64×List UInt64×PUnit:=(((),(),(),(),(),(),z6,()),[(0:UInt64),(0:UInt64),(0:UInt64),(0:UInt64)],(z1.w0,z1.w1,z1.w2,z1.w3,z6,z11.fst,z12.fst,z13.w0,z13.w1,z13.w2,z13.w3,()),[(1:UInt64),(0:UInt64),(0:UInt64),(0:UInt64)],[z15.w0,z15.w1,z15.w2,z15.w3],[z16.w0,z16.w1,z16.w2,z16.w3],[z17.w0,z17.w1,z17.w2,z17.w3],())
 let z19:(PUnit×Int×PUnit)×List UInt64×PUnit:=g0_r z18
 let z20:=z19.snd.fst
 let z21:=(g0_0 z18).snd
 let z22:=z21.snd
 let z23:=z22.snd.fst
 let z24:Nat:=List.length z23
 let z25:UInt64:=List.getD z23 0 0
 let z26:Bool:=decide (4<=z24)
 let z27:=z22.fst
 let z28:=z27.snd
 let z29:=z28.snd
 let z30:=z29.snd
 let z31:aa:= {w0:=z27.fst,w1:=z28.fst,w2:=z29.fst,w3:=z30.fst}
 let z32:=z30.snd
 let z33:=z32.snd
 let z34:=z33.snd
 let z35:=z34.snd
 let z36:=z35.snd
 let z37:=z36.snd
 let z38:aa:= {w0:=z25,w1:=List.getD z23 1 0,w2:=List.getD z23 2 0,w3:=List.getD z23 3 0}
 let z39:aa:=zW (aa.nat z31) z38
 let z40:List UInt64:=List.set (List.set (List.set (List.set z23 0 z39.w0) 1 z39.w1) 2 z39.w2) 3 z39.w3
 let z41:=z21.fst
 let z42:Nat:=List.length z41
 let z43:List UInt64:=lay z41 z40 4 (0:UInt64)
 let z44:List UInt64:=lay z41 z23 4 (0:UInt64)
 (.br (ap a0)
 (gd [gx ((z0,a1,()),())] (.br (z2.w0==(0:UInt64)&&(z2.w1==(0:UInt64)&&(z2.w2==(0:UInt64)&&(z2.w3==(0:UInt64)&&true))))
  (.ok ⟨eD,((z2,((0:Int),())),())⟩)
  (gd [rb ((z4,z6,()),()),tQ ((a0,z7,z9),()),tQ ((a0,z2,z9),()),tQ ((a0,z2,z10,()),()),ok0 z18] (.br (c0_r z18)
   (gd [decide (4<=List.length z20)] (.ok ⟨eD,(({w0:=List.getD z20 0 0,w1:=List.getD z20 1 0,w2:=List.getD z20 2 0,w3:=List.getD z20 3 0},(z19.fst.snd.fst,())),())⟩))
   (gd [decide (0<z24)] (.br (z25&&&(1:UInt64)==(1:UInt64))
    (gd [z26,BQ (((z31,z32.fst,z33.fst,z34.fst,{w0:=z35.fst,w1:=z36.fst,w2:=z37.fst,w3:=z37.snd.fst}),z38,()),()),decide ((4/1:Nat)+0<=z24),decide (4<=List.length z40),decide ((4/1:Nat)+0<=z42),decide (4<=List.length z43)] (.ok ⟨eD,(({w0:=List.getD z43 0 0,w1:=List.getD z43 1 0,w2:=List.getD z43 2 0,w3:=List.getD z43 3 0},((0:Int),())),())⟩))
    (gd [z26,decide ((4/1:Nat)+0<=z42),decide (4<=List.length z44)] (.ok ⟨eD,(({w0:=List.getD z44 0 0,w1:=List.getD z44 1 0,w2:=List.getD z44 2 0,w3:=List.getD z44 3 0},((0:Int),())),())⟩))))))))
 (.ok ⟨eD,(({w0:=0,w1:=0,w2:=0,w3:=0},((20:Int),())),())⟩))
theorem aFz (ok2:bM->Bool) (g2_2:bM->ek) (ok4:bL->Bool) (g4_4:bL->ej) (ok0:bo->Bool) (g0_r:bo->jF) (c0_r:bo->Bool) (g0_0:bo->jG) (x:QQ) (Q:kq.Y->Prop):wpf te uS (aO 0 (cl BG 0 ok0 (Il g0_r c0_r g0_0)) av) 1000 Tryz.f97 (kq.inp.inj x).tm (kq.inp.inj x).hp (fnK kq YN Q) (λ_ _=>False)=(EY ok2 g2_2 ok4 g4_4 ok0 g0_r c0_r g0_0 (x.1.1) (x.1.2.1)).wpR Q:=by kernel_rfl
theorem ank (ok2:bM->Bool) (g2_2:bM->ek) (ok4:bL->Bool) (g4_4:bL->ej) (ok0:bo->Bool) (g0_r:bo->jF) (c0_r:bo->Bool) (g0_0:bo->jG) (h2:∀ s:bM,ok2 s=true->∃ m e,al (BJ) m s=some e/\(Ik g2_2 s).run=some e) (h4:∀ s:bL,ok4 s=true->∃ m e,al (BI) m s=some e/\(Ij g4_4 s).run=some e) (h0:∀ s:bo,ok0 s=true->∃ m e,al (we ok2 g2_2 ok4 g4_4) m s=some e/\(Il g0_r c0_r g0_0 s).run=some e) (pre:QQ->Bool) (F:QQ->OT kq.Y) (hF:∀ (x:QQ) oy,pre x=true->(F x).run=some oy->(EY ok2 g2_2 ok4 g4_4 ok0 g0_r c0_r g0_0 (x.1.1) (x.1.2.1)).run=some oy):ac Tryz.prog 97 (kq.aI pre F):=
 aD ar ld rK (f:=97) (fn:=Tryz.f97) (c:=aj Tryz.f97) (by kernel_rfl) (by kernel_rfl) (by kernel_rfl) (S:=kq) (k:=0) (by kernel_rfl) (λR hR=>(aB (c:=(aj Tryz.f97)) (by kernel_rfl) (id:=0) (by kernel_rfl) (aR ar ld rK (sh:=BG) hR (xs:=ajB) (aC (by kernel_rfl) (by kernel_rfl) hR) aL (aB (c:=(aU (aj Tryz.f97) 0)) (by kernel_rfl) (id:=4) (by kernel_rfl) (aR ar ld rK (sh:=BE) hR (xs:=ajz) (aC (by kernel_rfl) (by kernel_rfl) hR) aL af (n:=1000) (T:=BI) (λs Q=>aAe s Q) (ok:=ok4) (f:=Ij g4_4) h4) (aB (c:=(aU (aj Tryz.f97) 0)) (by kernel_rfl) (id:=2) (by kernel_rfl) (aR ar ld rK (sh:=BF) hR (xs:=ajA) (aC (by kernel_rfl) (by kernel_rfl) hR) aL af (n:=1000) (T:=BJ) (λs Q=>aAf s Q) (ok:=ok2) (f:=Ik g2_2) h2) af)) (n:=1000) (T:=we ok2 g2_2 ok4 g4_4) (λs Q=>aAg ok2 g2_2 ok4 g4_4 s Q) (ok:=ok0) (f:=Il g0_r c0_r g0_0) h0) af)) (n:=1000) (sel:=YN) (λv o h=>by cases h;rfl) (pre:=pre) (F:=F) (T:=λx=>EY ok2 g2_2 ok4 g4_4 ok0 g0_r c0_r g0_0 (x.1.1) (x.1.2.1)) (λx Q=>aFz ok2 g2_2 ok4 g4_4 ok0 g0_r c0_r g0_0 x Q) hF
abbrev C11:Type:=UInt64×UInt64×UInt64×UInt64×Int×UInt64×UInt64×UInt64×UInt64×UInt64×UInt64×Unit
def p9 (c:C11):O1:=(⟨c.1,c.2.1,c.2.2.1,c.2.2.2.1⟩,c.2.2.2.2.1,c.2.2.2.2.2.1,c.2.2.2.2.2.2.1,⟨c.2.2.2.2.2.2.2.1,c.2.2.2.2.2.2.2.2.1,c.2.2.2.2.2.2.2.2.2.1,c.2.2.2.2.2.2.2.2.2.2.1⟩)
def kb (s:bM):Bool:=kl (p9 s.2.2.1)&&decide ((0<=s.1.2.2.2.2.2.2.1/\s.1.2.2.2.2.2.2.1<=1000)/\s.1.2.2.2.2.2.2.2.1=0/\s.2.2.2.1= [1,0,0,0]/\s.2.2.2.2.2.2.2.1.length=4)
def qZ (s:bM):ek:=(((),(),(),(),(),(),s.1.2.2.2.2.2.2.1,(kF (p9 s.2.2.1).1.nat s.1.2.2.2.2.2.2.1.toNat (elemOf s.2.2.2.2.2.2.2.1) 0:Int),()),(s.2.1,s.2.2.1,s.2.2.2.1,s.2.2.2.2.1,s.2.2.2.2.2.1,s.2.2.2.2.2.2.1,()))
def abA (c0:List UInt64) (C:C11) (z t x:List UInt64) (m k:Int) (u:aa):bM:=(((),(),(),(),(),(),m,k,(),()),(c0,C,lst eP,z,t,x,lst u,()))
theorem ah2 (c0:List UInt64) (C:C11) (z t x:List UInt64) (m:Nat) (hC:kl (p9 C)=true) (hm:m<=1000):∀ (n k:Nat) (u:aa),k+n=m->
 ∃ j,al BJ j (abA c0 C z t x (m:Int) (k:Int) u)=some ⟨(.exit 2,pc),(((),(),(),(),(),(),(m:Int),(kF (p9 C).1.nat n u k:Int),()),(c0,C,lst eP,z,t,x,()))⟩
 |0,k,u,h=>by
  refine ⟨1,aM ?_⟩
  refine (ah rfl).trans ?_
  rcases (Bool.eq_false_or_eq_true (eqE u eP)).symm with hq|hq
  ·exact (OT.ao (b:= !eqE u eP) (by rw [hq];rfl)).trans (OT.aq (decide_eq_false (by dsimp only [abA];omega)))
  ·exact OT.aq (b:= !eqE u eP) (by rw [hq];rfl)
 |n+1,k,u,h=>by
  unfold kF
  rcases (Bool.eq_false_or_eq_true (eqE u eP)).symm with hq|hq
  ·rw [hq]
   obtain ⟨j,hj⟩:=ah2 c0 C z t x m hC hm n (k+1) (bP (p9 C).1.nat u u) (by omega)
   refine ⟨j+1,aF ?_ hj⟩
   refine (ah rfl).trans ((OT.ao (b:= !eqE u eP) (by rw [hq];rfl)).trans ((OT.ao (decide_eq_true (by dsimp only [abA];omega))).trans ((ah ?_).trans rfl)))
   simp only [List.all_cons,List.all_nil,Bool.and_true,Bool.and_eq_true]
   exact ⟨rfl,rfl,hC,rfl,rfl,aH (by dsimp only [abA];omega)⟩
  ·rw [hq]
   refine ⟨1,aM ?_⟩
   exact (ah rfl).trans (OT.aq (b:= !eqE u eP) (by rw [hq];rfl))
theorem aAj:∀ s:bM,kb s=true->∃ m e,al BJ m s=some e/\(Ik qZ s).run=some e:=by
 rintro ⟨⟨⟨⟩,⟨⟩,⟨⟩,⟨⟩,⟨⟩,⟨⟩,m,k,⟨⟩,⟨⟩⟩,⟨c0,C,one,z,t,x,u,⟨⟩⟩⟩ h
 simp only [kb,Bool.and_eq_true,decide_eq_true_eq] at h
 obtain ⟨hC,⟨h0,h1⟩,rfl,rfl,hu⟩:=h
 obtain ⟨v,rfl⟩:∃ a,u=lst a:=⟨elemOf u,(aS hu).symm⟩
 obtain ⟨n,rfl⟩:∃ n:Nat,m=(n:Int):=⟨m.toNat,by omega⟩
 obtain ⟨j,hj⟩:=ah2 c0 C z t x n hC (by omega) n 0 v (by omega)
 exact ⟨j,_,hj,rfl⟩
def ka (s:bL):Bool:=kl (p9 s.2.2.1)&&decide ((0<=s.1.2.2.2.2.2.2.2.2.1/\s.1.2.2.2.2.2.2.2.2.1<=1000)/\s.1.2.2.2.2.2.2.2.2.2.1=0/\s.2.2.2.2.2.2.2.1.length=4)
def qY (s:bL):ej:=(((),(),(),(),(),(),s.1.2.2.2.2.2.2.1,(),()),(s.2.1,s.2.2.1,s.2.2.2.1,s.2.2.2.2.1,s.2.2.2.2.2.1,s.2.2.2.2.2.2.1,lst (sqN (p9 s.2.2.1).1.nat (elemOf s.2.2.2.2.2.2.2.1) s.1.2.2.2.2.2.2.2.2.1.toNat),()))
theorem aAi:∀ s:bL,ka s=true->∃ m e,al BI m s=some e/\(Ij qY s).run=some e:=by
 rintro ⟨⟨⟨⟩,⟨⟩,⟨⟩,⟨⟩,⟨⟩,⟨⟩,k,⟨⟩,n,i,⟨⟩⟩,⟨c0,C,one,z,t,x,u,⟨⟩⟩⟩ h
 simp only [ka,Bool.and_eq_true,decide_eq_true_eq] at h
 obtain ⟨hC,⟨h0,h1⟩,rfl,hu⟩:=h
 obtain ⟨v,rfl⟩:∃ a,u=lst a:=⟨elemOf u,(aS hu).symm⟩
 obtain ⟨d,rfl⟩:∃ d:Nat,n=(d:Int):=⟨n.toNat,by omega⟩
 have:=(aP (T:=BI) (λi u=>((((),(),(),(),(),(),k,(),(d:Int),(i:Int),()),(c0,C,one,z,t,x,lst u,())):bL)) (λ_ e=>bP (p9 C).1.nat e e)
  (λu=>(⟨(.exit 4,wc),(((),(),(),(),(),(),k,(),()),(c0,C,one,z,t,x,lst u,()))⟩:aE)) d v (λ_ _=>True) trivial (λi u hi _=>⟨?_,trivial⟩) (λu _=> ?_)).1
 ·obtain ⟨m,hm⟩:=this
  exact ⟨m,_,hm,rfl⟩
 ·refine (OT.ao (decide_eq_true (by dsimp only;omega))).trans ((ah ?_).trans rfl)
  simp only [List.all_cons,List.all_nil,Bool.and_true,Bool.and_eq_true]
  exact ⟨rfl,rfl,hC,rfl,aH (by omega)⟩
 ·exact OT.aq (decide_eq_false (by dsimp only;omega))
def aEc (c0:aa) (C:C11) (m:Int) (w:Ton):bo:=(((),(),(),(),(),(),m,()),(lst c0,C,lst eP,lst w.2.2,lst w.2.1,lst w.1,()))
theorem aEb {ok2:bM->Bool} {g2:bM->ek} {ok4:bL->Bool} {g4:bL->ej} {c0:aa} {C:C11} {m k:Nat} {w:Ton} {b:aa} (hC:kl (p9 C)=true) (hm:m<=1000) (hq:eqE w.2.1 eP=false)
 (h2:ok2 (abA (lst c0) C (lst w.2.2) (lst w.2.1) (lst w.1) (m:Int) 0 w.2.1)=true)
 (e2:g2 (abA (lst c0) C (lst w.2.2) (lst w.2.1) (lst w.1) (m:Int) 0 w.2.1)=(((),(),(),(),(),(),(m:Int),(k:Int),()),(lst c0,C,lst eP,lst w.2.2,lst w.2.1,lst w.1,()))) (hk:k<=m)
 (h4:k<m->ok4 (((),(),(),(),(),(),(k:Int),(),(m:Int)-(k:Int)-1,0,()),(lst c0,C,lst eP,lst w.2.2,lst w.2.1,lst w.1,lst w.2.2,()))=true)
 (e4:g4 (((),(),(),(),(),(),(k:Int),(),(m:Int)-(k:Int)-1,0,()),(lst c0,C,lst eP,lst w.2.2,lst w.2.1,lst w.1,lst w.2.2,()))=(((),(),(),(),(),(),(k:Int),(),()),(lst c0,C,lst eP,lst w.2.2,lst w.2.1,lst w.1,lst b,()))):
 (we ok2 g2 ok4 g4 (aEc c0 C (m:Int) w)).run=cond (Nat.beq k m) (some (.inr ⟨(.ret,k9),(((),(22:Int),()),(lst ⟨0,0,0,0⟩,()))⟩))
  (some (.inl (aEc c0 C (k:Int) (bP (p9 C).1.nat w.1 b,bP (p9 C).1.nat w.2.1 (bP (p9 C).1.nat b b),bP (p9 C).1.nat b b)))):=by
 obtain ⟨x,t,z⟩:=w
 unfold abA at h2 e2
 have hb:∀ e:aa,[List.getD (lst e) 0 0,List.getD (lst e) 1 0,List.getD (lst e) 2 0,List.getD (lst e) 3 0]=lst e:=λ_=>rfl
 have hpre:∀ a c:aa,fZ ((p9 C,a,c,()),())=true:=λ_ _=>hC
 have e2':g2 (((),(),(),(),(),(),(m:Int),0,(),()),(lst c0,(C.1,C.2.1,C.2.2.1,C.2.2.2.1,C.2.2.2.2.1,C.2.2.2.2.2.1,C.2.2.2.2.2.2.1,C.2.2.2.2.2.2.2.1,C.2.2.2.2.2.2.2.2.1,C.2.2.2.2.2.2.2.2.2.1,C.2.2.2.2.2.2.2.2.2.2.1,()),lst eP,lst z,lst t,lst x,lst t,()))=(((),(),(),(),(),(),(m:Int),(k:Int),()),(lst c0,C,lst eP,lst z,lst t,lst x,())):=e2
 have e4':g4 (((),(),(),(),(),(),(k:Int),(),(m:Int)-(k:Int)-1,0,()),(lst c0,(C.1,C.2.1,C.2.2.1,C.2.2.2.1,C.2.2.2.2.1,C.2.2.2.2.2.1,C.2.2.2.2.2.2.1,C.2.2.2.2.2.2.2.1,C.2.2.2.2.2.2.2.2.1,C.2.2.2.2.2.2.2.2.2.1,C.2.2.2.2.2.2.2.2.2.2.1,()),lst eP,lst z,lst t,lst x,lst z,()))=(((),(),(),(),(),(),(k:Int),(),()),(lst c0,C,lst eP,lst z,lst t,lst x,lst b,())):=e4
 show (Um ok2 g2 ok4 g4 (m:Int) (lst c0) C.1 C.2.1 C.2.2.1 C.2.2.2.1 C.2.2.2.2.1 C.2.2.2.2.2.1 C.2.2.2.2.2.2.1 C.2.2.2.2.2.2.2.1 C.2.2.2.2.2.2.2.2.1 C.2.2.2.2.2.2.2.2.2.1 C.2.2.2.2.2.2.2.2.2.2.1 (lst eP) (lst z) (lst t) (lst x)).run=_
 unfold Um
 simp only [hb,e2',e4']
 refine (ah rfl).trans ((OT.ao (b:= !eqE t eP) (by rw [hq];rfl)).trans ((ah ?_).trans ?_))
 ·simp only [List.all_cons,List.all_nil,Bool.and_true,Bool.and_eq_true]
  exact ⟨rfl,h2⟩
 ·by_cases h:k=m
  ·subst h
   rw [Nat.beq_refl]
   refine (OT.ao (beq_self_eq_true _)).trans ((ah rfl).trans rfl)
  ·have hn:Nat.beq k m=false:=by
    cases hb:Nat.beq k m
    ·rfl
    ·exact absurd (Nat.eq_of_beq_eq_true hb) h
   rw [hn]
   refine (OT.aq ?_).trans ((ah ?_).trans rfl)
   ·exact beq_false_of_ne (λe=>h (by omega))
   ·simp only [List.all_cons,List.all_nil,Bool.and_true,Bool.and_eq_true]
    exact ⟨rfl,aH (by omega),aH (by omega),h4 (by omega),rfl,rfl,hC,rfl,rfl,rfl,hC,rfl,rfl,rfl,hC,rfl⟩
def aHt (c0:aa) (C:C11):Option aa->aE
 |some x=>⟨(.exit 0,pd),(((),(),(),()),(lst c0,C,lst x,()))⟩
 |none=>⟨(.ret,k9),(((),(22:Int),()),(lst ⟨0,0,0,0⟩,()))⟩
theorem ah3 (c0:aa) (C:C11) (hC:kl (p9 C)=true):∀ (f m:Nat) (w:Ton),m<f->m<=1000->
 ∃ j,al (we kb qZ ka qY) j (aEc c0 C (m:Int) w)=some (aHt c0 C (tsF (p9 C).1.nat f m w))
 |0,m,w,h,_=>absurd h (Nat.not_lt_zero _)
 |f+1,m,w,hf,hm=>by
  unfold tsF
  rcases (Bool.eq_false_or_eq_true (eqE w.2.1 eP)).symm with hq|hq
  ·rw [hq]
   simp only [cond_false]
   have hk:kF (p9 C).1.nat m w.2.1 0<=m:=by
    have key:∀ (n:Nat) (s:aa) (k:Nat),kF (p9 C).1.nat n s k<=k+n:=by
     intro n
     induction n with
     |zero=>intro s k;exact Nat.le_refl _
     |succ n ih=>
      intro s k
      unfold kF
      cases eqE s eP
      ·have:=ih (bP (p9 C).1.nat s s) (k+1)
       simp only [cond_false]
       omega
      ·simp only [cond_true]
       omega
    have:=key m w.2.1 0
    omega
   have hst:=aEb (ok2:=kb) (g2:=qZ) (ok4:=ka) (g4:=qY) (c0:=c0) (C:=C) (m:=m) (k:=kF (p9 C).1.nat m w.2.1 0) (w:=w) (b:=tsB (p9 C).1.nat m (kF (p9 C).1.nat m w.2.1 0) w) hC hm hq
    (by
     refine (Bool.and_eq_true _ _).mpr ⟨hC,decide_eq_true ⟨⟨?_,?_⟩,rfl,rfl,rfl⟩⟩
     ·show (0:Int)<=(m:Int);omega
     ·show (m:Int)<=1000;omega) rfl hk
    (λhlt=>by
     refine (Bool.and_eq_true _ _).mpr ⟨hC,decide_eq_true ⟨⟨?_,?_⟩,rfl,rfl⟩⟩
     ·show (0:Int)<=(m:Int)-(kF (p9 C).1.nat m w.2.1 0:Int)-1;omega
     ·show (m:Int)-(kF (p9 C).1.nat m w.2.1 0:Int)-1<=1000;omega)
    (by
     have e:((m:Int)-(kF (p9 C).1.nat m w.2.1 0:Int)-1).toNat=m-kF (p9 C).1.nat m w.2.1 0-1:=by omega
     show (((),(),(),(),(),(),(kF (p9 C).1.nat m w.2.1 0:Int),(),()),(lst c0,C,lst eP,lst w.2.2,lst w.2.1,lst w.1,lst (sqN (p9 C).1.nat w.2.2 ((m:Int)-(kF (p9 C).1.nat m w.2.1 0:Int)-1).toNat),()))=_
     rw [e]
     rfl)
   cases hb:Nat.beq (kF (p9 C).1.nat m w.2.1 0) m
   ·rw [hb] at hst
    have hne:=yV hb
    obtain ⟨j,hj⟩:=ah3 c0 C hC f (kF (p9 C).1.nat m w.2.1 0) (tsW (p9 C).1.nat m (kF (p9 C).1.nat m w.2.1 0) w) (by omega) (by omega)
    exact ⟨j+1,aF hst hj⟩
   ·rw [hb] at hst
    exact ⟨1,aM hst⟩
  ·rw [hq]
   simp only [cond_true]
   refine ⟨1,aM ?_⟩
   exact (ah rfl).trans (OT.aq (b:= !eqE w.2.1 eP) (by rw [hq];rfl))
def tA (s:bo):Option aa:=tsF (p9 s.2.2.1).1.nat (s.1.2.2.2.2.2.2.1.toNat+1) s.1.2.2.2.2.2.2.1.toNat (elemOf s.2.2.2.2.2.2.1,elemOf s.2.2.2.2.2.1,elemOf s.2.2.2.2.1)
def pb (s:bo):Bool:=kl (p9 s.2.2.1)&&decide ((0<=s.1.2.2.2.2.2.2.1/\s.1.2.2.2.2.2.2.1<=1000)/\s.2.1.length=4/\s.2.2.2.1= [1,0,0,0]/\s.2.2.2.2.1.length=4/\s.2.2.2.2.2.1.length=4/\s.2.2.2.2.2.2.1.length=4)
def Im (s:bo):Bool:=(tA s).isNone
def BH (_:bo):jF:=(((),(22:Int),()),(lst ⟨0,0,0,0⟩,()))
def Ii (s:bo):jG:=(((),(),(),()),(s.2.1,s.2.2.1,lst ((tA s).getD ⟨0,0,0,0⟩),()))
theorem aAk:∀ s:bo,pb s=true->∃ m e,al (we kb qZ ka qY) m s=some e/\(Il BH Im Ii s).run=some e:=by
 rintro ⟨⟨⟨⟩,⟨⟩,⟨⟩,⟨⟩,⟨⟩,⟨⟩,m,⟨⟩⟩,⟨c0,C,one,z,t,x,⟨⟩⟩⟩ h
 simp only [pb,Bool.and_eq_true,decide_eq_true_eq] at h
 obtain ⟨hC,⟨h0,h1⟩,hc,rfl,hz,ht,hx⟩:=h
 obtain ⟨c,rfl⟩:∃ a,c0=lst a:=⟨elemOf c0,(aS hc).symm⟩
 obtain ⟨Z,rfl⟩:∃ a,z=lst a:=⟨elemOf z,(aS hz).symm⟩
 obtain ⟨T,rfl⟩:∃ a,t=lst a:=⟨elemOf t,(aS ht).symm⟩
 obtain ⟨X,rfl⟩:∃ a,x=lst a:=⟨elemOf x,(aS hx).symm⟩
 obtain ⟨n,rfl⟩:∃ n:Nat,m=(n:Int):=⟨m.toNat,by omega⟩
 obtain ⟨j,hj⟩:=ah3 c C hC (n+1) n (X,T,Z) (by omega) (by omega)
 refine ⟨j,_,hj,?_⟩
 show (OT.br (tsF (p9 C).1.nat (n+1) n (X,T,Z)).isNone (.ok ⟨(.ret,k9),_⟩) (.ok ⟨(.exit 0,pd),(((),(),(),()),(lst c,C,lst ((tsF (p9 C).1.nat (n+1) n (X,T,Z)).getD ⟨0,0,0,0⟩),()))⟩):OT aE).run=some (aHt c C (tsF (p9 C).1.nat (n+1) n (X,T,Z)))
 cases tsF (p9 C).1.nat (n+1) n (X,T,Z)<;>rfl
def YO (_:QQ):Bool:=true
def aub (x:QQ):OT kq.Y:=.br (ap x.1.1) (.br (bU (ofP (pS x.1.1) x.1.2.1)) (.ok ⟨eD,((⟨0,0,0,0⟩,((0:Int),())),())⟩)
 (.br (eqE (gO (pS x.1.1) (ofP (pS x.1.1) x.1.2.1) (dp (eu (aY x.1.1.toNat).1 eP).1)) eP) (.ok ⟨eD,((kS (pS x.1.1) (sr x.1.1 (ofP (pS x.1.1) x.1.2.1)),((0:Int),())),())⟩) (.ok ⟨eD,((⟨0,0,0,0⟩,((22:Int),())),())⟩)))
 (.ok ⟨eD,((⟨0,0,0,0⟩,((20:Int),())),())⟩)
def aJC (n:O1):C11:=(n.1.w0,n.1.w1,n.1.w2,n.1.w3,n.2.1,n.2.2.1,n.2.2.2.1,n.2.2.2.2.w0,n.2.2.2.2.w1,n.2.2.2.2.w2,n.2.2.2.2.w3,())
abbrev Wf (n:O1) (z t x:aa):bo:=(((),(),(),(),(),(),n.2.1,()),[0,0,0,0],(n.1.w0,n.1.w1,n.1.w2,n.1.w3,n.2.1,n.2.2.1,n.2.2.2.1,n.2.2.2.2.w0,n.2.2.2.2.w1,n.2.2.2.2.w2,n.2.2.2.2.w3,()),[1,0,0,0],[z.w0,z.w1,z.w2,z.w3],[t.w0,t.w1,t.w2,t.w3],[x.w0,x.w1,x.w2,x.w3],())
theorem anl {ok2:bM->Bool} {g2:bM->ek} {ok4:bL->Bool} {g4:bL->ej} {ok0:bo->Bool} {g0r:bo->jF} {c0:bo->Bool} {g0:bo->jG} {s:Int} {a A z t x X:aa} {c:Bool}
 (hs:ap s=true) (k:akT s) (hA:ofN (a.nat%(aY s.toNat).1.nat)=A) (hz:bU A=false) (ez:gO (pS s) ⟨5,0,0,0⟩ (H9 s)=z) (et:gO (pS s) A (H9 s)=t) (ex:gO (pS s) A (dp (qa (H9 s) eP).1)=x)
 (h0:ok0 (Wf (aY s.toNat) z t x)=true) (hc:c0 (Wf (aY s.toNat) z t x)=c) (er:g0r (Wf (aY s.toNat) z t x)=(((),(22:Int),()),(lst ⟨0,0,0,0⟩,())))
 (e0:g0 (Wf (aY s.toNat) z t x)=(((),(),(),()),(lst ⟨0,0,0,0⟩,aJC (aY s.toNat),lst X,()))):
 (EY ok2 g2 ok4 g4 ok0 g0r c0 g0 s a).run=cond c (some ⟨eD,((⟨0,0,0,0⟩,((22:Int),())),())⟩) (some ⟨eD,((kS (pS s) X,((0:Int),())),())⟩):=by
 have ez':gO (pS s) ⟨5,0,0,0⟩ (dT (eu (aY s.toNat).1 ⟨1,0,0,0⟩).1 (aY s.toNat).2.1.toNat)=z:=ez
 have et':gO (pS s) A (dT (eu (aY s.toNat).1 ⟨1,0,0,0⟩).1 (aY s.toNat).2.1.toNat)=t:=et
 have ex':gO (pS s) A (dp (qa (dT (eu (aY s.toNat).1 ⟨1,0,0,0⟩).1 (aY s.toNat).2.1.toNat) ⟨1,0,0,0⟩).1)=x:=ex
 have hp1:rb (((eu (aY s.toNat).1 ⟨1,0,0,0⟩).1,(aY s.toNat).2.1,()),())=true:=by
  refine decide_eq_true ?_
  show 0<=(aY s.toNat).2.1/\(aY s.toNat).2.1<=1000000
  have h:=awk hs
  omega
 unfold EY
 simp only [hA,ez',et',ex',er,e0,hc]
 refine (OT.ao hs).trans ((ah ?_).trans ((OT.aq (b:=bU A) hz).trans ((ah ?_).trans ?_)))
 ·simp only [List.all_cons,List.all_nil,Bool.and_true]
  exact iP hs
 ·simp only [List.all_cons,List.all_nil,Bool.and_true,Bool.and_eq_true]
  exact ⟨hp1,hs,hs,hs,h0⟩
 ·cases c
  ·have hn:kl (p9 (aJC (aY s.toNat)))=true:=iP hs
   refine (OT.aq rfl).trans ((ah rfl).trans ?_)
   have ho:=azQ X
   unfold kS
   rcases (Bool.eq_false_or_eq_true (X.w0%2==1)).symm with h|h
   ·rw [h] at ho⊢
    exact (OT.aq ho).trans ((ah rfl).trans rfl)
   ·rw [h] at ho⊢
    refine (OT.ao ho).trans ((ah ?_).trans rfl)
    simp only [List.all_cons,List.all_nil,Bool.and_true,Bool.and_eq_true]
    exact ⟨rfl,hn,rfl,rfl,rfl,rfl⟩
  ·exact (OT.ao rfl).trans ((ah rfl).trans rfl)
theorem aAh:ac Tryz.prog 97 (kq.aI YO aub):=ank kb qZ ka qY pb BH Im Ii aAj aAi aAk _ _ λx oy hp ho=>by
 rw [<-ho]
 clear ho
 obtain ⟨⟨s,a,⟨⟩⟩,⟨⟩⟩:=x
 show (EY kb qZ ka qY pb BH Im Ii s a).run=(OT.br (ap s) (.br (bU (ofP (pS s) a)) (.ok ⟨eD,((⟨0,0,0,0⟩,((0:Int),())),())⟩)
  (.br (eqE (gO (pS s) (ofP (pS s) a) (dp (eu (aY s.toNat).1 eP).1)) eP) (.ok ⟨eD,((kS (pS s) (sr s (ofP (pS s) a)),((0:Int),())),())⟩) (.ok ⟨eD,((⟨0,0,0,0⟩,((22:Int),())),())⟩)))
  (.ok ⟨eD,((⟨0,0,0,0⟩,((20:Int),())),())⟩):OT kq.Y).run
 rcases (Bool.eq_false_or_eq_true (ap s)).symm with hs|hs
 ·exact (OT.aq hs).trans (OT.aq (b:=ap s) hs).symm
 ·have k:=I3 hs
  refine Eq.trans ?_ (OT.ao (b:=ap s) hs).symm
  have hA:ofN (a.nat%(aY s.toNat).1.nat)=ofP (pS s) a:=rfl
  have hlt:(ofP (pS s) a).nat<pS s:=by
   rw [show (ofP (pS s) a).nat=a.nat%pS s from dg k.sm]
   exact Nat.mod_lt _ k.pr.pos
  generalize ofP (pS s) a=A at*
  rcases (Bool.eq_false_or_eq_true (bU A)).symm with hz|hz
  ·refine Eq.trans ?_ (OT.aq (b:=bU A) hz).symm
   have hsame:=aCM k hlt hz
   have hres:tA (Wf (aY s.toNat) (fD s A).2.2 (fD s A).2.1 (fD s A).1)=tsF (pS s) (adS s+1) (adS s) (fD s A):=rfl
   have hbd:=awk hs
   have h0:pb (Wf (aY s.toNat) (fD s A).2.2 (fD s A).2.1 (fD s A).1)=true:=by
    refine (Bool.and_eq_true _ _).mpr ⟨iP hs,decide_eq_true ⟨⟨?_,?_⟩,rfl,rfl,rfl,rfl,rfl⟩⟩
    ·show 0<=(aY s.toNat).2.1;omega
    ·show (aY s.toNat).2.1<=1000;omega
   have main:=anl (ok2:=kb) (g2:=qZ) (ok4:=ka) (g4:=qY) (ok0:=pb) (g0r:=BH) (c0:=Im) (g0:=Ii) (X:=(tA (Wf (aY s.toNat) (fD s A).2.2 (fD s A).2.1 (fD s A).1)).getD ⟨0,0,0,0⟩) hs k hA hz rfl rfl rfl h0 rfl rfl rfl
   refine main.trans ?_
   show cond (tA (Wf (aY s.toNat) (fD s A).2.2 (fD s A).2.1 (fD s A).1)).isNone _ _=_
   rw [hres]
   rcases (Bool.eq_false_or_eq_true (eqE (gO (pS s) A (dp (eu (aY s.toNat).1 eP).1)) eP)).symm with h|h
   ·rw [h] at hsame
    refine Eq.trans ?_ (OT.aq h).symm
    cases ht:tsF (pS s) (adS s+1) (adS s) (fD s A) with
    |none=>rfl
    |some x=>rw [ht] at hsame;cases hsame
   ·rw [h] at hsame
    refine Eq.trans ?_ (OT.ao h).symm
    cases ht:tsF (pS s) (adS s+1) (adS s) (fD s A) with
    |none=>rw [ht] at hsame;cases hsame
    |some x=>
     rw [ht] at hsame
     have hsame:some (kS (pS s) x)=some (kS (pS s) (sr s A)):=hsame
     rw [<-Option.some.inj hsame]
     rfl
  ·refine Eq.trans ?_ (OT.ao (b:=bU A) hz).symm
   rw [zero_eq hz] at hA
   refine (OT.ao hs).trans ((ah ?_).trans ?_)
   ·simp only [List.all_cons,List.all_nil,Bool.and_true]
    exact iP hs
   ·rw [hA]
    rfl
def EX:cn:=(kq.aI YO aub)
theorem ad3:ac Tryz.prog 97 EX:=aAh
theorem ad2:aG EX:=aA
def F1:Env:=ay 97 EX uS
theorem xm:aQ Tryz.prog F1:=ag ad3 ld
theorem Hk:ax F1:=ae ad2 Hq
theorem Nx:aW Tryz.prog te F1:=aJ follows ar xm Hk
def fh:aw:=⟨[.val false .int,.val true .elem],[],true,0,false⟩
abbrev wx:Type:=((Int)×(aa)×Unit)×(Unit)
def pq:Shape:=⟨39,[(3,.ptr 0 0 0),(7,.own 1),(21,.val false .int),(22,.val false .int)],[(0,.row .u64),(1,.row .u8)],0,true⟩
abbrev cf:Type:=((Unit)×(Unit)×(Int)×(Int)×Unit)×((List (UInt64))×(List (UInt8))×Unit)
def ny:Shape:=⟨39,[(7,.own 0)],[(0,.row .u8)],0,true⟩
abbrev iY:Type:=((Unit)×Unit)×((List (UInt8))×Unit)
def Q4:SE->Option Shape:=fC [(0,ny)] none
def anW (a21:Int) (a22:Int) (c0:List (UInt64)) (c1:List (UInt8)):OT (Sum cf aE):=
 let z0:Int:=Int.tdiv a22 (8:Int)
 let z1:Int:=(8:Int)*Int.tmod a22 (8:Int)
 let z2:Nat:=List.length c1
 let z3:Nat:=Int.toNat a22
 (.br (decide (a22<a21))
 (gd [true&&inR z0,inB z0 4,decide (Int.toNat z0+0<List.length c0),inR z1,decide ((0:Int)<=z1),inB a22 z2,decide (z3<z2),inR (a22+(1:Int))] (.ok (.inl (((),((),(a21,(a22+(1:Int),())))),(c0,(List.set c1 z3 (UInt64.toUInt8 (bk (List.getD c0 (Int.toNat z0+0) (0:UInt64)) z1)),()))))))
 (.ok (.inr ⟨(.exit 0,ny),(((),()),(c1,()))⟩)))
def pu (s:cf):OT (Sum cf aE):=anW (s.1.2.2.1) (s.1.2.2.2.1) (s.2.1) (s.2.2.1)
theorem anT (s:cf) (Q:Sum cf aE->Prop):wps te F1 av 1000 (aU (aj Tryz.f53) 0) (pq.inj s) (bY pq Q4 (Q:Sum pq.T aE->Prop))=(pu s).wpR Q:=by kernel_rfl
def ww (g0_0:cf->iY) (s:cf):OT aE:=(.ok ⟨(.exit 0,ny),g0_0 s⟩)
def jJ:az:=⟨[.own 0],[(0,.row .u8)],false⟩
def LU:SV->Option az:=λ_=>some jJ
def LW (ok0:cf->Bool) (g0_0:cf->iY) (a0:Int) (a1:aa):OT fh.Y:=
 let z0:aa×Int×UInt64×UInt64×aa:=aY (Int.toNat a0)
 let z1:aa:=ofN (aa.nat a1%aa.nat z0.fst)
 let z2:(PUnit×PUnit×Int×Int×PUnit)×List UInt64×List UInt8×PUnit:=(((),(),(32:Int),(0:Int),()),[z1.w0,z1.w1,z1.w2,z1.w3],List.replicate 32 (0:UInt8),())
 (.br (ap a0)
 (gd [gx ((z0,a1,()),()),ok0 z2] (.ok ⟨jJ,(((),()),((g0_0 z2).snd.fst,()))⟩))
 (.ok ⟨jJ,(((),()),([],()))⟩))
theorem auH (ok0:cf->Bool) (g0_0:cf->iY) (x:wx) (Q:fh.Y->Prop):wpf te F1 (aO 0 (cl pq 0 ok0 (ww g0_0)) av) 1000 Tryz.f53 (fh.inp.inj x).tm (fh.inp.inj x).hp (fnK fh LU Q) (λ_ _=>False)=(LW ok0 g0_0 (x.1.1) (x.1.2.1)).wpR Q:=by kernel_rfl
theorem Zg (ok0:cf->Bool) (g0_0:cf->iY) (h0:∀ s:cf,ok0 s=true->∃ m e,al (pu) m s=some e/\(ww g0_0 s).run=some e) (pre:wx->Bool) (F:wx->OT fh.Y) (hF:∀ (x:wx) oy,pre x=true->(F x).run=some oy->(LW ok0 g0_0 (x.1.1) (x.1.2.1)).run=some oy):ac Tryz.prog 53 (fh.aI pre F):=
 aD ar xm Nx (f:=53) (fn:=Tryz.f53) (c:=aj Tryz.f53) (by kernel_rfl) (by kernel_rfl) (by kernel_rfl) (S:=fh) (k:=0) (by kernel_rfl) (λR hR=>(aB (c:=(aj Tryz.f53)) (by kernel_rfl) (id:=0) (by kernel_rfl) (aR ar xm Nx (sh:=pq) hR (xs:=Q4) (aC (by kernel_rfl) (by kernel_rfl) hR) aL af (n:=1000) (T:=pu) (λs Q=>anT s Q) (ok:=ok0) (f:=ww g0_0) h0) af)) (n:=1000) (sel:=LU) (λv o h=>by cases h;rfl) (pre:=pre) (F:=F) (T:=λx=>LW ok0 g0_0 (x.1.1) (x.1.2.1)) (λx Q=>auH ok0 g0_0 x Q) hF
def an8 (e:aa):List UInt8:=upto (λk o=>o.set k (UInt64.toUInt8 (bk ((lst e).getD (k/8) 0) (8*((k%8:Nat):Int))))) (List.replicate 32 0) 32
def zd (s:cf):Bool:=decide (s.1.2.2.1=32/\s.1.2.2.2.1=0/\s.2.1.length=4/\s.2.2.1=List.replicate 32 0)
def wv (s:cf):iY:=(((),()),(an8 (elemOf s.2.1),()))
theorem anV:∀ s:cf,zd s=true->∃ m e,al pu m s=some e/\(ww wv s).run=some e:=by
 rintro ⟨⟨⟨⟩,⟨⟩,n,i,⟨⟩⟩,⟨h,o,⟨⟩⟩⟩ hh
 have h':=of_decide_eq_true hh
 dsimp only at h'
 obtain ⟨rfl,rfl,hl,rfl⟩:=h'
 obtain ⟨e,rfl⟩:∃ e,h=lst e:=⟨elemOf h,(aS hl).symm⟩
 have:=(aP (T:=pu) (λi o=>((((),(),(32:Int),(i:Int),()),(lst e,o,())):cf)) (λk o=>o.set k (UInt64.toUInt8 (bk ((lst e).getD (k/8) 0) (8*((k%8:Nat):Int)))))
  (λo=>(⟨(.exit 0,ny),(((),()),(o,()))⟩:aE)) 32 (List.replicate 32 0) (λ_ o=>o.length=32) (by simp) (λi o hi ho=>⟨?_,by rw [List.length_set];exact ho⟩) (λo ho=> ?_)).1
 ·obtain ⟨m,hm⟩:=this
  exact ⟨m,_,hm,rfl⟩
 ·have t1:Int.tdiv (i:Int) 8=((i/8:Nat):Int):=by rw [Int.tdiv_eq_ediv_of_nonneg (by omega)];omega
  have t2:Int.tmod (i:Int) 8=((i%8:Nat):Int):=by rw [Int.tmod_eq_emod_of_nonneg (by omega)];omega
  refine (OT.ao (decide_eq_true (by dsimp only;omega))).trans ((ah ?_).trans ?_)
  ·simp only [t1,t2,cK,ho,Int.toNat_natCast,List.all_cons,List.all_nil,Bool.and_true,Bool.and_eq_true]
   exact ⟨⟨trivial,aH (by omega)⟩,aN (by omega),decide_eq_true (by omega),aH (by omega),decide_eq_true (by omega),aN (by omega),decide_eq_true (by omega),aH (by omega)⟩
  ·simp only [OT.cP,t1,t2,Int.toNat_natCast,Nat.add_zero]
   rfl
 ·exact OT.aq (decide_eq_false (by dsimp only;omega))
theorem ON (e:aa):zd (((),(),32,0,()),(lst e,List.replicate 32 0,()))=true:=decide_eq_true ⟨rfl,rfl,rfl,rfl⟩
theorem aem (z:aa):(OT.ok ⟨jJ,(((),()),((wv (((),(),32,0,()),([z.w0,z.w1,z.w2,z.w3],List.replicate 32 0,()))).2.1,()))⟩:OT fh.Y)=.ok ⟨jJ,(((),()),(an8 z,()))⟩:=by
 have e:elemOf [z.w0,z.w1,z.w2,z.w3]=z:=rfl
 simp only [wv,e]
def LV (_:wx):Bool:=true
def Zh (x:wx):OT fh.Y:=.br (ap x.1.1) (.ok ⟨jJ,(((),()),(an8 (ofN (x.1.2.1.nat%(aY x.1.1.toNat).1.nat)),()))⟩) (.ok ⟨jJ,(((),()),([],()))⟩)
theorem anU:ac Tryz.prog 53 (fh.aI LV Zh):=Zg zd wv anV _ _ λx oy hp ho=>by
 rw [<-ho]
 clear ho
 obtain ⟨⟨s,a,⟨⟩⟩,⟨⟩⟩:=x
 cases hs:ap s
 ·exact (OT.aq hs).trans (OT.aq (b:=ap s) hs).symm
 ·refine (OT.ao hs).trans ((ah ?_).trans ?_)
  ·simp only [List.all_cons,List.all_nil,Bool.and_true,Bool.and_eq_true]
   exact ⟨iP hs,ON _⟩
  ·refine Eq.trans ?_ (OT.ao (b:=ap s) hs).symm
   exact congrArg OT.run (aem (ofN (a.nat%(aY s.toNat).1.nat)))
def tR:cn:=(fh.aI LV Zh)
theorem UF:ac Tryz.prog 53 tR:=anU
theorem UE:aG tR:=aA
def uU:Env:=ay 53 tR F1
theorem uT:aQ Tryz.prog uU:=ag UF xm
theorem yb:ax uU:=ae UE Hk
theorem VM:aW Tryz.prog te uU:=aJ follows ar uT yb
end Go.Proofs.YtohjofabochgfaaGreat

namespace Go.Proofs.YtohjofabochgfaaGreat
open Sx Go
abbrev dB:Pt:=(⟨0,0,0,0⟩,⟨0,0,0,0⟩,false)
end Go.Proofs.YtohjofabochgfaaGreat

namespace Go.Proofs.YtohjofabochgfaaGreat
open Sx Go
set_option maxRecDepth 100000
def di:aw:=⟨[.val false .int,.val false (.list .u8)],[],true,0,false⟩
abbrev nz:Type:=((Int)×(List (UInt8))×Unit)×(Unit)
def bu:az:=⟨[.val true (.prod .elem (.prod .elem .bool)),.val false .int],[],false⟩
def Ml:SV->Option az:=λ_=>some bu
def uh (a0:Int) (a1:List (UInt8)):OT di.Y:=
 let z0:Bool:=ap a0
 let z1:Nat:=List.length a1
 let z2:aa:= {w0:=0,w1:=0,w2:=0,w3:=0}
 let z3:aa×Bool:=(z2,false)
 let z4:aa×aa×Bool:=(z2,z3)
 let z5:Bool:=inB (31:Int) z1
 let z6:Bool:=decide (31<z1)
 let z7:UInt8:=List.getD a1 31 (0:UInt8)
 let z8:List UInt8:=List.set a1 31 (z7&&&(127:UInt8))
 let z9:aa:=HF z8
 let z10:Nat:=pS a0
 let z11:aa:=bS a0
 let z12:Bool:=ui ((a0,z9,z11,()),())
 let z13:aa:=ofP z10 (xt z10 z9 z11)
 let z14:Bool:=bU z13
 let z15:Bool:= !(0:UInt8)==z7>>>(7:UInt8)
 let z16:aa×aa×Bool:=(z9,zW z10 z2,false)
 let z17:aa×aa×Bool:=(z9,z3)
 let z18:Bool:=eqE (gO z10 z13 (dp (eu (aY (Int.toNat a0)).fst eP).fst)) eP
 let z19:aa:=kS z10 (sr a0 z13)
 let z20:Bool:= !UInt64.toUInt8 (z19.w0&&&(1:UInt64))==z7>>>(7:UInt8)
 let z21:aa×aa×Bool:=(z9,zW z10 z19,false)
 let z22:aa×aa×Bool:=(z9,z19,false)
 (.br (z0)
 (.br (!(↑z1:Int)==(32:Int))
  (.ok ⟨bu,((z4,((41:Int),())),())⟩)
  (gd [lb ((a1,()),()),z5,z6,z5,z6,z5,z6] (.br (z0)
   (.br (fV z8)
    (.br (Nat.blt (aa.nat z9) z10)
     (.br (z9.w0==(0:UInt64)&&(z9.w1==(0:UInt64)&&(z9.w2==(0:UInt64)&&(z9.w3==(0:UInt64)&&true))))
      (.br (z7>>>(7:UInt8)==(0:UInt8))
       (.ok ⟨bu,(((z2,z2,true),((0:Int),())),())⟩)
       (gd [z12] (.br (z0)
        (.br (z14)
         (.br (z15)
          (.br (z0)
           (.ok ⟨bu,((z16,((0:Int),())),())⟩)
           (.ok ⟨bu,((z17,((0:Int),())),())⟩))
          (.ok ⟨bu,((z17,((0:Int),())),())⟩))
         (.br (z18)
          (.br (z20)
           (.br (z0)
            (.ok ⟨bu,((z21,((0:Int),())),())⟩)
            (.ok ⟨bu,((z17,((0:Int),())),())⟩))
           (.ok ⟨bu,((z22,((0:Int),())),())⟩))
          (.ok ⟨bu,((z4,((41:Int),())),())⟩)))
        (.ok ⟨bu,((z4,((41:Int),())),())⟩))))
      (gd [z12] (.br (z0)
       (.br (z14)
        (.br (z15)
         (.br (z0)
          (.ok ⟨bu,((z16,((0:Int),())),())⟩)
          (.ok ⟨bu,((z17,((0:Int),())),())⟩))
         (.ok ⟨bu,((z17,((0:Int),())),())⟩))
        (.br (z18)
         (.br (z20)
          (.br (z0)
           (.ok ⟨bu,((z21,((0:Int),())),())⟩)
           (.ok ⟨bu,((z17,((0:Int),())),())⟩))
          (.ok ⟨bu,((z22,((0:Int),())),())⟩))
         (.ok ⟨bu,((z4,((41:Int),())),())⟩)))
       (.ok ⟨bu,((z4,((41:Int),())),())⟩))))
     (.ok ⟨bu,((z4,((41:Int),())),())⟩))
    (.ok ⟨bu,((z4,((41:Int),())),())⟩))
   (.ok ⟨bu,((z4,((41:Int),())),())⟩))))
 (.ok ⟨bu,((z4,((40:Int),())),())⟩))
theorem avt (x:nz) (Q:di.Y->Prop):wpf te uU av 1000 Tryz.f58 (di.inp.inj x).tm (di.inp.inj x).hp (fnK di Ml Q) (λ_ _=>False)=(uh (x.1.1) (x.1.2.1)).wpR Q:=by kernel_rfl
theorem ZJ (pre:nz->Bool) (F:nz->OT di.Y) (hF:∀ (x:nz) oy,pre x=true->(F x).run=some oy->(uh (x.1.1) (x.1.2.1)).run=some oy):ac Tryz.prog 58 (di.aI pre F):=
 aD ar uT VM (f:=58) (fn:=Tryz.f58) (c:=aj Tryz.f58) (by kernel_rfl) (by kernel_rfl) (by kernel_rfl) (S:=di) (k:=0) (by kernel_rfl) (λR hR=>af) (n:=1000) (sel:=Ml) (λv o h=>by cases h;rfl) (pre:=pre) (F:=F) (T:=λx=>uh (x.1.1) (x.1.2.1)) (λx Q=>avt x Q) hF
def abg (b:List UInt8):aa:=HF (b.set 31 (b.getD 31 0&&&127))
def OG (b:List UInt8):Bool:= !(b.getD 31 0>>>7==0)
theorem aAz {y:aa} (h:y.nat%2=0):UInt64.toUInt8 (y.w0&&&1)=0:=by
 have e:y.nat%2=y.w0.toNat%2:=by unfold Sx.aa.nat;omega
 have h2:(y.w0&&&1).toNat=y.w0.toNat%2:=by
  rw [UInt64.toNat_and]
  exact Nat.and_two_pow_sub_one_eq_mod y.w0.toNat 1
 have:y.w0&&&1=0:=UInt64.toNat_inj.1 (by rw [h2,<-e,h];rfl)
 rw [this]
 rfl
def Mm (_:nz):Bool:=true
def aCf {S:aw} (f:Pt->Int->OT S.Y) (s:Int) (b:List UInt8):OT S.Y:=.br (ap s) (.br (fV b) (.br (Nat.blt (abg b).nat (pS s)) (.br (bU (abg b)) (.br (OG b) (f dB 41) (f cF 0)) (.br (sqB s (abg b)) (f (ptD s (abg b) (OG b)) 0) (f dB 41))) (f dB 41)) (f dB 41)) (f dB 40)
def ZL (x:nz):OT di.Y:=aCf (S:=di) (λP e=>.ok ⟨bu,((P,(e,())),())⟩) x.1.1 x.1.2.1
theorem ZK {s:Int} {b:List UInt8} {N:aa} (hN:abg b=N):(uh s b).run=(aCf (S:=di) (λP e=>.ok ⟨bu,((P,(e,())),())⟩) s b).run:=by
 have hN':HF (List.set b 31 (List.getD b 31 0&&&127))=N:=hN
 unfold uh aCf
 rw [hN]
 simp only [hN']
 rcases (Bool.eq_false_or_eq_true (ap s)).symm with hs|hs
 ·exact (OT.aq hs).trans (OT.aq (b:=ap s) hs).symm
 ·refine (OT.ao hs).trans (Eq.trans ?_ (OT.ao (b:=ap s) hs).symm)
  rcases (Bool.eq_false_or_eq_true (fV b)).symm with hl|hl
  ·exact (OT.ao (b:= !fV b) (by rw [hl];rfl)).trans (OT.aq (b:=fV b) hl).symm
  ·have hlen:=o9.1 hl
   have i1:inB 31 b.length=true:=aN (by omega)
   have i2:decide (31<b.length)=true:=decide_eq_true (by omega)
   have i3:lb ((b,()),())=true:=decide_eq_true (by show b.length<=_;omega)
   have i4:fV (List.set b 31 (List.getD b 31 0&&&127))=true:=o9.2 (by rw [List.length_set];exact hlen)
   have hg:∀ z:aa,ui ((s,z,bS s,()),())=true:=λ_=>hs
   refine (OT.aq (b:= !fV b) (by rw [hl];rfl)).trans (Eq.trans ((ah ?_).trans ((OT.ao hs).trans ((OT.ao i4).trans ?_))) (OT.ao (b:=fV b) hl).symm)
   ·simp only [i1,i2,i3,List.all_cons,List.all_nil,Bool.and_self]
   ·rcases (Bool.eq_false_or_eq_true (Nat.blt N.nat (pS s))).symm with hb|hb
    ·exact (OT.aq hb).trans (OT.aq (b:=Nat.blt N.nat (pS s)) hb).symm
    ·refine (OT.ao hb).trans (Eq.trans ?_ (OT.ao (b:=Nat.blt N.nat (pS s)) hb).symm)
     have hA:=abB hs N
     have sg:(List.getD b 31 0>>>7==0)= !OG b:=by unfold OG;rw [Bool.not_not]
     rcases (Bool.eq_false_or_eq_true (bU N)).symm with hz|hz
     ·refine (OT.aq (b:=bU N) hz).trans (Eq.trans ?_ (OT.aq (b:=bU N) hz).symm)
      refine (ah (by rw [hg];rfl)).trans ((OT.ao hs).trans ((OT.aq (b:=bU (sqA s N)) hA).trans ?_))
      rcases (Bool.eq_false_or_eq_true (sqB s N)).symm with hq|hq
      ·exact (OT.aq (b:=sqB s N) hq).trans (OT.aq (b:=sqB s N) hq).symm
      ·refine (OT.ao (b:=sqB s N) hq).trans (Eq.trans ?_ (OT.ao (b:=sqB s N) hq).symm)
       have hy:=aAz (aHs hs hq).2.1
       have hc:(!UInt64.toUInt8 ((sqY s N).w0&&&1)==List.getD b 31 0>>>7)=OG b:=by
        rw [hy]
        unfold OG
        rw [Bool.beq_comm]
       unfold ptD
       rcases (Bool.eq_false_or_eq_true (OG b)).symm with ho|ho
       ·rw [ho] at hc⊢
        exact (OT.aq hc).trans rfl
       ·rw [ho] at hc⊢
        exact (OT.ao hc).trans ((OT.ao hs).trans rfl)
     ·refine (OT.ao (b:=bU N) hz).trans (Eq.trans ?_ (OT.ao (b:=bU N) hz).symm)
      have hN0:=zero_eq hz
      rcases (Bool.eq_false_or_eq_true (OG b)).symm with ho|ho
      ·exact (OT.ao (by rw [sg,ho];rfl)).trans (OT.aq (b:=OG b) ho).symm
      ·refine (OT.aq (by rw [sg,ho];rfl)).trans (Eq.trans ?_ (OT.ao (b:=OG b) ho).symm)
       have hq:sqB s N=false:=by rw [hN0];exact ayH hs
       exact (ah (by rw [hg];rfl)).trans ((OT.ao hs).trans ((OT.aq (b:=bU (sqA s N)) hA).trans (OT.aq (b:=sqB s N) hq)))
theorem Ri:ac Tryz.prog 58 (di.aI Mm ZL):=ZJ _ _ λx oy hp ho=>by
 rw [<-ho]
 clear ho
 obtain ⟨⟨s,b,⟨⟩⟩,⟨⟩⟩:=x
 exact ZK rfl
def ug:cn:=(di.aI Mm ZL)
theorem U1:ac Tryz.prog 58 ug:=Ri
theorem U0:aG ug:=aA
def pX:Env:=ay 58 ug uU
theorem nM:aQ Tryz.prog pX:=ag U1 uT
theorem yf:ax pX:=ae U0 yb
theorem Dd:aW Tryz.prog te pX:=aJ follows ar nM yf
def eF:aw:=⟨[.val false (.list .u8)],[],true,0,false⟩
abbrev oq:Type:=((List (UInt8))×Unit)×(Unit)
def lJ:Shape:=⟨27,[(0,.val false (.list .u8)),(2,.ptr 0 0 0),(3,.ptr 1 0 0),(4,.val false .int)],[(0,.row .u64),(1,.row .u64)],0,true⟩
abbrev bt:Type:=((List (UInt8))×(Unit)×(Unit)×(Int)×Unit)×((List (UInt64))×(List (UInt64))×Unit)
def kG:Shape:=⟨27,[(2,.ptr 0 0 0),(3,.ptr 1 0 0)],[(0,.row .u64),(1,.row .u64)],0,true⟩
abbrev ft:Type:=((Unit)×(Unit)×Unit)×((List (UInt64))×(List (UInt64))×Unit)
def JE:SE->Option Shape:=fC [(0,kG)] none
def acq (a0:List (UInt8)) (a4:Int) (c0:List (UInt64)) (c1:List (UInt64)):OT (Sum bt aE):=
 let z0:Int:=Int.tdiv a4 (8:Int)
 let z1:Bool:=inB z0 4
 let z2:Bool:=decide (Int.toNat z0+0<List.length c1)
 let z3:Int:=(8:Int)*Int.tmod a4 (8:Int)
 (.br (decide (a4<(32:Int)))
 (gd [true&&inR z0,z1,z2,inB a4 (List.length a0),inR z3,z1,z2,inR (a4+(1:Int))] (.ok (.inl ((a0,((),((),(a4+(1:Int),())))),(c0,(List.set c1 (Int.toNat z0+0) (List.getD c1 (Int.toNat z0+0) (0:UInt64)|||bR (UInt8.toUInt64 (List.getD a0 (Int.toNat a4) (0:UInt8))) (↑(UInt64.toNat (i2u z3)):Int)),()))))))
 (.ok (.inr ⟨(.exit 0,kG),(((),((),())),(c0,(c1,())))⟩)))
def lK (s:bt):OT (Sum bt aE):=acq (s.1.1) (s.1.2.2.2.1) (s.2.1) (s.2.2.1)
theorem acn (s:bt) (Q:Sum bt aE->Prop):wps te pX av 1000 (aU (aj Tryz.f100) 0) (lJ.inj s) (bY lJ JE (Q:Sum lJ.T aE->Prop))=(lK s).wpR Q:=by kernel_rfl
def qw (g0_0:bt->ft) (s:bt):OT aE:=(.ok ⟨(.exit 0,kG),g0_0 s⟩)
def qv:az:=⟨[.val true .elem],[],false⟩
def Gk:SV->Option az:=λ_=>some qv
def oo (ok0:bt->Bool) (g0_0:bt->ft) (a0:List (UInt8)):OT eF.Y:=
 let z0:(List UInt8×PUnit×PUnit×Int×PUnit)×List UInt64×List UInt64×PUnit:=((a0,(),(),(0:Int),()),[(0:UInt64),(0:UInt64),(0:UInt64),(0:UInt64)],[(0:UInt64),(0:UInt64),(0:UInt64),(0:UInt64)],())
 let z1:=(g0_0 z0).snd
 let z2:=z1.snd.fst
 let z3:=z1.fst
 let z4:List UInt64:=lay z3 z2 4 (0:UInt64)
 (gd [ok0 z0,decide (4<=List.length z2),decide ((4/1:Nat)+0<=List.length z3),decide (4<=List.length z4)] (.ok ⟨qv,(({w0:=List.getD z4 0 0,w1:=List.getD z4 1 0,w2:=List.getD z4 2 0,w3:=List.getD z4 3 0},()),())⟩))
theorem alH (ok0:bt->Bool) (g0_0:bt->ft) (x:oq) (Q:eF.Y->Prop):wpf te pX (aO 0 (cl lJ 0 ok0 (qw g0_0)) av) 1000 Tryz.f100 (eF.inp.inj x).tm (eF.inp.inj x).hp (fnK eF Gk Q) (λ_ _=>False)=(oo ok0 g0_0 (x.1.1)).wpR Q:=by kernel_rfl
theorem SZ (ok0:bt->Bool) (g0_0:bt->ft) (h0:∀ s:bt,ok0 s=true->∃ m e,al (lK) m s=some e/\(qw g0_0 s).run=some e) (pre:oq->Bool) (F:oq->OT eF.Y) (hF:∀ (x:oq) oy,pre x=true->(F x).run=some oy->(oo ok0 g0_0 (x.1.1)).run=some oy):ac Tryz.prog 100 (eF.aI pre F):=
 aD ar nM Dd (f:=100) (fn:=Tryz.f100) (c:=aj Tryz.f100) (by kernel_rfl) (by kernel_rfl) (by kernel_rfl) (S:=eF) (k:=0) (by kernel_rfl) (λR hR=>(aB (c:=(aj Tryz.f100)) (by kernel_rfl) (id:=0) (by kernel_rfl) (aR ar nM Dd (sh:=lJ) hR (xs:=JE) (aC (by kernel_rfl) (by kernel_rfl) hR) aL af (n:=1000) (T:=lK) (λs Q=>acn s Q) (ok:=ok0) (f:=qw g0_0) h0) af)) (n:=1000) (sel:=Gk) (λv o h=>by cases h;rfl) (pre:=pre) (F:=F) (T:=λx=>oo ok0 g0_0 (x.1.1)) (λx Q=>alH ok0 g0_0 x Q) hF
def Gl (s:bt):Bool:=decide (s.1.1.length=32/\s.1.2.2.2.1=0/\s.2.2.1= [0,0,0,0])
def JF (s:bt):ft:=(((),(),()),(s.2.1,aGP s.1.1 32,()))
theorem acp:∀ s:bt,Gl s=true->∃ m e,al lK m s=some e/\(qw JF s).run=some e:=by
 rintro ⟨⟨b,⟨⟩,⟨⟩,i,⟨⟩⟩,⟨c0,c1,⟨⟩⟩⟩ h
 have h':=of_decide_eq_true h
 dsimp only at h'
 obtain ⟨hb,rfl,rfl⟩:=h'
 have:=(aP (T:=lK) (λi o=>(((b,(),(),(i:Int),()),(c0,o,())):bt)) (TM b)
  (λo=>(⟨(.exit 0,kG),(((),(),()),(c0,o,()))⟩:aE)) 32 [0,0,0,0] (λ_ o=>o.length=4) rfl (λi o hi ho=>⟨?_,(List.length_set ..).trans ho⟩) (λo ho=> ?_)).1
 ·obtain ⟨m,hm⟩:=this
  exact ⟨m,_,hm,rfl⟩
 ·have t1:=aE8 i
  have t2:=aE9 i
  have t3:(8:Int)*((i%8:Nat):Int)=((8*(i%8):Nat):Int):=by omega
  have t4:=Lj (k:=8*(i%8)) (by omega)
  refine (OT.ao (decide_eq_true (by dsimp only;omega))).trans ((ah ?_).trans ?_)
  ·simp only [t1,t2,ho,hb,Int.toNat_natCast,List.all_cons,List.all_nil,Bool.and_true,Bool.true_and,Bool.and_eq_true]
   exact ⟨aH (by omega),aN (by omega),decide_eq_true (by omega),aN (by omega),aH (by omega),aN (by omega),decide_eq_true (by omega),aH (by omega)⟩
  ·simp only [OT.cP,t1,t2,Int.toNat_natCast,Nat.add_zero]
   unfold TM
   rw [t3,t4]
   rfl
 ·exact OT.aq (decide_eq_false (by dsimp only;omega))
def gY (x:oq):Bool:=decide (x.1.1.length=32)
def PJ (x:oq):OT eF.Y:=.ok ⟨qv,((HF x.1.1,()),())⟩
abbrev PI (b:List UInt8):bt:=((b,(),(),0,()),([0,0,0,0],[0,0,0,0],()))
theorem S1 {ok0:bt->Bool} {g0:bt->ft} {b:List UInt8} {L:List UInt64} (hok:ok0 (PI b)=true)
 (hg:g0 (PI b)=(((),(),()),([0,0,0,0],L,()))) (hL:L.length=4):(oo ok0 g0 b).run=some ⟨qv,((elemOf L,()),())⟩:=by
 have e:lay [0,0,0,0] L 4 0=L:=xE rfl hL
 unfold oo
 simp only [hg]
 refine (ah ?_).trans ?_
 ·simp only [e,hL,List.all_cons,List.all_nil,Bool.and_true,Bool.and_eq_true]
  exact ⟨hok,rfl,rfl,rfl⟩
 ·rw [e]
  rfl
theorem aco:ac Tryz.prog 100 (eF.aI gY PJ):=SZ Gl JF acp _ _ λx oy hp ho=>by
 rw [<-ho]
 clear ho
 obtain ⟨⟨b,⟨⟩⟩,⟨⟩⟩:=x
 have hb:b.length=32:=of_decide_eq_true hp
 exact S1 (b:=b) (L:=aGP b 32) (decide_eq_true ⟨hb,rfl,rfl⟩) rfl (yU b 32)
def qu:cn:=(eF.aI gY PJ)
theorem Ou:ac Tryz.prog 100 qu:=aco
theorem Ot:aG qu:=aA
def pJ:Env:=ay 100 qu pX
theorem rB:aQ Tryz.prog pJ:=ag Ou nM
theorem uD:ax pJ:=ae Ot yf
theorem O2:aW Tryz.prog te pJ:=aJ follows ar rB uD
def dV:aw:=⟨[.val false .int,.val false (.list .u8)],[],true,0,false⟩
abbrev oC:Type:=((Int)×(List (UInt8))×Unit)×(Unit)
def eg:az:=⟨[.val true .elem,.val false .int],[],false⟩
def Gs:SV->Option az:=λ_=>some eg
def oB (a0:Int) (a1:List (UInt8)):OT dV.Y:=
 let z0:aa:= {w0:=0,w1:=0,w2:=0,w3:=0}
 let z1:Bool:=gY ((a1,()),())
 let z2:aa:=HF a1
 (gd [kW ((a0,()),())] (.br (!(↑(List.length a1):Int)==(32:Int))
 (.ok ⟨eg,((z0,((21:Int),())),())⟩)
 (gd [z1] (.br (!Nat.blt (aa.nat z2) (aa.nat (aY (Int.toNat a0)).fst))
  (.ok ⟨eg,((z0,((21:Int),())),())⟩)
  (gd [z1] (.ok ⟨eg,((z2,((0:Int),())),())⟩))))))
theorem alU (x:oC) (Q:dV.Y->Prop):wpf te pJ av 1000 Tryz.f59 (dV.inp.inj x).tm (dV.inp.inj x).hp (fnK dV Gs Q) (λ_ _=>False)=(oB (x.1.1) (x.1.2.1)).wpR Q:=by kernel_rfl
theorem Ta (pre:oC->Bool) (F:oC->OT dV.Y) (hF:∀ (x:oC) oy,pre x=true->(F x).run=some oy->(oB (x.1.1) (x.1.2.1)).run=some oy):ac Tryz.prog 59 (dV.aI pre F):=
 aD ar rB O2 (f:=59) (fn:=Tryz.f59) (c:=aj Tryz.f59) (by kernel_rfl) (by kernel_rfl) (by kernel_rfl) (S:=dV) (k:=0) (by kernel_rfl) (λR hR=>af) (n:=1000) (sel:=Gs) (λv o h=>by cases h;rfl) (pre:=pre) (F:=F) (T:=λx=>oB (x.1.1) (x.1.2.1)) (λx Q=>alU x Q) hF
def mX (x:oC):Bool:=ap x.1.1
def PW (x:oC):OT dV.Y:=.br (fV x.1.2.1) (.br (Nat.blt (HF x.1.2.1).nat (pS x.1.1)) (.ok ⟨eg,((HF x.1.2.1,((0:Int),())),())⟩) (.ok ⟨eg,((⟨0,0,0,0⟩,((21:Int),())),())⟩))
 (.ok ⟨eg,((⟨0,0,0,0⟩,((21:Int),())),())⟩)
theorem Tb {s:Int} {b:List UInt8} {N:aa} (hs:ap s=true) (hN:HF b=N):(oB s b).run=(OT.br (fV b) (.br (Nat.blt N.nat (pS s)) (.ok ⟨eg,((N,((0:Int),())),())⟩) (.ok ⟨eg,((⟨0,0,0,0⟩,((21:Int),())),())⟩))
 (.ok ⟨eg,((⟨0,0,0,0⟩,((21:Int),())),())⟩):OT dV.Y).run:=by
 unfold oB
 simp only [hN]
 refine (ah (by simp only [List.all_cons,List.all_nil,Bool.and_true];exact hs)).trans ?_
 rcases (Bool.eq_false_or_eq_true (fV b)).symm with hl|hl
 ·exact (OT.ao (b:= !fV b) (by rw [hl];rfl)).trans (OT.aq (b:=fV b) hl).symm
 ·have hp:gY ((b,()),())=true:=decide_eq_true (o9.1 hl)
  refine (OT.aq (b:= !fV b) (by rw [hl];rfl)).trans (Eq.trans ?_ (OT.ao (b:=fV b) hl).symm)
  rw [hp]
  refine (ah rfl).trans ?_
  rcases (Bool.eq_false_or_eq_true (Nat.blt N.nat (pS s))).symm with h|h
  ·exact (OT.ao (b:= !Nat.blt N.nat (pS s)) (by rw [h];rfl)).trans (OT.aq (b:=Nat.blt N.nat (pS s)) h).symm
  ·exact (OT.aq (b:= !Nat.blt N.nat (pS s)) (by rw [h];rfl)).trans ((ah rfl).trans (OT.ao (b:=Nat.blt N.nat (pS s)) h).symm)
theorem acT:ac Tryz.prog 59 (dV.aI mX PW):=Ta _ _ λx oy hp ho=>by
 rw [<-ho]
 clear ho
 obtain ⟨⟨s,b,⟨⟩⟩,⟨⟩⟩:=x
 exact Tb hp rfl
def qE:cn:=(dV.aI mX PW)
theorem OA:ac Tryz.prog 59 qE:=acT
theorem Oz:aG qE:=aA
def lc:Env:=ay 59 qE pJ
theorem kU:aQ Tryz.prog lc:=ag OA rB
theorem uF:ax lc:=ae Oz uD
theorem xO:aW Tryz.prog te lc:=aJ follows ar kU uF
def eG:aw:=⟨[.val false .int,.val true .elem],[],true,0,false⟩
abbrev oA:Type:=((Int)×(aa)×Unit)×(Unit)
def lS:Shape:=⟨38,[(3,.ptr 0 0 0),(7,.own 1),(8,.val false .int)],[(0,.row .u64),(1,.row .u8)],0,true⟩
abbrev bx:Type:=((Unit)×(Unit)×(Int)×Unit)×((List (UInt64))×(List (UInt8))×Unit)
def ix:Shape:=⟨38,[(7,.own 0)],[(0,.row .u8)],0,true⟩
abbrev fu:Type:=((Unit)×Unit)×((List (UInt8))×Unit)
def JP:SE->Option Shape:=fC [(0,ix)] none
def acS (a8:Int) (c0:List (UInt64)) (c1:List (UInt8)):OT (Sum bx aE):=
 let z0:Int:=Int.tdiv a8 (8:Int)
 let z1:Int:=(8:Int)*Int.tmod a8 (8:Int)
 (.br (decide (a8<(32:Int)))
 (gd [true&&inR z0,inB z0 4,decide (Int.toNat z0+0<List.length c0),inR z1,decide ((List.length c1+1)*1<=140737488355328),inR (a8+(1:Int))] (.ok (.inl (((),((),(a8+(1:Int),()))),(c0,(c1++ [UInt64.toUInt8 (bk (List.getD c0 (Int.toNat z0+0) (0:UInt64)) (↑(UInt64.toNat (i2u z1)):Int))],()))))))
 (.ok (.inr ⟨(.exit 0,ix),(((),()),(c1,()))⟩)))
def lT (s:bx):OT (Sum bx aE):=acS (s.1.2.2.1) (s.2.1) (s.2.2.1)
theorem acP (s:bx) (Q:Sum bx aE->Prop):wps te lc av 1000 (aU (aj Tryz.f55) 0) (lS.inj s) (bY lS JP (Q:Sum lS.T aE->Prop))=(lT s).wpR Q:=by kernel_rfl
def qD (g0_0:bx->fu) (s:bx):OT aE:=(.ok ⟨(.exit 0,ix),g0_0 s⟩)
def qC:az:=⟨[.own 0],[(0,.row .u8)],false⟩
def Gq:SV->Option az:=λ_=>some qC
def oz (ok0:bx->Bool) (g0_0:bx->fu) (a0:Int) (a1:aa):OT eG.Y:=
 let z0:aa:=ofP (pS a0) a1
 let z1:(PUnit×PUnit×Int×PUnit)×List UInt64×List UInt8×PUnit:=(((),(),(0:Int),()),[z0.w0,z0.w1,z0.w2,z0.w3],[],())
 (gd [kW ((a0,()),()),sN ((a0,a1,()),()),ok0 z1] (.ok ⟨qC,(((),()),((g0_0 z1).snd.fst,()))⟩))
theorem alT (ok0:bx->Bool) (g0_0:bx->fu) (x:oA) (Q:eG.Y->Prop):wpf te lc (aO 0 (cl lS 0 ok0 (qD g0_0)) av) 1000 Tryz.f55 (eG.inp.inj x).tm (eG.inp.inj x).hp (fnK eG Gq Q) (λ_ _=>False)=(oz ok0 g0_0 (x.1.1) (x.1.2.1)).wpR Q:=by kernel_rfl
theorem S8 (ok0:bx->Bool) (g0_0:bx->fu) (h0:∀ s:bx,ok0 s=true->∃ m e,al (lT) m s=some e/\(qD g0_0 s).run=some e) (pre:oA->Bool) (F:oA->OT eG.Y) (hF:∀ (x:oA) oy,pre x=true->(F x).run=some oy->(oz ok0 g0_0 (x.1.1) (x.1.2.1)).run=some oy):ac Tryz.prog 55 (eG.aI pre F):=
 aD ar kU xO (f:=55) (fn:=Tryz.f55) (c:=aj Tryz.f55) (by kernel_rfl) (by kernel_rfl) (by kernel_rfl) (S:=eG) (k:=0) (by kernel_rfl) (λR hR=>(aB (c:=(aj Tryz.f55)) (by kernel_rfl) (id:=0) (by kernel_rfl) (aR ar kU xO (sh:=lS) hR (xs:=JP) (aC (by kernel_rfl) (by kernel_rfl) hR) aL af (n:=1000) (T:=lT) (λs Q=>acP s Q) (ok:=ok0) (f:=qD g0_0) h0) af)) (n:=1000) (sel:=Gq) (λv o h=>by cases h;rfl) (pre:=pre) (F:=F) (T:=λx=>oz ok0 g0_0 (x.1.1) (x.1.2.1)) (λx Q=>alT ok0 g0_0 x Q) hF
def aIr (e:aa) (k:Nat):UInt8:=UInt64.toUInt8 (bk ((lst e).getD (k/8) 0) (8*((k%8:Nat):Int)))
theorem awi {α:Type} (f:Nat->α):∀ n,upto (λk (o:List α)=>o++ [f k]) [] n=(List.range n).map f
 |0=>rfl
 |n+1=>by
  show upto (λk (o:List α)=>o++ [f k]) [] n++ [f n]=_
  rw [awi f n,List.range_succ,List.map_append]
  rfl
theorem Wo {α:Type} (f:Nat->α) (l:List α):∀ n,n<=l.length->upto (λk (o:List α)=>o.set k (f k)) l n=(List.range n).map f++l.drop n
 |0,_=>rfl
 |n+1,h=>by
  have hl:((List.range n).map f).length=n:=by rw [List.length_map,List.length_range]
  show (upto (λk (o:List α)=>o.set k (f k)) l n).set n (f n)=_
  rw [Wo f l n (by omega),List.set_append_right _ _ (by omega),hl,Nat.sub_self,List.drop_eq_getElem_cons (by omega),List.set_cons_zero,List.range_succ,List.map_append,List.append_assoc]
  rfl
theorem aAC (e:aa):an8 e=(List.range 32).map (aIr e):=by
 have h:=Wo (aIr e) (List.replicate 32 0) 32 (by rw [List.length_replicate];omega)
 rw [List.drop_eq_nil_of_le (by rw [List.length_replicate];omega),List.append_nil] at h
 exact h
def Gr (s:bx):Bool:=decide (s.1.2.2.1=0/\s.2.1.length=4/\s.2.2.1= [])
def JQ (s:bx):fu:=(((),()),(an8 (elemOf s.2.1),()))
theorem acR:∀ s:bx,Gr s=true->∃ m e,al lT m s=some e/\(qD JQ s).run=some e:=by
 rintro ⟨⟨⟨⟩,⟨⟩,i,⟨⟩⟩,⟨h,o,⟨⟩⟩⟩ hh
 have h':=of_decide_eq_true hh
 dsimp only at h'
 obtain ⟨rfl,hl,rfl⟩:=h'
 obtain ⟨e,rfl⟩:∃ e,h=lst e:=⟨elemOf h,(aS hl).symm⟩
 have:=(aP (T:=lT) (λi o=>((((),(),(i:Int),()),(lst e,o,())):bx)) (λk o=>o++ [aIr e k])
  (λo=>(⟨(.exit 0,ix),(((),()),(o,()))⟩:aE)) 32 [] (λn o=>o.length=n) rfl (λi o hi ho=>⟨?_,by rw [List.length_append,ho];rfl⟩) (λo ho=> ?_)).1
 ·obtain ⟨m,hm⟩:=this
  refine ⟨m,_,hm,?_⟩
  have hE:an8 (elemOf (lst e))=upto (λk (o:List UInt8)=>o++ [aIr e k]) [] 32:=by rw [awi];exact aAC e
  show some (⟨(.exit 0,ix),(((),()),(an8 (elemOf (lst e)),()))⟩:aE)=_
  rw [hE]
 ·have t1:=aE8 i
  have t2:=aE9 i
  have t3:(8:Int)*((i%8:Nat):Int)=((8*(i%8):Nat):Int):=by omega
  have t4:=Lj (k:=8*(i%8)) (by omega)
  refine (OT.ao (decide_eq_true (by dsimp only;omega))).trans ((ah ?_).trans ?_)
  ·simp only [t1,t2,ho,cK,Int.toNat_natCast,List.all_cons,List.all_nil,Bool.and_true,Bool.true_and,Bool.and_eq_true]
   exact ⟨aH (by omega),aN (by omega),decide_eq_true (by omega),aH (by omega),decide_eq_true (by omega),aH (by omega)⟩
  ·simp only [OT.cP,t1,t2,Int.toNat_natCast,Nat.add_zero]
   unfold aIr
   rw [t3,t4]
   rfl
 ·exact OT.aq (decide_eq_false (by dsimp only;omega))
def mW (x:oA):Bool:=ap x.1.1
def PV (x:oA):OT eG.Y:=.ok ⟨qC,(((),()),(an8 (ofP (pS x.1.1) x.1.2.1),()))⟩
theorem S9 {ok0:bx->Bool} {g0:bx->fu} {s:Int} {a A:aa} {B:List UInt8} (hs:ap s=true) (hA:ofP (pS s) a=A) (h0:ok0 (((),(),0,()),([A.w0,A.w1,A.w2,A.w3],[],()))=true)
 (e0:g0 (((),(),0,()),([A.w0,A.w1,A.w2,A.w3],[],()))=(((),()),(B,()))):(oz ok0 g0 s a).run=some ⟨qC,(((),()),(B,()))⟩:=by
 unfold oz
 simp only [hA,e0]
 refine (ah ?_).trans rfl
 simp only [List.all_cons,List.all_nil,Bool.and_true,Bool.and_eq_true]
 exact ⟨hs,hs,h0⟩
theorem acQ:ac Tryz.prog 55 (eG.aI mW PV):=S8 Gr JQ acR _ _ λx oy hp ho=>by
 rw [<-ho]
 clear ho
 obtain ⟨⟨s,a,⟨⟩⟩,⟨⟩⟩:=x
 exact S9 (A:=ofP (pS s) a) hp rfl (decide_eq_true ⟨rfl,rfl,rfl⟩) rfl
def qB:cn:=(eG.aI mW PV)
theorem Oy:ac Tryz.prog 55 qB:=acQ
theorem Ox:aG qB:=aA
def pM:Env:=ay 55 qB lc
theorem rD:aQ Tryz.prog pM:=ag Oy kU
theorem uE:ax pM:=ae Ox uF
theorem O3:aW Tryz.prog te pM:=aJ follows ar rD uE
def cH:aw:=⟨[.val false .int,.val false (.list .u8)],[],true,0,false⟩
abbrev jZ:Type:=((Int)×(List (UInt8))×Unit)×(Unit)
def bw:az:=⟨[.val true (.prod .elem (.prod .elem .bool)),.val false .int],[],false⟩
def Gi:SV->Option az:=λ_=>some bw
def oe (a0:Int) (a1:List (UInt8)):OT cH.Y:=
 let z0:aa:= {w0:=0,w1:=0,w2:=0,w3:=0}
 let z1:aa×Bool:=(z0,false)
 let z2:aa×aa×Bool:=(z0,z1)
 let z3:Nat:=List.length a1
 let z4:Bool:=inB (31:Int) z3
 let z5:Bool:=decide (31<z3)
 let z6:UInt8:=List.getD a1 31 (0:UInt8)
 let z7:List UInt8:=List.set a1 31 (z6&&&(127:UInt8))
 let z8:aa:=HF z7
 let z9:Nat:=pS a0
 let z10:Bool:=z8.w0==(0:UInt64)&&(z8.w1==(0:UInt64)&&(z8.w2==(0:UInt64)&&(z8.w3==(0:UInt64)&&true)))
 let z11:Bool:=decide ((128:UInt8)<=z6)
 let z12:aa×aa×Bool:=(z0,z0,true)
 let z13:Bool:=og ((a0,z8,()),())
 let z14:aa:=xt z9 z8 (bS a0)
 let z15:Bool:=oi ((a0,z14,()),())
 let z16:aa:=ofP z9 z14
 let z17:Bool:=bU z16
 let z18:Bool:=lL ((a0,z0,()),())
 let z19:aa×aa×Bool:=(z8,zW z9 z0,false)
 let z20:aa×aa×Bool:=(z8,z1)
 let z21:Bool:=eqE (gO z9 z16 (dp (eu (aY (Int.toNat a0)).fst eP).fst)) eP
 let z22:aa:=kS z9 (sr a0 z16)
 let z23:Bool:=lL ((a0,z22,()),())
 let z24:aa×aa×Bool:=(z8,zW z9 z22,false)
 let z25:aa×aa×Bool:=(z8,z22,false)
 (.br (decide (a0<(0:Int)))
 (.ok ⟨bw,((z2,((40:Int),())),())⟩)
 (.br (decide ((3:Int)<a0))
  (.ok ⟨bw,((z2,((40:Int),())),())⟩)
  (.br (!(↑z3:Int)==(32:Int))
   (.ok ⟨bw,((z2,((41:Int),())),())⟩)
   (gd [lp ((a1,()),()),z4,z5,z4,z5,z4,z5,mX ((a0,z7,()),())] (.br (fV z7)
    (.br (Nat.blt (aa.nat z8) z9)
     (.br (z10)
      (.br (z11)
       (.ok ⟨bw,((z2,((41:Int),())),())⟩)
       (.br (z10)
        (.ok ⟨bw,((z12,((0:Int),())),())⟩)
        (gd [z13,z15] (.br (z17)
         (.br (z11)
          (gd [z18] (.ok ⟨bw,((z19,((0:Int),())),())⟩))
          (.ok ⟨bw,((z20,((0:Int),())),())⟩))
         (.br (z21)
          (.br (z11)
           (gd [z23] (.ok ⟨bw,((z24,((0:Int),())),())⟩))
           (.ok ⟨bw,((z25,((0:Int),())),())⟩))
          (.ok ⟨bw,((z2,((41:Int),())),())⟩))))))
      (.br (z10)
       (.ok ⟨bw,((z12,((0:Int),())),())⟩)
       (gd [z13,z15] (.br (z17)
        (.br (z11)
         (gd [z18] (.ok ⟨bw,((z19,((0:Int),())),())⟩))
         (.ok ⟨bw,((z20,((0:Int),())),())⟩))
        (.br (z21)
         (.br (z11)
          (gd [z23] (.ok ⟨bw,((z24,((0:Int),())),())⟩))
          (.ok ⟨bw,((z25,((0:Int),())),())⟩))
         (.ok ⟨bw,((z2,((41:Int),())),())⟩))))))
     (.ok ⟨bw,((z2,((41:Int),())),())⟩))
    (.ok ⟨bw,((z2,((41:Int),())),())⟩))))))
theorem alD (x:jZ) (Q:cH.Y->Prop):wpf te pM av 1000 Tryz.f56 (cH.inp.inj x).tm (cH.inp.inj x).hp (fnK cH Gi Q) (λ_ _=>False)=(oe (x.1.1) (x.1.2.1)).wpR Q:=by kernel_rfl
theorem SN (pre:jZ->Bool) (F:jZ->OT cH.Y) (hF:∀ (x:jZ) oy,pre x=true->(F x).run=some oy->(oe (x.1.1) (x.1.2.1)).run=some oy):ac Tryz.prog 56 (cH.aI pre F):=
 aD ar rD O3 (f:=56) (fn:=Tryz.f56) (c:=aj Tryz.f56) (by kernel_rfl) (by kernel_rfl) (by kernel_rfl) (S:=cH) (k:=0) (by kernel_rfl) (λR hR=>af) (n:=1000) (sel:=Gi) (λv o h=>by cases h;rfl) (pre:=pre) (F:=F) (T:=λx=>oe (x.1.1) (x.1.2.1)) (λx Q=>alD x Q) hF
theorem aCO (x:UInt8):decide (128<=x)= !(x>>>7==0):=by
 have h:∀ n,n<256->decide (128<=UInt8.ofNat n)= !(UInt8.ofNat n>>>7==0):=by decide+kernel
 have:=h x.toNat x.toNat_lt
 rwa [UInt8.ofNat_toNat] at this
def Gj (_:jZ):Bool:=true
def PB (x:jZ):OT cH.Y:=aCf (S:=cH) (λP e=>.ok ⟨bw,((P,(e,())),())⟩) x.1.1 x.1.2.1
theorem SO {s:Int} {b:List UInt8} {N:aa} (hN:abg b=N):(oe s b).run=(aCf (S:=cH) (λP e=>.ok ⟨bw,((P,(e,())),())⟩) s b).run:=by
 have hN':HF (List.set b 31 (List.getD b 31 0&&&127))=N:=hN
 unfold oe aCf
 rw [hN]
 have hodd:decide (128<=List.getD b 31 0)=OG b:=aCO _
 simp only [hN',hodd]
 rcases (Bool.eq_false_or_eq_true (ap s)).symm with hs|hs
 ·refine Eq.trans ?_ (OT.aq (b:=ap s) hs).symm
  by_cases h0:s<0
  ·exact OT.ao (decide_eq_true h0)
  ·refine (OT.aq (decide_eq_false h0)).trans (OT.ao (decide_eq_true ?_))
   simp only [ap,Bool.and_eq_false_iff,decide_eq_false_iff_not] at hs
   omega
 ·have hc:0<=s/\s<4:=by simpa [ap] using hs
  refine (OT.aq (decide_eq_false (by omega))).trans ((OT.aq (decide_eq_false (by omega))).trans (Eq.trans ?_ (OT.ao (b:=ap s) hs).symm))
  rcases (Bool.eq_false_or_eq_true (fV b)).symm with hl|hl
  ·exact (OT.ao (b:= !fV b) (by rw [hl];rfl)).trans (OT.aq (b:=fV b) hl).symm
  ·have hlen:=o9.1 hl
   have i1:inB 31 b.length=true:=aN (by omega)
   have i2:decide (31<b.length)=true:=decide_eq_true (by omega)
   have i3:lp ((b,()),())=true:=decide_eq_true (by show b.length<=_;omega)
   have i4:fV (List.set b 31 (List.getD b 31 0&&&127))=true:=o9.2 (by rw [List.length_set];exact hlen)
   have i5:mX ((s,List.set b 31 (List.getD b 31 0&&&127),()),())=true:=hs
   have hg1:∀ z:aa,og ((s,z,()),())=true:=λ_=>hs
   have hg2:∀ z:aa,oi ((s,z,()),())=true:=λ_=>hs
   have hg3:∀ z:aa,lL ((s,z,()),())=true:=λ_=>hs
   refine (OT.aq (b:= !fV b) (by rw [hl];rfl)).trans (Eq.trans ((ah ?_).trans ((OT.ao i4).trans ?_)) (OT.ao (b:=fV b) hl).symm)
   ·simp only [i1,i2,i3,i5,List.all_cons,List.all_nil,Bool.and_self]
   ·rcases (Bool.eq_false_or_eq_true (Nat.blt N.nat (pS s))).symm with hb|hb
    ·exact (OT.aq hb).trans (OT.aq (b:=Nat.blt N.nat (pS s)) hb).symm
    ·refine (OT.ao hb).trans (Eq.trans ?_ (OT.ao (b:=Nat.blt N.nat (pS s)) hb).symm)
     have hA:=abB hs N
     rcases (Bool.eq_false_or_eq_true (bU N)).symm with hz|hz
     ·refine (OT.aq (b:=bU N) hz).trans (Eq.trans ((OT.aq (b:=bU N) hz).trans ?_) (OT.aq (b:=bU N) hz).symm)
      refine (ah (by rw [hg1,hg2];rfl)).trans ((OT.aq (b:=bU (sqA s N)) hA).trans ?_)
      rcases (Bool.eq_false_or_eq_true (sqB s N)).symm with hq|hq
      ·exact (OT.aq (b:=sqB s N) hq).trans (OT.aq (b:=sqB s N) hq).symm
      ·refine (OT.ao (b:=sqB s N) hq).trans (Eq.trans ?_ (OT.ao (b:=sqB s N) hq).symm)
       unfold ptD
       rcases (Bool.eq_false_or_eq_true (OG b)).symm with ho|ho
       ·rw [ho]
        exact (OT.aq rfl).trans rfl
       ·rw [ho]
        exact (OT.ao rfl).trans ((ah (by rw [hg3];rfl)).trans rfl)
     ·refine (OT.ao (b:=bU N) hz).trans (Eq.trans ?_ (OT.ao (b:=bU N) hz).symm)
      rcases (Bool.eq_false_or_eq_true (OG b)).symm with ho|ho
      ·exact (OT.aq ho).trans ((OT.ao (b:=bU N) hz).trans (OT.aq (b:=OG b) ho).symm)
      ·exact (OT.ao ho).trans (OT.ao (b:=OG b) ho).symm
theorem Ju:ac Tryz.prog 56 (cH.aI Gj PB):=SN _ _ λx oy hp ho=>by
 rw [<-ho]
 clear ho
 obtain ⟨⟨s,b,⟨⟩⟩,⟨⟩⟩:=x
 exact SO rfl
def qp:cn:=(cH.aI Gj PB)
theorem Oq:ac Tryz.prog 56 qp:=Ju
theorem Oo:aG qp:=aA
def FK:Env:=ay 56 qp pM
theorem Vz:aQ Tryz.prog FK:=ag Oq rD
theorem M6:ax FK:=ae Oo uE
abbrev Rg:aw:=di
def Zu (s:Int) (b:List UInt8):Pt×Int:=cond (ap s) (cond (fV b) (cond (Nat.blt (abg b).nat (pS s)) (cond (bU (abg b)) (cond (OG b) (dB,41) (cF,0)) (cond (sqB s (abg b)) (ptD s (abg b) (OG b),0) (dB,41))) (dB,41)) (dB,41)) (dB,40)
theorem akc {S:aw} (f:Pt->Int->OT S.Y) (s:Int) (b:List UInt8):(aCf f s b).run=(f (Zu s b).1 (Zu s b).2).run:=by
 unfold aCf Zu
 generalize abg b=N
 rcases (Bool.eq_false_or_eq_true (ap s)).symm with h|h
 ·rw [h];rfl
 ·rcases (Bool.eq_false_or_eq_true (fV b)).symm with h1|h1
  ·rw [h,h1];rfl
  ·rcases (Bool.eq_false_or_eq_true (Nat.blt N.nat (pS s))).symm with h2|h2
   ·rw [h,h1,h2];rfl
   ·rcases (Bool.eq_false_or_eq_true (bU N)).symm with h3|h3
    ·rcases (Bool.eq_false_or_eq_true (sqB s N)).symm with h4|h4
     ·rw [h,h1,h2,h3,h4];rfl
     ·rw [h,h1,h2,h3,h4];rfl
    ·rcases (Bool.eq_false_or_eq_true (OG b)).symm with h4|h4
     ·rw [h,h1,h2,h3,h4];rfl
     ·rw [h,h1,h2,h3,h4];rfl
def GJ (_:nz):Bool:=true
def Rh (x:nz):OT di.Y:=.ok ⟨bu,(((Zu x.1.1 x.1.2.1).1,((Zu x.1.1 x.1.2.1).2,())),())⟩
theorem aeF:ac Tryz.prog 58 (Rg.aI GJ Rh):=jt (S:=di) Ri λx oy hp ho=>⟨rfl,(akc (S:=di) (λP e=>.ok ⟨bu,((P,(e,())),())⟩) x.1.1 x.1.2.1).trans ho⟩
def rh:cn:=(Rg.aI GJ Rh)
theorem OS:ac Tryz.prog 58 rh:=aeF
theorem OR:aG rh:=aA
def F9:Env:=ay 58 rh FK
theorem VQ:aQ Tryz.prog F9:=ag OS Vz
theorem N0:ax F9:=ae OR M6
abbrev Js:aw:=cH
def AQ (_:jZ):Bool:=true
def Jt (x:jZ):OT cH.Y:=.ok ⟨bw,(((Zu x.1.1 x.1.2.1).1,((Zu x.1.1 x.1.2.1).2,())),())⟩
theorem WU:ac Tryz.prog 56 (Js.aI AQ Jt):=jt (S:=cH) Ju λx oy hp ho=>⟨rfl,(akc (S:=cH) (λP e=>.ok ⟨bw,((P,(e,())),())⟩) x.1.1 x.1.2.1).trans ho⟩
def nQ:cn:=(Js.aI AQ Jt)
theorem Jr:ac Tryz.prog 56 nQ:=WU
theorem Jq:aG nQ:=aA
def mI:Env:=ay 56 nQ F9
theorem nV:aQ Tryz.prog mI:=ag Jr VQ
theorem rX:ax mI:=ae Jq N0
theorem M5:aW Tryz.prog te mI:=aJ follows ar nV rX
def rS:aw:=⟨[.val false .int],[],true,0,false⟩
def T4:az:=⟨[.qL,.val false .int],[],false⟩
def ady:az:=⟨[.ptr 0 0 0,.val false .int],[(0,.cells [.val false .int,.own 1]),(1,.row HB)],false⟩
abbrev am2:Type:=((Int)×Unit)×(Unit)
def Yq:List az:= [T4,ady]
def ajd (a0:Int):OT rS.Y:=
 (.br (decide (a0<(0:Int)))
 (.ok ⟨T4,(((),((40:Int),())),())⟩)
 (.br (decide ((3:Int)<a0))
  (.ok ⟨T4,(((),((40:Int),())),())⟩)
  (.ok ⟨ady,(((),((0:Int),())),((a0,((),())),([],())))⟩)))
theorem aHZ (x:am2) (Q:rS.Y->Prop):wpf te mI av 1000 Tryz.f114 (rS.inp.inj x).tm (rS.inp.inj x).hp (aFO rS Yq Q) (λ_ _=>False)=(ajd (x.1.1)).wpR Q:=by kernel_rfl
theorem atB (pre:am2->Bool) (F:am2->OT rS.Y) (hF:∀ (x:am2) oy,pre x=true->(F x).run=some oy->(ajd (x.1.1)).run=some oy):ac Tryz.prog 114 (rS.aI pre F):=
 ajL ar nV M5 (f:=114) (fn:=Tryz.f114) (c:=aj Tryz.f114) (by kernel_rfl) (by kernel_rfl) (by kernel_rfl) (S:=rS) (k:=0) (by kernel_rfl) (λR hR=>af) (n:=1000) (outs:=Yq) (by kernel_rfl) (pre:=pre) (F:=F) (T:=λx=>ajd (x.1.1)) (λx Q=>aHZ x Q) hF
def ajc (_:am2):Bool:=true
def aBZ (x:am2):OT rS.Y:=.br (ap x.1.1) (.ok ⟨ady,(((),((0:Int),())),((x.1.1,((),())),([],())))⟩) (.ok ⟨T4,(((),((40:Int),())),())⟩)
theorem aFq:ac Tryz.prog 114 (rS.aI ajc aBZ):=atB _ _ λx oy _ ho=>by
 rw [<-ho]
 clear ho
 obtain ⟨⟨s,⟨⟩⟩,⟨⟩⟩:=x
 show (ajd s).run=(OT.br (ap s) _ _:OT rS.Y).run
 by_cases h0:s<0
 ·refine (OT.ao (decide_eq_true h0)).trans (OT.aq (b:=ap s) ?_).symm
  simp only [ap,decide_eq_false (show ¬(0:Int)<=s by omega),Bool.false_and]
 ·refine (OT.aq (decide_eq_false h0)).trans ?_
  by_cases h3:3<s
  ·refine (OT.ao (decide_eq_true h3)).trans (OT.aq (b:=ap s) ?_).symm
   simp only [ap,decide_eq_false (show ¬s<4 by omega),Bool.and_false]
  ·refine (OT.aq (decide_eq_false h3)).trans (OT.ao (b:=ap s) ?_).symm
   simp only [ap,decide_eq_true (show (0:Int)<=s by omega),decide_eq_true (show s<4 by omega),Bool.and_self]
def KK:cn:=(rS.aI ajc aBZ)
theorem am1:ac Tryz.prog 114 KK:=aFq
theorem am0:aG KK:=aA
def aaP:Env:=ay 114 KK mI
theorem Ns:aQ Tryz.prog aaP:=ag am1 nV
theorem Nt:ax aaP:=ae am0 rX
theorem ao2:aW Tryz.prog te aaP:=aJ follows ar Ns Nt
def aJE (w:Sh):CSh:=.cells [.val false .int,w]
def rT:aw:=⟨[.ptr 0 0 0,.val true .elem,.val true (.prod .elem (.prod .elem .bool))],[(0,aJE (.own 1)),(1,.row HB)],false,1,true⟩
abbrev anb:Type:=((Unit)×(aa)×((aa×(aa×Bool)))×Unit)×(((Int)×(Unit)×Unit)×(List ((aa×(aa×(aa×Bool)))))×Unit)
def tp:az:=⟨[.val false .int],[(0,.cells [.val false .int,.own 1]),(1,.row (.prod .elem (.prod .elem (.prod .elem .bool))))],false⟩
def ajk:SV->Option az:=λ_=>some tp
def ajm (a1:aa) (a2:(aa×(aa×Bool))) (c0_0:Int) (c1:List ((aa×(aa×(aa×Bool))))):OT rT.Y:=
 let z0:Int:=aH1 c0_0 (1:Int)
 let z1:aa:= {w0:=0,w1:=0,w2:=0,w3:=0}
 (.br (!onB c0_0 a2)
 (.ok ⟨tp,(((41:Int),()),((c0_0,((),())),(c1,())))⟩)
 (.br (decide ((100000:Int)<=(↑(List.length c1):Int)))
  (.ok ⟨tp,(((50:Int),()),((c0_0,((),())),(c1,())))⟩)
  (.br (ap z0)
   (gd [decide ((List.length c1+1)*104<=140737488355328)] (.ok ⟨tp,(((0:Int),()),((c0_0,((),())),(c1++ [(FC (pS z0) a1 z1,a2)],())))⟩))
   (gd [decide ((List.length c1+1)*104<=140737488355328)] (.ok ⟨tp,(((0:Int),()),((c0_0,((),())),(c1++ [(z1,a2)],())))⟩)))))
theorem aH0 (x:anb) (Q:rT.Y->Prop):wpf te aaP av 1000 Tryz.f115 (rT.inp.inj x).tm (rT.inp.inj x).hp (fnK rT ajk Q) (λ_ _=>False)=(ajm (x.1.2.1) (x.1.2.2.1) (x.2.1.1) (x.2.2.1)).wpR Q:=by kernel_rfl
theorem atJ (pre:anb->Bool) (F:anb->OT rT.Y) (hF:∀ (x:anb) oy,pre x=true->(F x).run=some oy->(ajm (x.1.2.1) (x.1.2.2.1) (x.2.1.1) (x.2.2.1)).run=some oy):ac Tryz.prog 115 (rT.aI pre F):=
 aD ar Ns ao2 (f:=115) (fn:=Tryz.f115) (c:=aj Tryz.f115) (by kernel_rfl) (by kernel_rfl) (by kernel_rfl) (S:=rT) (k:=2) (by kernel_rfl) (λR hR=>af) (n:=1000) (sel:=ajk) (λv o h=>by cases h;rfl) (pre:=pre) (F:=F) (T:=λx=>ajm (x.1.2.1) (x.1.2.2.1) (x.2.1.1) (x.2.2.1)) (λx Q=>aH0 x Q) hF
abbrev Tm:Type:=HB.T
def yW:Tm:=(⟨0,0,0,0⟩,⟨0,0,0,0⟩,⟨0,0,0,0⟩,false)
def WD (l:List Tm):Bool:=decide (l.length<100000)
def ajl (_:anb):Bool:=true
def aB0 (x:anb):OT rT.Y:=.br (onB x.2.1.1 x.1.2.2.1) (.br (WD x.2.2.1) (.ok ⟨tp,(((0:Int),()),((x.2.1.1,((),())),(x.2.2.1++ [(abJ x.2.1.1 x.1.2.1,x.1.2.2.1)],())))⟩)
 (.ok ⟨tp,(((50:Int),()),((x.2.1.1,((),())),(x.2.2.1,())))⟩)) (.ok ⟨tp,(((41:Int),()),((x.2.1.1,((),())),(x.2.2.1,())))⟩)
theorem aFr:ac Tryz.prog 115 (rT.aI ajl aB0):=atJ _ _ λx oy _ ho=>by
 rw [<-ho]
 clear ho
 obtain ⟨⟨⟨⟩,k,P,⟨⟩⟩,⟨⟨c,⟨⟩,⟨⟩⟩,l,⟨⟩⟩⟩:=x
 show (ajm k P c l).run=(OT.br (onB c P) (.br (WD l) _ _) _:OT rT.Y).run
 rcases (Bool.eq_false_or_eq_true (onB c P)).symm with h|h
 ·exact (OT.ao (b:= !onB c P) (by rw [h];rfl)).trans (OT.aq (b:=onB c P) h).symm
 ·refine (OT.aq (b:= !onB c P) (by rw [h];rfl)).trans (Eq.trans ?_ (OT.ao (b:=onB c P) h).symm)
  rcases (Bool.eq_false_or_eq_true (WD l)).symm with h2|h2
  ·have h3:=of_decide_eq_false h2
   exact (OT.ao (decide_eq_true (by omega))).trans (OT.aq (b:=WD l) h2).symm
  ·have h3:=of_decide_eq_true h2
   refine (OT.aq (decide_eq_false (by omega))).trans (Eq.trans ?_ (OT.ao (b:=WD l) h2).symm)
   refine (OT.ao (Ph (TK h))).trans ((ah ?_).trans rfl)
   simp only [List.all_cons,List.all_nil,Bool.and_true]
   exact decide_eq_true (by omega)
def K3:cn:=(rT.aI ajl aB0)
theorem ana:ac Tryz.prog 115 K3:=aFr
theorem am9:aG K3:=aA
def RS:Env:=ay 115 K3 aaP
theorem C2:aQ Tryz.prog RS:=ag ana Ns
theorem Nu:ax RS:=ae am9 Nt
theorem RR:aW Tryz.prog te RS:=aJ follows ar C2 Nu
def fU:aw:=⟨[.val false .int,.val false (.list HB)],[],true,0,false⟩
abbrev vY:Type:=((Int)×(List ((aa×(aa×(aa×Bool)))))×Unit)×(Unit)
def o3:Shape:=⟨26,[(0,.val false .int),(4,.ptr 0 0 0),(5,.ptr 1 0 0),(9,.val false (.list (.prod .elem (.prod .elem (.prod .elem .bool))))),(10,.val false .int),(11,.val false .int)],[(0,.cells [.val false .u64,.val false .u64,.val false .u64,.val false .u64,.val false .u64,.val false .u64,.val false .u64,.val false .u64,.val false .bool]),(1,.cells [.val false .u64,.val false .u64,.val false .u64,.val false .u64,.val false .u64,.val false .u64,.val false .u64,.val false .u64,.val false .bool])],0,true⟩
abbrev cc:Type:=((Int)×(Unit)×(Unit)×(List ((aa×(aa×(aa×Bool)))))×(Int)×(Int)×Unit)×(((UInt64)×(UInt64)×(UInt64)×(UInt64)×(UInt64)×(UInt64)×(UInt64)×(UInt64)×(Bool)×Unit)×((UInt64)×(UInt64)×(UInt64)×(UInt64)×(UInt64)×(UInt64)×(UInt64)×(UInt64)×(Bool)×Unit)×Unit)
def nl:Shape:=⟨26,[(4,.ptr 0 0 0),(5,.ptr 1 0 0)],[(0,.cells [.val false .u64,.val false .u64,.val false .u64,.val false .u64,.val false .u64,.val false .u64,.val false .u64,.val false .u64,.val false .bool]),(1,.cells [.val false .u64,.val false .u64,.val false .u64,.val false .u64,.val false .u64,.val false .u64,.val false .u64,.val false .u64,.val false .bool])],0,true⟩
abbrev iR:Type:=((Unit)×(Unit)×Unit)×(((UInt64)×(UInt64)×(UInt64)×(UInt64)×(UInt64)×(UInt64)×(UInt64)×(UInt64)×(Bool)×Unit)×((UInt64)×(UInt64)×(UInt64)×(UInt64)×(UInt64)×(UInt64)×(UInt64)×(UInt64)×(Bool)×Unit)×Unit)
def QC:SE->Option Shape:=fC [(0,nl)] none
def amY (a0:Int) (a9:List ((aa×(aa×(aa×Bool))))) (a10:Int) (a11:Int) (c0_0:UInt64) (c0_1:UInt64) (c0_2:UInt64) (c0_3:UInt64) (c0_4:UInt64) (c0_5:UInt64) (c0_6:UInt64) (c0_7:UInt64) (c0_8:Bool) (c1_0:UInt64) (c1_1:UInt64) (c1_2:UInt64) (c1_3:UInt64) (c1_4:UInt64) (c1_5:UInt64) (c1_6:UInt64) (c1_7:UInt64) (c1_8:Bool):OT (Sum cc aE):=
 let z0:aa:= {w0:=0,w1:=0,w2:=0,w3:=0}
 let z1:aa×aa×aa×Bool:=List.getD a9 (Int.toNat a11) (z0,z0,z0,false)
 let z2:aa×aa×Bool:=kT a0 ({w0:=c1_0,w1:=c1_1,w2:=c1_2,w3:=c1_3},{w0:=c1_4,w1:=c1_5,w2:=c1_6,w3:=c1_7},c1_8) (Yk a0 z1.fst z1.snd)
 let z3:=z2.fst
 let z4:=z2.snd
 let z5:=z4.fst
 (.br (decide (a11<a10))
 (gd [inB a11 (List.length a9),inR (a11+(1:Int))] (.ok (.inl ((a0,((),((),(a9,(a10,(a11+(1:Int),())))))),((c0_0,(c0_1,(c0_2,(c0_3,(c0_4,(c0_5,(c0_6,(c0_7,(c0_8,()))))))))),((z3.w0,(z3.w1,(z3.w2,(z3.w3,(z5.w0,(z5.w1,(z5.w2,(z5.w3,(z4.snd,()))))))))),()))))))
 (.ok (.inr ⟨(.exit 0,nl),(((),((),())),((c0_0,(c0_1,(c0_2,(c0_3,(c0_4,(c0_5,(c0_6,(c0_7,(c0_8,()))))))))),((c1_0,(c1_1,(c1_2,(c1_3,(c1_4,(c1_5,(c1_6,(c1_7,(c1_8,()))))))))),())))⟩)))
def o4 (s:cc):OT (Sum cc aE):=amY (s.1.1) (s.1.2.2.2.1) (s.1.2.2.2.2.1) (s.1.2.2.2.2.2.1) (s.2.1.1) (s.2.1.2.1) (s.2.1.2.2.1) (s.2.1.2.2.2.1) (s.2.1.2.2.2.2.1) (s.2.1.2.2.2.2.2.1) (s.2.1.2.2.2.2.2.2.1) (s.2.1.2.2.2.2.2.2.2.1) (s.2.1.2.2.2.2.2.2.2.2.1) (s.2.2.1.1) (s.2.2.1.2.1) (s.2.2.1.2.2.1) (s.2.2.1.2.2.2.1) (s.2.2.1.2.2.2.2.1) (s.2.2.1.2.2.2.2.2.1) (s.2.2.1.2.2.2.2.2.2.1) (s.2.2.1.2.2.2.2.2.2.2.1) (s.2.2.1.2.2.2.2.2.2.2.2.1)
theorem amV (s:cc) (Q:Sum cc aE->Prop):wps te RS av 1000 (aU (aj Tryz.f160) 0) (o3.inj s) (bY o3 QC (Q:Sum o3.T aE->Prop))=(o4 s).wpR Q:=by kernel_rfl
def vX (g0_0:cc->iR) (s:cc):OT aE:=(.ok ⟨(.exit 0,nl),g0_0 s⟩)
def EP:az:=⟨[.val true (.prod .elem (.prod .elem .bool))],[],false⟩
def KH:SV->Option az:=λ_=>some EP
def KJ (ok0:cc->Bool) (g0_0:cc->iR) (a0:Int) (a1:List ((aa×(aa×(aa×Bool))))):OT fU.Y:=
 let z0:(Int×PUnit×PUnit×List (aa×aa×aa×Bool)×Int×Int×PUnit)×(UInt64×UInt64×UInt64×UInt64×UInt64×UInt64×UInt64×UInt64×Bool×PUnit)×(UInt64×UInt64×UInt64×UInt64×UInt64×UInt64×UInt64×UInt64×Bool×PUnit)×PUnit:=((a0,(),(),a1,(↑(List.length a1):Int),(0:Int),()),((0:UInt64),(0:UInt64),(0:UInt64),(0:UInt64),(0:UInt64),(0:UInt64),(0:UInt64),(0:UInt64),false,()),((0:UInt64),(0:UInt64),(0:UInt64),(0:UInt64),(0:UInt64),(0:UInt64),(0:UInt64),(0:UInt64),true,()),())
 let z1:=(g0_0 z0).snd.snd.fst
 let z2:=z1.snd
 let z3:=z2.snd
 let z4:=z3.snd
 let z5:=z4.snd
 let z6:=z5.snd
 let z7:=z6.snd
 let z8:=z7.snd
 (gd [ok0 z0] (.ok ⟨EP,((({w0:=z1.fst,w1:=z2.fst,w2:=z3.fst,w3:=z4.fst},{w0:=z5.fst,w1:=z6.fst,w2:=z7.fst,w3:=z8.fst},z8.snd.fst),()),())⟩))
theorem aty (ok0:cc->Bool) (g0_0:cc->iR) (x:vY) (Q:fU.Y->Prop):wpf te RS (aO 0 (cl o3 0 ok0 (vX g0_0)) av) 1000 Tryz.f160 (fU.inp.inj x).tm (fU.inp.inj x).hp (fnK fU KH Q) (λ_ _=>False)=(KJ ok0 g0_0 (x.1.1) (x.1.2.1)).wpR Q:=by kernel_rfl
theorem Yo (ok0:cc->Bool) (g0_0:cc->iR) (h0:∀ s:cc,ok0 s=true->∃ m e,al (o4) m s=some e/\(vX g0_0 s).run=some e) (pre:vY->Bool) (F:vY->OT fU.Y) (hF:∀ (x:vY) oy,pre x=true->(F x).run=some oy->(KJ ok0 g0_0 (x.1.1) (x.1.2.1)).run=some oy):ac Tryz.prog 160 (fU.aI pre F):=
 aD ar C2 RR (f:=160) (fn:=Tryz.f160) (c:=aj Tryz.f160) (by kernel_rfl) (by kernel_rfl) (by kernel_rfl) (S:=fU) (k:=0) (by kernel_rfl) (λR hR=>(aB (c:=(aj Tryz.f160)) (by kernel_rfl) (id:=0) (by kernel_rfl) (aR ar C2 RR (sh:=o3) hR (xs:=QC) (aC (by kernel_rfl) (by kernel_rfl) hR) aL af (n:=1000) (T:=o4) (λs Q=>amV s Q) (ok:=ok0) (f:=vX g0_0) h0) af)) (n:=1000) (sel:=KH) (λv o h=>by cases h;rfl) (pre:=pre) (F:=F) (T:=λx=>KJ ok0 g0_0 (x.1.1) (x.1.2.1)) (λx Q=>aty ok0 g0_0 x Q) hF
def Pj (c:Int) (l:List Tm) (k:Nat) (O:Pt):Pt:=kT c O (Yk c (l.getD k yW).1 (l.getD k yW).2)
def Am (c:Int) (l:List Tm):Pt:=upto (Pj c l) cF l.length
def KI (s:cc):Bool:=decide (s.1.2.2.2.2.1=(s.1.2.2.2.1.length:Int)/\s.1.2.2.2.2.2.1=0/\Mi s.2.2.1=cF/\s.1.2.2.2.1.length<=140737488355328)
def QD (s:cc):iR:=(((),(),()),(s.2.1,bQ (Am s.1.1 s.1.2.2.2.1),()))
theorem amX:∀ s:cc,KI s=true->∃ m e,al o4 m s=some e/\(vX QD s).run=some e:=by
 rintro ⟨⟨c,⟨⟩,⟨⟩,l,n,i,⟨⟩⟩,⟨c0,c1,⟨⟩⟩⟩ h
 have h':=of_decide_eq_true h
 dsimp only at h'
 obtain ⟨rfl,rfl,hO,hl⟩:=h'
 have hO2:c1=bQ cF:=by rw [<-hO];rfl
 subst hO2
 have:=(aP (T:=o4) (λi O=>(((c,(),(),l,(l.length:Int),(i:Int),()),(c0,bQ O,())):cc)) (Pj c l)
  (λO=>(⟨(.exit 0,nl),(((),(),()),(c0,bQ O,()))⟩:aE)) l.length cF (λ_ _=>True) trivial (λk O hk _=>⟨?_,trivial⟩) (λO _=> ?_)).1
 ·obtain ⟨m,hm⟩:=this
  exact ⟨m,_,hm,rfl⟩
 ·refine (OT.ao (decide_eq_true (by dsimp only;omega))).trans ((ah ?_).trans ?_)
  ·simp only [List.all_cons,List.all_nil,Bool.and_true,Bool.and_eq_true]
   exact ⟨aN (by omega),aH (by omega)⟩
  ·simp only [OT.cP,Int.toNat_natCast]
   rfl
 ·exact OT.aq (decide_eq_false (by dsimp only;omega))
def y0 (x:vY):Bool:=decide (x.1.2.1.length<=140737488355328)
def Yp (x:vY):OT fU.Y:=.ok ⟨EP,((Am x.1.1 x.1.2.1,()),())⟩
theorem amW:ac Tryz.prog 160 (fU.aI y0 Yp):=Yo KI QD amX _ _ λx oy hp ho=>by
 rw [<-ho]
 clear ho
 obtain ⟨⟨c,l,⟨⟩⟩,⟨⟩⟩:=x
 have hl:l.length<=140737488355328:=of_decide_eq_true hp
 refine (ah ?_).trans rfl
 simp only [List.all_cons,List.all_nil,Bool.and_true]
 exact decide_eq_true ⟨rfl,rfl,rfl,hl⟩
def tj:cn:=(fU.aI y0 Yp)
theorem T0:ac Tryz.prog 160 tj:=amW
theorem TZ:aG tj:=aA
def uL:Env:=ay 160 tj RS
theorem uK:aQ Tryz.prog uL:=ag T0 C2
theorem xX:ax uL:=ae TZ Nu
theorem VI:aW Tryz.prog te uL:=aJ follows ar uK xX
def l5:aw:=⟨[.val true HB,.ptr 0 0 0],[(0,.cells [.val false .int])],false,1,true⟩
abbrev QA:Type:=(((aa×(aa×(aa×Bool))))×(Unit)×Unit)×(((Int)×Unit)×Unit)
def TU:az:=⟨[.val false .bool],[(0,.cells [.val false .int])],false⟩
def Yl:SV->Option az:=λ_=>some TU
def adt (a0:(aa×(aa×(aa×Bool)))) (c0_0:Int):OT l5.Y:=
 (.ok ⟨TU,((xJ a0.fst c0_0,()),((c0_0,()),()))⟩)
theorem aFh (x:QA) (Q:l5.Y->Prop):wpf te uL av 1000 Tryz.f169 (l5.inp.inj x).tm (l5.inp.inj x).hp (fnK l5 Yl Q) (λ_ _=>False)=(adt (x.1.1) (x.2.1.1)).wpR Q:=by kernel_rfl
theorem amP (pre:QA->Bool) (F:QA->OT l5.Y) (hF:∀ (x:QA) oy,pre x=true->(F x).run=some oy->(adt (x.1.1) (x.2.1.1)).run=some oy):ac Tryz.prog 169 (l5.aI pre F):=
 aD ar uK VI (f:=169) (fn:=Tryz.f169) (c:=aj Tryz.f169) (by kernel_rfl) (by kernel_rfl) (by kernel_rfl) (S:=l5) (k:=1) (by kernel_rfl) (λR hR=>af) (n:=1000) (sel:=Yl) (λv o h=>by cases h;rfl) (pre:=pre) (F:=F) (T:=λx=>adt (x.1.1) (x.2.1.1)) (λx Q=>aFh x Q) hF
def Ym (_:QA):Bool:=true
def atu (x:QA):OT l5.Y:=.ok ⟨TU,((xJ x.1.1.1 x.2.1.1,()),((x.2.1.1,()),()))⟩
theorem azX:ac Tryz.prog 169 (l5.aI Ym atu):=amP _ _ λx oy hp ho=>by
 rw [<-ho]
 rfl
def EL:cn:=(l5.aI Ym atu)
theorem ads:ac Tryz.prog 169 EL:=azX
theorem adr:aG EL:=aA
def FY:Env:=ay 169 EL uL
theorem xk:aQ Tryz.prog FY:=ag ads uK
theorem Hg:ax FY:=ae adr xX
theorem Nn:aW Tryz.prog te FY:=aJ follows ar xk Hg
def ff:aw:=⟨[.val false (.list HB),.fn 169 [0]],[(0,.cells [.val false .int])],true,1,true⟩
abbrev v8:Type:=((List ((aa×(aa×(aa×Bool)))))×(Unit)×Unit)×(((Int)×Unit)×Unit)
def o5:Shape:=⟨19,[(0,.val false (.list (.prod .elem (.prod .elem (.prod .elem .bool))))),(1,.fn 169 [0]),(7,.val false .int),(8,.val false .int)],[(0,.cells [.val false .int])],1,true⟩
abbrev be:Type:=((List ((aa×(aa×(aa×Bool)))))×(Unit)×(Int)×(Int)×Unit)×(((Int)×Unit)×Unit)
def nn:Shape:=⟨19,[(4,.val false .int)],[(0,.cells [.val false .int])],1,true⟩
abbrev iS:Type:=((Int)×Unit)×(((Int)×Unit)×Unit)
def np:Shape:=⟨19,[],[(0,.cells [.val false .int])],1,true⟩
abbrev iT:Type:=(Unit)×(((Int)×Unit)×Unit)
def QF:SE->Option Shape:=fC [(0,np)] (some nn)
def am6 (a0:List ((aa×(aa×(aa×Bool))))) (a7:Int) (a8:Int) (c0_0:Int):OT (Sum be aE):=
 let z0:aa:= {w0:=0,w1:=0,w2:=0,w3:=0}
 (.br (decide (a8<a7))
 (gd [inB a8 (List.length a0)] (.br (xJ (List.getD a0 (Int.toNat a8) (z0,z0,z0,false)).fst c0_0)
  (.ok (.inr ⟨(.ret,nn),((a8,()),((c0_0,()),()))⟩))
  (gd [inR (a8+(1:Int))] (.ok (.inl ((a0,((),(a7,(a8+(1:Int),())))),((c0_0,()),())))))))
 (.ok (.inr ⟨(.exit 0,np),((),((c0_0,()),()))⟩)))
def o6 (s:be):OT (Sum be aE):=am6 (s.1.1) (s.1.2.2.1) (s.1.2.2.2.1) (s.2.1.1)
theorem am3 (s:be) (Q:Sum be aE->Prop):wps te FY av 1000 (aU (aj Tryz.f171) 0) (o5.inj s) (bY o5 QF (Q:Sum o5.T aE->Prop))=(o6 s).wpR Q:=by kernel_rfl
def vZ (g0_r:be->iS) (c0_r:be->Bool) (g0_0:be->iT) (s:be):OT aE:=(.br (c0_r s) (.ok ⟨(.ret,nn),g0_r s⟩) (.ok ⟨(.exit 0,np),g0_0 s⟩))
def jE:az:=⟨[.val false .int],[(0,.cells [.val false .int])],false⟩
def KM:SV->Option az:=λ_=>some jE
def KP (ok0:be->Bool) (g0_r:be->iS) (c0_r:be->Bool) (g0_0:be->iT) (a0:List ((aa×(aa×(aa×Bool))))) (c0_0:Int):OT ff.Y:=
 let z0:(List (aa×aa×aa×Bool)×PUnit×Int×Int×PUnit)×(Int×PUnit)×PUnit:=((a0,(),(↑(List.length a0):Int),(0:Int),()),(c0_0,()),())
 let z1:(Int×PUnit)×(Int×PUnit)×PUnit:=g0_r z0
 (gd [ok0 z0] (.br (c0_r z0)
 (.ok ⟨jE,((z1.fst.fst,()),((z1.snd.fst.fst,()),()))⟩)
 (.ok ⟨jE,(((-1:Int),()),(((g0_0 z0).snd.fst.fst,()),()))⟩)))
theorem atD (ok0:be->Bool) (g0_r:be->iS) (c0_r:be->Bool) (g0_0:be->iT) (x:v8) (Q:ff.Y->Prop):wpf te FY (aO 0 (cl o5 0 ok0 (vZ g0_r c0_r g0_0)) av) 1000 Tryz.f171 (ff.inp.inj x).tm (ff.inp.inj x).hp (fnK ff KM Q) (λ_ _=>False)=(KP ok0 g0_r c0_r g0_0 (x.1.1) (x.2.1.1)).wpR Q:=by kernel_rfl
theorem Yr (ok0:be->Bool) (g0_r:be->iS) (c0_r:be->Bool) (g0_0:be->iT) (h0:∀ s:be,ok0 s=true->∃ m e,al (o6) m s=some e/\(vZ g0_r c0_r g0_0 s).run=some e) (pre:v8->Bool) (F:v8->OT ff.Y) (hF:∀ (x:v8) oy,pre x=true->(F x).run=some oy->(KP ok0 g0_r c0_r g0_0 (x.1.1) (x.2.1.1)).run=some oy):ac Tryz.prog 171 (ff.aI pre F):=
 aD ar xk Nn (f:=171) (fn:=Tryz.f171) (c:=aj Tryz.f171) (by kernel_rfl) (by kernel_rfl) (by kernel_rfl) (S:=ff) (k:=1) (by kernel_rfl) (λR hR=>(aB (c:=(aj Tryz.f171)) (by kernel_rfl) (id:=0) (by kernel_rfl) (aR ar xk Nn (sh:=o5) hR (xs:=QF) (aC (by kernel_rfl) (by kernel_rfl) hR) aL af (n:=1000) (T:=o6) (λs Q=>am3 s Q) (ok:=ok0) (f:=vZ g0_r c0_r g0_0) h0) af)) (n:=1000) (sel:=KM) (λv o h=>by cases h;rfl) (pre:=pre) (F:=F) (T:=λx=>KP ok0 g0_r c0_r g0_0 (x.1.1) (x.2.1.1)) (λx Q=>atD ok0 g0_r c0_r g0_0 x Q) hF
def BR (l:List Tm) (i:Int):Nat->Nat->Int
 |0,_=> -1
 |n+1,k=>cond (xJ (l.getD k yW).1 i) (k:Int) (BR l i n (k+1))
def KN (s:be):Bool:=decide (s.1.2.2.1=(s.1.1.length:Int)/\s.1.2.2.2.1=0/\s.1.1.length<=140737488355328)
def ku (l:List Tm) (i:Int):Int:=BR l i l.length 0
def KO (s:be):iS:=((ku s.1.1 s.2.1.1,()),s.2)
def QH (s:be):Bool:=decide (0<=ku s.1.1 s.2.1.1)
def QG (s:be):iT:=((),s.2)
def YD (l:List Tm) (i k:Int):be:=((l,(),(l.length:Int),k,()),((i,()),()))
theorem Y9 (l:List Tm) (i:Int):∀ n k,BR l i n k= -1\/0<=BR l i n k
 |0,_=>.inl rfl
 |n+1,k=>by
  unfold BR
  cases xJ (l.getD k yW).1 i
  ·exact Y9 l i n (k+1)
  ·right
   show (0:Int)<=(k:Int)
   omega
theorem ajr (l:List Tm) (i:Int) (hl:l.length<=140737488355328):∀ n k:Nat,k+n=l.length->
 ∃ m,al o6 m (YD l i (k:Int))=some (cond (decide (0<=BR l i n k)) ⟨(.ret,nn),((BR l i n k,()),((i,()),()))⟩ ⟨(.exit 0,np),((),((i,()),()))⟩)
 |0,k,h=>⟨1,aM (OT.aq (decide_eq_false (by dsimp only [YD];omega)))⟩
 |n+1,k,h=>by
  have hin:inB (k:Int) l.length=true:=aN (by omega)
  have hgd:∀ z:OT (Sum be aE),(gd [inB (k:Int) l.length] z).run=z.run:=λz=>ah (by rw [hin];rfl)
  unfold BR
  rcases (Bool.eq_false_or_eq_true (xJ (l.getD k yW).1 i)).symm with hb|hb
  ·obtain ⟨m,hm⟩:=ajr l i hl n (k+1) (by omega)
   rw [hb]
   refine ⟨m+1,aF ?_ hm⟩
   refine (OT.ao (decide_eq_true (by dsimp only [YD];omega))).trans ((hgd _).trans ((OT.aq hb).trans ((ah ?_).trans rfl)))
   simp only [List.all_cons,List.all_nil,Bool.and_true]
   exact aH (by dsimp only [YD];omega)
  ·rw [hb]
   have e:decide ((0:Int)<=cond true (k:Int) (BR l i n (k+1)))=true:=decide_eq_true (by show (0:Int)<=(k:Int);omega)
   rw [e]
   refine ⟨1,aM ?_⟩
   exact (OT.ao (decide_eq_true (by dsimp only [YD];omega))).trans ((hgd _).trans ((OT.ao hb).trans rfl))
theorem am5:∀ s:be,KN s=true->∃ m e,al o6 m s=some e/\(vZ KO QH QG s).run=some e:=by
 rintro ⟨⟨l,⟨⟩,n,k,⟨⟩⟩,⟨⟨i,⟨⟩⟩,⟨⟩⟩⟩ h
 have h':=of_decide_eq_true h
 dsimp only at h'
 obtain ⟨rfl,rfl,hl⟩:=h'
 obtain ⟨m,hm⟩:=ajr l i hl l.length 0 (by omega)
 refine ⟨m,_,hm,?_⟩
 show (OT.br (decide (0<=ku l i)) _ _:OT aE).run=some (cond (decide (0<=ku l i)) _ _)
 cases decide (0<=ku l i)<;>rfl
def y4 (x:v8):Bool:=decide (x.1.1.length<=140737488355328)
def Ys (x:v8):OT ff.Y:=.ok ⟨jE,((ku x.1.1 x.2.1.1,()),x.2)⟩
theorem am4:ac Tryz.prog 171 (ff.aI y4 Ys):=Yr KN KO QH QG am5 _ _ λx oy hp ho=>by
 rw [<-ho]
 clear ho
 obtain ⟨⟨l,⟨⟩,⟨⟩⟩,⟨⟨i,⟨⟩⟩,⟨⟩⟩⟩:=x
 have hl:l.length<=140737488355328:=of_decide_eq_true hp
 refine (ah ?_).trans ?_
 ·simp only [List.all_cons,List.all_nil,Bool.and_true]
  exact decide_eq_true ⟨rfl,rfl,hl⟩
 ·show (OT.br (decide (0<=ku l i)) (.ok ⟨jE,((ku l i,()),((i,()),()))⟩) (.ok ⟨jE,(((-1:Int),()),((i,()),()))⟩):OT ff.Y).run=some ⟨jE,((ku l i,()),((i,()),()))⟩
  rcases Y9 l i l.length 0 with h|h
  ·have h:ku l i= -1:=h
   rw [h]
   rfl
  ·exact OT.ao (decide_eq_true h)
def tk:cn:=(ff.aI y4 Ys)
theorem T6:ac Tryz.prog 171 tk:=am4
theorem T5:aG tk:=aA
def uN:Env:=ay 171 tk FY
theorem uM:aQ Tryz.prog uN:=ag T6 xk
theorem xY:ax uN:=ae T5 Hg
theorem VJ:aW Tryz.prog te uN:=aJ follows ar uM xY
def iU:aw:=⟨[.val false (.list HB),.fn 169 [0]],[(0,.cells [.val false .int])],true,1,true⟩
abbrev EQ:Type:=((List ((aa×(aa×(aa×Bool)))))×(Unit)×Unit)×(((Int)×Unit)×Unit)
def KR:az:=⟨[.val false .bool],[(0,.cells [.val false .int])],false⟩
def QJ:SV->Option az:=λ_=>some KR
def T7 (a0:List ((aa×(aa×(aa×Bool))))) (c0_0:Int):OT iU.Y:=
 (gd [y4 ((a0,(),()),(c0_0,()),())] (.ok ⟨KR,((decide ((0:Int)<=ku a0 c0_0),()),((c0_0,()),()))⟩))
theorem az5 (x:EQ) (Q:iU.Y->Prop):wpf te uN av 1000 Tryz.f168 (iU.inp.inj x).tm (iU.inp.inj x).hp (fnK iU QJ Q) (λ_ _=>False)=(T7 (x.1.1) (x.2.1.1)).wpR Q:=by kernel_rfl
theorem adz (pre:EQ->Bool) (F:EQ->OT iU.Y) (hF:∀ (x:EQ) oy,pre x=true->(F x).run=some oy->(T7 (x.1.1) (x.2.1.1)).run=some oy):ac Tryz.prog 168 (iU.aI pre F):=
 aD ar uM VJ (f:=168) (fn:=Tryz.f168) (c:=aj Tryz.f168) (by kernel_rfl) (by kernel_rfl) (by kernel_rfl) (S:=iU) (k:=1) (by kernel_rfl) (λR hR=>af) (n:=1000) (sel:=QJ) (λv o h=>by cases h;rfl) (pre:=pre) (F:=F) (T:=λx=>T7 (x.1.1) (x.2.1.1)) (λx Q=>az5 x Q) hF
def aIK (l:List Tm) (i:Int):Bool:=decide (0<=ku l i)
def v9 (x:EQ):Bool:=decide (x.1.1.length<=140737488355328)
def aji (x:EQ):OT iU.Y:=.ok ⟨KR,((aIK x.1.1 x.2.1.1,()),x.2)⟩
theorem atH:ac Tryz.prog 168 (iU.aI v9 aji):=adz _ _ λx oy hp ho=>by
 rw [<-ho]
 clear ho
 refine (ah ?_).trans rfl
 simp only [List.all_cons,List.all_nil,Bool.and_true]
 exact hp
def y5:cn:=(iU.aI v9 aji)
theorem Yu:ac Tryz.prog 168 y5:=atH
theorem Yt:aG y5:=aA
def xl:Env:=ay 168 y5 uN
theorem rJ:aQ Tryz.prog xl:=ag Yu uM
theorem C1:ax xl:=ae Yt xY
theorem Hi:aW Tryz.prog te xl:=aJ follows ar rJ C1
def rQ:aw:=⟨[.val false (.list HB)],[],true,0,false⟩
abbrev amO:Type:=((List ((aa×(aa×(aa×Bool)))))×Unit)×(Unit)
def KC:Shape:=⟨14,[(0,.val false (.list (.prod .elem (.prod .elem (.prod .elem .bool))))),(3,.ptr 0 0 0)],[(0,.cells [.val false .int])],0,true⟩
abbrev cg:Type:=((List ((aa×(aa×(aa×Bool)))))×(Unit)×Unit)×(((Int)×Unit)×Unit)
def Bp:Shape:=⟨14,[(2,.val false .int)],[],0,true⟩
abbrev oY:Type:=((Int)×Unit)×(Unit)
def Bq:Shape:=⟨14,[],[],0,true⟩
abbrev oZ:Type:=(Unit)×(Unit)
def atp:SE->Option Shape:=fC [(0,Bq)] (some Bp)
def aFg (a0:List ((aa×(aa×(aa×Bool))))) (c0_0:Int):OT (Sum cg aE):=
 (.br (decide ((0:Int)<=c0_0))
 (gd [v9 ((a0,(),()),(c0_0,()),())] (.br (aIK a0 c0_0)
  (gd [inR (c0_0+(1:Int))] (.ok (.inr ⟨(.ret,Bp),((c0_0+(1:Int),()),())⟩)))
  (gd [inR (c0_0-(1:Int))] (.ok (.inl ((a0,((),())),((c0_0-(1:Int),()),())))))))
 (.ok (.inr ⟨(.exit 0,Bq),((),())⟩)))
def KD (s:cg):OT (Sum cg aE):=aFg (s.1.1) (s.2.1.1)
theorem aFd (s:cg) (Q:Sum cg aE->Prop):wps te xl av 1000 (aU (aj Tryz.f161) 0) (KC.inj s) (bY KC atp (Q:Sum KC.T aE->Prop))=(KD s).wpR Q:=by kernel_rfl
def TT (g0_r:cg->oY) (c0_r:cg->Bool) (g0_0:cg->oZ) (s:cg):OT aE:=(.br (c0_r s) (.ok ⟨(.ret,Bp),g0_r s⟩) (.ok ⟨(.exit 0,Bq),g0_0 s⟩))
def yZ:az:=⟨[.val false .int],[],false⟩
def ai2:SV->Option az:=λ_=>some yZ
def att (ok0:cg->Bool) (g0_r:cg->oY) (c0_r:cg->Bool) (g0_0:cg->oZ) (a0:List ((aa×(aa×(aa×Bool))))):OT rQ.Y:=
 let z0:(List (aa×aa×aa×Bool)×PUnit×PUnit)×(Int×PUnit)×PUnit:=((a0,(),()),((255:Int),()),())
 (gd [ok0 z0] (.br (c0_r z0)
 (.ok ⟨yZ,(((g0_r z0).fst.fst,()),())⟩)
 (.ok ⟨yZ,(((0:Int),()),())⟩)))
theorem aHW (ok0:cg->Bool) (g0_r:cg->oY) (c0_r:cg->Bool) (g0_0:cg->oZ) (x:amO) (Q:rQ.Y->Prop):wpf te xl (aO 0 (cl KC 0 ok0 (TT g0_r c0_r g0_0)) av) 1000 Tryz.f161 (rQ.inp.inj x).tm (rQ.inp.inj x).hp (fnK rQ ai2 Q) (λ_ _=>False)=(att ok0 g0_r c0_r g0_0 (x.1.1)).wpR Q:=by kernel_rfl
theorem atq (ok0:cg->Bool) (g0_r:cg->oY) (c0_r:cg->Bool) (g0_0:cg->oZ) (h0:∀ s:cg,ok0 s=true->∃ m e,al (KD) m s=some e/\(TT g0_r c0_r g0_0 s).run=some e) (pre:amO->Bool) (F:amO->OT rQ.Y) (hF:∀ (x:amO) oy,pre x=true->(F x).run=some oy->(att ok0 g0_r c0_r g0_0 (x.1.1)).run=some oy):ac Tryz.prog 161 (rQ.aI pre F):=
 aD ar rJ Hi (f:=161) (fn:=Tryz.f161) (c:=aj Tryz.f161) (by kernel_rfl) (by kernel_rfl) (by kernel_rfl) (S:=rQ) (k:=0) (by kernel_rfl) (λR hR=>(aB (c:=(aj Tryz.f161)) (by kernel_rfl) (id:=0) (by kernel_rfl) (aR ar rJ Hi (sh:=KC) hR (xs:=atp) (aC (by kernel_rfl) (by kernel_rfl) hR) aL af (n:=1000) (T:=KD) (λs Q=>aFd s Q) (ok:=ok0) (f:=TT g0_r c0_r g0_0) h0) af)) (n:=1000) (sel:=ai2) (λv o h=>by cases h;rfl) (pre:=pre) (F:=F) (T:=λx=>att ok0 g0_r c0_r g0_0 (x.1.1)) (λx Q=>aHW ok0 g0_r c0_r g0_0 x Q) hF
def awx (l:List Tm):Nat->Nat
 |0=>0
 |n+1=>cond (aIK l (n:Int)) (n+1) (awx l n)
def abw (l:List Tm):Nat:=awx l 256
def ai3 (s:cg):Bool:=decide (s.2.1.1=255/\s.1.1.length<=140737488355328)
def ai4 (s:cg):oY:=(((abw s.1.1:Int),()),())
def ats (s:cg):Bool:=decide ((0:Int)<(abw s.1.1:Int))
def atr (_:cg):oZ:=((),())
def Pe (l:List Tm) (i:Int):cg:=((l,(),()),((i,()),()))
theorem af5 (l:List Tm) (hl:l.length<=140737488355328):∀ n:Nat,n<=256->
 ∃ m,al KD m (Pe l ((n:Int)-1))=some (cond (decide ((0:Int)<(awx l n:Int))) ⟨(.ret,Bp),(((awx l n:Int),()),())⟩ ⟨(.exit 0,Bq),((),())⟩)
 |0,_=>⟨1,aM (OT.aq (decide_eq_false (by dsimp only [Pe];omega)))⟩
 |n+1,h=>by
  rw [show ((n+1:Nat):Int)-1=(n:Int) by omega]
  have hgd:∀ z:OT (Sum cg aE),(gd [v9 ((l,(),()),((n:Int),()),())] z).run=z.run:=λz=>ah (by
   simp only [List.all_cons,List.all_nil,Bool.and_true]
   exact decide_eq_true hl)
  unfold awx
  rcases (Bool.eq_false_or_eq_true (aIK l (n:Int))).symm with hb|hb
  ·obtain ⟨m,hm⟩:=af5 l hl n (by omega)
   rw [hb]
   refine ⟨m+1,aF ?_ hm⟩
   refine (OT.ao (decide_eq_true (by dsimp only [Pe];omega))).trans ((hgd _).trans ((OT.aq hb).trans ((ah ?_).trans rfl)))
   simp only [List.all_cons,List.all_nil,Bool.and_true]
   exact aH (by dsimp only [Pe];omega)
  ·rw [hb]
   simp only [cond_true]
   rw [decide_eq_true (show (0:Int)<((n+1:Nat):Int) by omega)]
   refine ⟨1,aM ?_⟩
   refine (OT.ao (decide_eq_true (by dsimp only [Pe];omega))).trans ((hgd _).trans ((OT.ao hb).trans ((ah ?_).trans rfl)))
   simp only [List.all_cons,List.all_nil,Bool.and_true]
   exact aH (by dsimp only [Pe];omega)
theorem aFf:∀ s:cg,ai3 s=true->∃ m e,al KD m s=some e/\(TT ai4 ats atr s).run=some e:=by
 rintro ⟨⟨l,⟨⟩,⟨⟩⟩,⟨⟨i,⟨⟩⟩,⟨⟩⟩⟩ h
 have h':=of_decide_eq_true h
 dsimp only at h'
 obtain ⟨rfl,hl⟩:=h'
 obtain ⟨m,hm⟩:=af5 l hl 256 (by omega)
 refine ⟨m,_,hm,?_⟩
 show (OT.br (decide ((0:Int)<(awx l 256:Int))) _ _:OT aE).run=some (cond (decide ((0:Int)<(awx l 256:Int))) _ _)
 cases decide ((0:Int)<(awx l 256:Int))<;>rfl
def TS (x:amO):Bool:=decide (x.1.1.length<=140737488355328)
def aBX (x:amO):OT rQ.Y:=.ok ⟨yZ,(((abw x.1.1:Int),()),())⟩
theorem aFe:ac Tryz.prog 161 (rQ.aI TS aBX):=atq ai3 ai4 ats atr aFf _ _ λx oy hp ho=>by
 rw [<-ho]
 clear ho
 obtain ⟨⟨l,⟨⟩⟩,⟨⟩⟩:=x
 have hl:l.length<=140737488355328:=of_decide_eq_true hp
 refine (ah ?_).trans ?_
 ·simp only [List.all_cons,List.all_nil,Bool.and_true]
  exact decide_eq_true ⟨rfl,hl⟩
 ·show (OT.br (decide ((0:Int)<(abw l:Int))) (.ok ⟨yZ,(((abw l:Int),()),())⟩) (.ok ⟨yZ,(((0:Int),()),())⟩):OT rQ.Y).run=some ⟨yZ,(((abw l:Int),()),())⟩
  by_cases h:(0:Int)<(abw l:Int)
  ·exact OT.ao (decide_eq_true h)
  ·have e:abw l=0:=by omega
   rw [e]
   rfl
def KB:cn:=(rQ.aI TS aBX)
theorem amN:ac Tryz.prog 161 KB:=aFe
theorem amM:aG KB:=aA
def C0:Env:=ay 161 KB xl
theorem mL:aQ Tryz.prog C0:=ag amN rJ
theorem Nl:ax C0:=ae amM C1
theorem pV:aW Tryz.prog te C0:=aJ follows ar mL Nl
def eL:aw:=⟨[.val false .int,.val false (.list HB),.val false .int],[],true,0,false⟩
abbrev o8:Type:=((Int)×(List ((aa×(aa×(aa×Bool)))))×(Int)×Unit)×(Unit)
def md:Shape:=⟨74,[(0,.val false .int),(1,.val false (.list (.prod .elem (.prod .elem (.prod .elem .bool))))),(2,.val false .int),(6,.ptr 0 0 0),(7,.ptr 1 0 0),(16,.val false .int)],[(0,.cells [.val false .u64,.val false .u64,.val false .u64,.val false .u64,.val false .u64,.val false .u64,.val false .u64,.val false .u64,.val false .bool]),(1,.row (.prod .elem (.prod .elem .bool)))],0,true⟩
abbrev bB:Type:=((Int)×(List ((aa×(aa×(aa×Bool)))))×(Int)×(Unit)×(Unit)×(Int)×Unit)×(((UInt64)×(UInt64)×(UInt64)×(UInt64)×(UInt64)×(UInt64)×(UInt64)×(UInt64)×(Bool)×Unit)×(List ((aa×(aa×Bool))))×Unit)
def kN:Shape:=⟨74,[(0,.val false .int),(1,.val false (.list (.prod .elem (.prod .elem (.prod .elem .bool))))),(2,.val false .int),(6,.ptr 0 0 0),(7,.ptr 1 0 0)],[(0,.cells [.val false .u64,.val false .u64,.val false .u64,.val false .u64,.val false .u64,.val false .u64,.val false .u64,.val false .u64,.val false .bool]),(1,.row (.prod .elem (.prod .elem .bool)))],0,true⟩
abbrev fy:Type:=((Int)×(List ((aa×(aa×(aa×Bool)))))×(Int)×(Unit)×(Unit)×Unit)×(((UInt64)×(UInt64)×(UInt64)×(UInt64)×(UInt64)×(UInt64)×(UInt64)×(UInt64)×(Bool)×Unit)×(List ((aa×(aa×Bool))))×Unit)
def KV:SE->Option Shape:=fC [(0,kN)] none
def adL (a0:Int) (a1:List ((aa×(aa×(aa×Bool))))) (a2:Int) (a16:Int) (c0_0:UInt64) (c0_1:UInt64) (c0_2:UInt64) (c0_3:UInt64) (c0_4:UInt64) (c0_5:UInt64) (c0_6:UInt64) (c0_7:UInt64) (c0_8:Bool) (c1:List ((aa×(aa×Bool)))):OT (Sum bB aE):=
 let z0:aa:= {w0:=0,w1:=0,w2:=0,w3:=0}
 (.br (decide (a16<(15:Int)))
 (gd [inB a16 15,decide (Int.toNat a16+0<List.length c1),inR (a16+(1:Int))] (.ok (.inl ((a0,(a1,(a2,((),((),(a16+(1:Int),())))))),((c0_0,(c0_1,(c0_2,(c0_3,(c0_4,(c0_5,(c0_6,(c0_7,(c0_8,()))))))))),(List.set c1 (Int.toNat a16+0) (z0,z0,true),()))))))
 (.ok (.inr ⟨(.exit 0,kN),((a0,(a1,(a2,((),((),()))))),((c0_0,(c0_1,(c0_2,(c0_3,(c0_4,(c0_5,(c0_6,(c0_7,(c0_8,()))))))))),(c1,())))⟩)))
def mg (s:bB):OT (Sum bB aE):=adL (s.1.1) (s.1.2.1) (s.1.2.2.1) (s.1.2.2.2.2.2.1) (s.2.1.1) (s.2.1.2.1) (s.2.1.2.2.1) (s.2.1.2.2.2.1) (s.2.1.2.2.2.2.1) (s.2.1.2.2.2.2.2.1) (s.2.1.2.2.2.2.2.2.1) (s.2.1.2.2.2.2.2.2.2.1) (s.2.1.2.2.2.2.2.2.2.2.1) (s.2.2.1)
theorem adD (s:bB) (Q:Sum bB aE->Prop):wps te C0 av 1000 (aU (aj Tryz.f162) 0) (md.inj s) (bY md KV (Q:Sum md.T aE->Prop))=(mg s).wpR Q:=by kernel_rfl
def qU (g0_0:bB->fy) (s:bB):OT aE:=(.ok ⟨(.exit 0,kN),g0_0 s⟩)
def mc:Shape:=⟨74,[(0,.val false .int),(2,.val false .int),(6,.ptr 0 0 0),(7,.ptr 1 0 0),(23,.val false (.list (.prod .elem (.prod .elem (.prod .elem .bool))))),(24,.val false .int),(25,.val false .int)],[(0,.cells [.val false .u64,.val false .u64,.val false .u64,.val false .u64,.val false .u64,.val false .u64,.val false .u64,.val false .u64,.val false .bool]),(1,.row (.prod .elem (.prod .elem .bool)))],0,true⟩
abbrev bA:Type:=((Int)×(Int)×(Unit)×(Unit)×(List ((aa×(aa×(aa×Bool)))))×(Int)×(Int)×Unit)×(((UInt64)×(UInt64)×(UInt64)×(UInt64)×(UInt64)×(UInt64)×(UInt64)×(UInt64)×(Bool)×Unit)×(List ((aa×(aa×Bool))))×Unit)
def ma:Shape:=⟨74,[(0,.val false .int),(2,.val false .int),(6,.ptr 0 0 0),(7,.ptr 1 0 0),(10,.ptr 2 0 0),(11,.val false .int),(23,.val false (.list (.prod .elem (.prod .elem (.prod .elem .bool))))),(24,.val false .int),(25,.val false .int),(29,.val false .int)],[(0,.cells [.val false .u64,.val false .u64,.val false .u64,.val false .u64,.val false .u64,.val false .u64,.val false .u64,.val false .u64,.val false .bool]),(1,.row (.prod .elem (.prod .elem .bool))),(2,.cells [.val false .u64,.val false .u64,.val false .u64,.val false .u64,.val false .u64,.val false .u64,.val false .u64,.val false .u64,.val false .u64,.val false .u64,.val false .u64,.val false .u64,.val false .bool])],0,true⟩
abbrev aT:Type:=((Int)×(Int)×(Unit)×(Unit)×(Unit)×(Int)×(List ((aa×(aa×(aa×Bool)))))×(Int)×(Int)×(Int)×Unit)×(((UInt64)×(UInt64)×(UInt64)×(UInt64)×(UInt64)×(UInt64)×(UInt64)×(UInt64)×(Bool)×Unit)×(List ((aa×(aa×Bool))))×((UInt64)×(UInt64)×(UInt64)×(UInt64)×(UInt64)×(UInt64)×(UInt64)×(UInt64)×(UInt64)×(UInt64)×(UInt64)×(UInt64)×(Bool)×Unit)×Unit)
def kL:Shape:=⟨74,[(0,.val false .int),(2,.val false .int),(6,.ptr 0 0 0),(7,.ptr 1 0 0),(10,.ptr 2 0 0),(11,.val false .int),(23,.val false (.list (.prod .elem (.prod .elem (.prod .elem .bool))))),(24,.val false .int),(25,.val false .int)],[(0,.cells [.val false .u64,.val false .u64,.val false .u64,.val false .u64,.val false .u64,.val false .u64,.val false .u64,.val false .u64,.val false .bool]),(1,.row (.prod .elem (.prod .elem .bool))),(2,.cells [.val false .u64,.val false .u64,.val false .u64,.val false .u64,.val false .u64,.val false .u64,.val false .u64,.val false .u64,.val false .u64,.val false .u64,.val false .u64,.val false .u64,.val false .bool])],0,true⟩
abbrev cQ:Type:=((Int)×(Int)×(Unit)×(Unit)×(Unit)×(Int)×(List ((aa×(aa×(aa×Bool)))))×(Int)×(Int)×Unit)×(((UInt64)×(UInt64)×(UInt64)×(UInt64)×(UInt64)×(UInt64)×(UInt64)×(UInt64)×(Bool)×Unit)×(List ((aa×(aa×Bool))))×((UInt64)×(UInt64)×(UInt64)×(UInt64)×(UInt64)×(UInt64)×(UInt64)×(UInt64)×(UInt64)×(UInt64)×(UInt64)×(UInt64)×(Bool)×Unit)×Unit)
def KT:SE->Option Shape:=fC [(4,kL)] none
def adK (a0:Int) (a2:Int) (a11:Int) (a23:List ((aa×(aa×(aa×Bool))))) (a24:Int) (a25:Int) (a29:Int) (c0_0:UInt64) (c0_1:UInt64) (c0_2:UInt64) (c0_3:UInt64) (c0_4:UInt64) (c0_5:UInt64) (c0_6:UInt64) (c0_7:UInt64) (c0_8:Bool) (c1:List ((aa×(aa×Bool)))) (c2_0:UInt64) (c2_1:UInt64) (c2_2:UInt64) (c2_3:UInt64) (c2_4:UInt64) (c2_5:UInt64) (c2_6:UInt64) (c2_7:UInt64) (c2_8:UInt64) (c2_9:UInt64) (c2_10:UInt64) (c2_11:UInt64) (c2_12:Bool):OT (Sum aT aE):=
 let z0:Bool:=inR (a29+(1:Int))
 (.br (decide (a29<(4:Int)))
 (gd [inR (a2+a29)] (.br (xJ {w0:=c2_0,w1:=c2_1,w2:=c2_2,w3:=c2_3} (a2+a29))
  (gd [decide ((0:Int)<=a29),z0] (.ok (.inl ((a0,(a2,((),((),((),(ior a11 (VW (1:Int) a29),(a23,(a24,(a25,(a29+(1:Int),())))))))))),((c0_0,(c0_1,(c0_2,(c0_3,(c0_4,(c0_5,(c0_6,(c0_7,(c0_8,()))))))))),(c1,((c2_0,(c2_1,(c2_2,(c2_3,(c2_4,(c2_5,(c2_6,(c2_7,(c2_8,(c2_9,(c2_10,(c2_11,(c2_12,()))))))))))))),())))))))
  (gd [z0] (.ok (.inl ((a0,(a2,((),((),((),(a11,(a23,(a24,(a25,(a29+(1:Int),())))))))))),((c0_0,(c0_1,(c0_2,(c0_3,(c0_4,(c0_5,(c0_6,(c0_7,(c0_8,()))))))))),(c1,((c2_0,(c2_1,(c2_2,(c2_3,(c2_4,(c2_5,(c2_6,(c2_7,(c2_8,(c2_9,(c2_10,(c2_11,(c2_12,()))))))))))))),())))))))))
 (.ok (.inr ⟨(.exit 4,kL),((a0,(a2,((),((),((),(a11,(a23,(a24,(a25,()))))))))),((c0_0,(c0_1,(c0_2,(c0_3,(c0_4,(c0_5,(c0_6,(c0_7,(c0_8,()))))))))),(c1,((c2_0,(c2_1,(c2_2,(c2_3,(c2_4,(c2_5,(c2_6,(c2_7,(c2_8,(c2_9,(c2_10,(c2_11,(c2_12,()))))))))))))),()))))⟩)))
def mf (s:aT):OT (Sum aT aE):=adK (s.1.1) (s.1.2.1) (s.1.2.2.2.2.2.1) (s.1.2.2.2.2.2.2.1) (s.1.2.2.2.2.2.2.2.1) (s.1.2.2.2.2.2.2.2.2.1) (s.1.2.2.2.2.2.2.2.2.2.1) (s.2.1.1) (s.2.1.2.1) (s.2.1.2.2.1) (s.2.1.2.2.2.1) (s.2.1.2.2.2.2.1) (s.2.1.2.2.2.2.2.1) (s.2.1.2.2.2.2.2.2.1) (s.2.1.2.2.2.2.2.2.2.1) (s.2.1.2.2.2.2.2.2.2.2.1) (s.2.2.1) (s.2.2.2.1.1) (s.2.2.2.1.2.1) (s.2.2.2.1.2.2.1) (s.2.2.2.1.2.2.2.1) (s.2.2.2.1.2.2.2.2.1) (s.2.2.2.1.2.2.2.2.2.1) (s.2.2.2.1.2.2.2.2.2.2.1) (s.2.2.2.1.2.2.2.2.2.2.2.1) (s.2.2.2.1.2.2.2.2.2.2.2.2.1) (s.2.2.2.1.2.2.2.2.2.2.2.2.2.1) (s.2.2.2.1.2.2.2.2.2.2.2.2.2.2.1) (s.2.2.2.1.2.2.2.2.2.2.2.2.2.2.2.1) (s.2.2.2.1.2.2.2.2.2.2.2.2.2.2.2.2.1)
theorem adB (s:aT) (Q:Sum aT aE->Prop):wps te C0 av 1000 (aU (aU (aj Tryz.f162) 2) 4) (ma.inj s) (bY ma KT (Q:Sum ma.T aE->Prop))=(mf s).wpR Q:=by kernel_rfl
def qS (g4_4:aT->cQ) (s:aT):OT aE:=(.ok ⟨(.exit 4,kL),g4_4 s⟩)
def kM:Shape:=⟨74,[(0,.val false .int),(6,.ptr 0 0 0),(7,.ptr 1 0 0)],[(0,.cells [.val false .u64,.val false .u64,.val false .u64,.val false .u64,.val false .u64,.val false .u64,.val false .u64,.val false .u64,.val false .bool]),(1,.row (.prod .elem (.prod .elem .bool)))],0,true⟩
abbrev fx:Type:=((Int)×(Unit)×(Unit)×Unit)×(((UInt64)×(UInt64)×(UInt64)×(UInt64)×(UInt64)×(UInt64)×(UInt64)×(UInt64)×(Bool)×Unit)×(List ((aa×(aa×Bool))))×Unit)
def KU:SE->Option Shape:=fC [(2,kM)] none
def KZ (ok4:aT->Bool) (g4_4:aT->cQ) (a0:Int) (a2:Int) (a23:List ((aa×(aa×(aa×Bool))))) (a24:Int) (a25:Int) (c0_0:UInt64) (c0_1:UInt64) (c0_2:UInt64) (c0_3:UInt64) (c0_4:UInt64) (c0_5:UInt64) (c0_6:UInt64) (c0_7:UInt64) (c0_8:Bool) (c1:List ((aa×(aa×Bool)))):OT (Sum bA aE):=
 let z0:aa:= {w0:=0,w1:=0,w2:=0,w3:=0}
 let z1:aa×aa×Bool:=(z0,z0,false)
 let z2:aa×aa×aa×Bool:=List.getD a23 (Int.toNat a25) (z0,z1)
 let z3:=z2.fst
 let z4:=z2.snd
 let z5:=z4.fst
 let z6:=z4.snd
 let z7:=z6.fst
 let z8:(Int×Int×PUnit×PUnit×PUnit×Int×List (aa×aa×aa×Bool)×Int×Int×Int×PUnit)×(UInt64×UInt64×UInt64×UInt64×UInt64×UInt64×UInt64×UInt64×Bool×PUnit)×List (aa×aa×Bool)×(UInt64×UInt64×UInt64×UInt64×UInt64×UInt64×UInt64×UInt64×UInt64×UInt64×UInt64×UInt64×Bool×PUnit)×PUnit:=((a0,a2,(),(),(),(0:Int),a23,a24,a25,(0:Int),()),(c0_0,c0_1,c0_2,c0_3,c0_4,c0_5,c0_6,c0_7,c0_8,()),c1,(z3.w0,z3.w1,z3.w2,z3.w3,z5.w0,z5.w1,z5.w2,z5.w3,z7.w0,z7.w1,z7.w2,z7.w3,z6.snd,()),())
 let z9:(Int×Int×PUnit×PUnit×PUnit×Int×List (aa×aa×aa×Bool)×Int×Int×PUnit)×(UInt64×UInt64×UInt64×UInt64×UInt64×UInt64×UInt64×UInt64×Bool×PUnit)×List (aa×aa×Bool)×(UInt64×UInt64×UInt64×UInt64×UInt64×UInt64×UInt64×UInt64×UInt64×UInt64×UInt64×UInt64×Bool×PUnit)×PUnit:=g4_4 z8
 let z10:=z9.fst
 let z11:=z10.snd
 let z12:=z11.snd.snd.snd.snd
 let z13:=z12.fst
 let z14:Bool:=inR (z13-(1:Int))
 let z15:Bool:=inB (z13-(1:Int)) 15
 let z16:=z9.snd
 let z17:=z16.snd
 let z18:=z17.fst
 let z19:Bool:=decide (Int.toNat (z13-(1:Int))+0<List.length z18)
 let z20:=z12.snd
 let z21:=z20.snd
 let z22:Bool:=inR (z21.snd.fst+(1:Int))
 let z23:=z10.fst
 let z24:=z11.fst
 let z25:=z20.fst
 let z26:=z21.fst
 let z27:=z16.fst
 let z28:=z27.fst
 let z29:=z27.snd
 let z30:=z29.fst
 let z31:=z29.snd
 let z32:=z31.fst
 let z33:=z31.snd
 let z34:=z33.fst
 let z35:=z33.snd
 let z36:=z35.fst
 let z37:=z35.snd
 let z38:=z37.fst
 let z39:=z37.snd
 let z40:=z39.fst
 let z41:=z39.snd
 let z42:=z41.fst
 let z43:=z41.snd.fst
 let z44:=z17.snd.fst.snd.snd.snd.snd
 let z45:=z44.snd
 let z46:=z45.snd
 let z47:=z46.snd
 let z48:=z47.snd
 let z49:=z48.snd
 let z50:=z49.snd
 let z51:=z50.snd
 (.br (decide (a25<a24))
 (gd [inB a25 (List.length a23),ok4 z8] (.br (decide ((0:Int)<z13))
  (gd [z14,z14,z15,z19,z15,z19,z22] (.ok (.inl ((z23,(z24,((),((),(z25,(z26,(z21.snd.fst+(1:Int),()))))))),((z28,(z30,(z32,(z34,(z36,(z38,(z40,(z42,(z43,()))))))))),(List.set z18 (Int.toNat (z13-(1:Int))+0) (kT z23 (List.getD z18 (Int.toNat (z13-(1:Int))+0) z1) ({w0:=z44.fst,w1:=z45.fst,w2:=z46.fst,w3:=z47.fst},{w0:=z48.fst,w1:=z49.fst,w2:=z50.fst,w3:=z51.fst},z51.snd.fst)),()))))))
  (gd [z22] (.ok (.inl ((z23,(z24,((),((),(z25,(z26,(z21.snd.fst+(1:Int),()))))))),((z28,(z30,(z32,(z34,(z36,(z38,(z40,(z42,(z43,()))))))))),(z18,()))))))))
 (.ok (.inr ⟨(.exit 2,kM),((a0,((),((),()))),((c0_0,(c0_1,(c0_2,(c0_3,(c0_4,(c0_5,(c0_6,(c0_7,(c0_8,()))))))))),(c1,())))⟩)))
def gV (ok4:aT->Bool) (g4_4:aT->cQ) (s:bA):OT (Sum bA aE):=KZ ok4 g4_4 (s.1.1) (s.1.2.1) (s.1.2.2.2.2.1) (s.1.2.2.2.2.2.1) (s.1.2.2.2.2.2.2.1) (s.2.1.1) (s.2.1.2.1) (s.2.1.2.2.1) (s.2.1.2.2.2.1) (s.2.1.2.2.2.2.1) (s.2.1.2.2.2.2.2.1) (s.2.1.2.2.2.2.2.2.1) (s.2.1.2.2.2.2.2.2.2.1) (s.2.1.2.2.2.2.2.2.2.2.1) (s.2.2.1)
theorem adC (ok4:aT->Bool) (g4_4:aT->cQ) (s:bA) (Q:Sum bA aE->Prop):wps te C0 (aO 4 (cl ma 4 ok4 (qS g4_4)) av) 1000 (aU (aj Tryz.f162) 2) (mc.inj s) (bY mc KU (Q:Sum mc.T aE->Prop))=(gV ok4 g4_4 s).wpR Q:=by kernel_rfl
def qT (g2_2:bA->fx) (s:bA):OT aE:=(.ok ⟨(.exit 2,kM),g2_2 s⟩)
def l9:Shape:=⟨74,[(0,.val false .int),(6,.ptr 0 0 0),(7,.ptr 1 0 0),(13,.ptr 2 0 0),(14,.ptr 3 0 0),(15,.val false .int)],[(0,.cells [.val false .u64,.val false .u64,.val false .u64,.val false .u64,.val false .u64,.val false .u64,.val false .u64,.val false .u64,.val false .bool]),(1,.row (.prod .elem (.prod .elem .bool))),(2,.cells [.val false .u64,.val false .u64,.val false .u64,.val false .u64,.val false .u64,.val false .u64,.val false .u64,.val false .u64,.val false .bool]),(3,.cells [.val false .u64,.val false .u64,.val false .u64,.val false .u64,.val false .u64,.val false .u64,.val false .u64,.val false .u64,.val false .bool])],0,true⟩
abbrev bz:Type:=((Int)×(Unit)×(Unit)×(Unit)×(Unit)×(Int)×Unit)×(((UInt64)×(UInt64)×(UInt64)×(UInt64)×(UInt64)×(UInt64)×(UInt64)×(UInt64)×(Bool)×Unit)×(List ((aa×(aa×Bool))))×((UInt64)×(UInt64)×(UInt64)×(UInt64)×(UInt64)×(UInt64)×(UInt64)×(UInt64)×(Bool)×Unit)×((UInt64)×(UInt64)×(UInt64)×(UInt64)×(UInt64)×(UInt64)×(UInt64)×(UInt64)×(Bool)×Unit)×Unit)
def kK:Shape:=⟨74,[(6,.ptr 0 0 0),(14,.ptr 1 0 0)],[(0,.cells [.val false .u64,.val false .u64,.val false .u64,.val false .u64,.val false .u64,.val false .u64,.val false .u64,.val false .u64,.val false .bool]),(1,.cells [.val false .u64,.val false .u64,.val false .u64,.val false .u64,.val false .u64,.val false .u64,.val false .u64,.val false .u64,.val false .bool])],0,true⟩
abbrev fw:Type:=((Unit)×(Unit)×Unit)×(((UInt64)×(UInt64)×(UInt64)×(UInt64)×(UInt64)×(UInt64)×(UInt64)×(UInt64)×(Bool)×Unit)×((UInt64)×(UInt64)×(UInt64)×(UInt64)×(UInt64)×(UInt64)×(UInt64)×(UInt64)×(Bool)×Unit)×Unit)
def KS:SE->Option Shape:=fC [(6,kK)] none
def adJ (a0:Int) (a15:Int) (c0_0:UInt64) (c0_1:UInt64) (c0_2:UInt64) (c0_3:UInt64) (c0_4:UInt64) (c0_5:UInt64) (c0_6:UInt64) (c0_7:UInt64) (c0_8:Bool) (c1:List ((aa×(aa×Bool)))) (c2_0:UInt64) (c2_1:UInt64) (c2_2:UInt64) (c2_3:UInt64) (c2_4:UInt64) (c2_5:UInt64) (c2_6:UInt64) (c2_7:UInt64) (c2_8:Bool) (c3_0:UInt64) (c3_1:UInt64) (c3_2:UInt64) (c3_3:UInt64) (c3_4:UInt64) (c3_5:UInt64) (c3_6:UInt64) (c3_7:UInt64) (c3_8:Bool):OT (Sum bz aE):=
 let z0:aa:= {w0:=0,w1:=0,w2:=0,w3:=0}
 let z1:aa×aa×Bool:=kT a0 ({w0:=c2_0,w1:=c2_1,w2:=c2_2,w3:=c2_3},{w0:=c2_4,w1:=c2_5,w2:=c2_6,w3:=c2_7},c2_8) (List.getD c1 (Int.toNat a15+0) (z0,z0,false))
 let z2:=z1.fst
 let z3:=z1.snd
 let z4:=z3.fst
 let z5:aa×aa×Bool:=kT a0 ({w0:=c3_0,w1:=c3_1,w2:=c3_2,w3:=c3_3},{w0:=c3_4,w1:=c3_5,w2:=c3_6,w3:=c3_7},c3_8) z1
 let z6:=z5.fst
 let z7:=z5.snd
 let z8:=z7.fst
 (.br (decide ((0:Int)<=a15))
 (gd [inB a15 15,decide (Int.toNat a15+0<List.length c1),inR (a15-(1:Int))] (.ok (.inl ((a0,((),((),((),((),(a15-(1:Int),())))))),((c0_0,(c0_1,(c0_2,(c0_3,(c0_4,(c0_5,(c0_6,(c0_7,(c0_8,()))))))))),(c1,((z2.w0,(z2.w1,(z2.w2,(z2.w3,(z4.w0,(z4.w1,(z4.w2,(z4.w3,(z3.snd,()))))))))),((z6.w0,(z6.w1,(z6.w2,(z6.w3,(z8.w0,(z8.w1,(z8.w2,(z8.w3,(z7.snd,()))))))))),()))))))))
 (.ok (.inr ⟨(.exit 6,kK),(((),((),())),((c0_0,(c0_1,(c0_2,(c0_3,(c0_4,(c0_5,(c0_6,(c0_7,(c0_8,()))))))))),((c3_0,(c3_1,(c3_2,(c3_3,(c3_4,(c3_5,(c3_6,(c3_7,(c3_8,()))))))))),())))⟩)))
def me (s:bz):OT (Sum bz aE):=adJ (s.1.1) (s.1.2.2.2.2.2.1) (s.2.1.1) (s.2.1.2.1) (s.2.1.2.2.1) (s.2.1.2.2.2.1) (s.2.1.2.2.2.2.1) (s.2.1.2.2.2.2.2.1) (s.2.1.2.2.2.2.2.2.1) (s.2.1.2.2.2.2.2.2.2.1) (s.2.1.2.2.2.2.2.2.2.2.1) (s.2.2.1) (s.2.2.2.1.1) (s.2.2.2.1.2.1) (s.2.2.2.1.2.2.1) (s.2.2.2.1.2.2.2.1) (s.2.2.2.1.2.2.2.2.1) (s.2.2.2.1.2.2.2.2.2.1) (s.2.2.2.1.2.2.2.2.2.2.1) (s.2.2.2.1.2.2.2.2.2.2.2.1) (s.2.2.2.1.2.2.2.2.2.2.2.2.1) (s.2.2.2.2.1.1) (s.2.2.2.2.1.2.1) (s.2.2.2.2.1.2.2.1) (s.2.2.2.2.1.2.2.2.1) (s.2.2.2.2.1.2.2.2.2.1) (s.2.2.2.2.1.2.2.2.2.2.1) (s.2.2.2.2.1.2.2.2.2.2.2.1) (s.2.2.2.2.1.2.2.2.2.2.2.2.1) (s.2.2.2.2.1.2.2.2.2.2.2.2.2.1)
theorem adA (s:bz) (Q:Sum bz aE->Prop):wps te C0 av 1000 (aU (aj Tryz.f162) 6) (l9.inj s) (bY l9 KS (Q:Sum l9.T aE->Prop))=(me s).wpR Q:=by kernel_rfl
def qR (g6_6:bz->fw) (s:bz):OT aE:=(.ok ⟨(.exit 6,kK),g6_6 s⟩)
def qP:az:=⟨[.val true (.prod .elem (.prod .elem .bool))],[],false⟩
def GB:SV->Option az:=λ_=>some qP
def o7 (ok0:bB->Bool) (g0_0:bB->fy) (ok4:aT->Bool) (g4_4:aT->cQ) (ok2:bA->Bool) (g2_2:bA->fx) (ok6:bz->Bool) (g6_6:bz->fw) (a0:Int) (a1:List ((aa×(aa×(aa×Bool))))) (a2:Int):OT eL.Y:=
 let z0:aa:= {w0:=0,w1:=0,w2:=0,w3:=0}
 let z1:aa×aa×Bool:=(z0,z0,false)
 let z2:(Int×List (aa×aa×aa×Bool)×Int×PUnit×PUnit×Int×PUnit)×(UInt64×UInt64×UInt64×UInt64×UInt64×UInt64×UInt64×UInt64×Bool×PUnit)×List (aa×aa×Bool)×PUnit:=((a0,a1,a2,(),(),(0:Int),()),((0:UInt64),(0:UInt64),(0:UInt64),(0:UInt64),(0:UInt64),(0:UInt64),(0:UInt64),(0:UInt64),false,()),[z1,z1,z1,z1,z1,z1,z1,z1,z1,z1,z1,z1,z1,z1,z1],())
 let z3:(Int×List (aa×aa×aa×Bool)×Int×PUnit×PUnit×PUnit)×(UInt64×UInt64×UInt64×UInt64×UInt64×UInt64×UInt64×UInt64×Bool×PUnit)×List (aa×aa×Bool)×PUnit:=g0_0 z2
 let z4:=z3.fst
 let z5:=z4.snd
 let z6:=z5.fst
 let z7:=z3.snd
 let z8:=z7.fst
 let z9:=z8.snd
 let z10:=z9.snd
 let z11:=z10.snd
 let z12:=z11.snd
 let z13:=z12.snd
 let z14:=z13.snd
 let z15:=z14.snd
 let z16:(Int×Int×PUnit×PUnit×List (aa×aa×aa×Bool)×Int×Int×PUnit)×(UInt64×UInt64×UInt64×UInt64×UInt64×UInt64×UInt64×UInt64×Bool×PUnit)×List (aa×aa×Bool)×PUnit:=((z4.fst,z5.snd.fst,(),(),z6,(↑(List.length z6):Int),(0:Int),()),(z8.fst,z9.fst,z10.fst,z11.fst,z12.fst,z13.fst,z14.fst,z15.fst,z15.snd.fst,()),z7.snd.fst,())
 let z17:(Int×PUnit×PUnit×PUnit)×(UInt64×UInt64×UInt64×UInt64×UInt64×UInt64×UInt64×UInt64×Bool×PUnit)×List (aa×aa×Bool)×PUnit:=g2_2 z16
 let z18:=z17.snd
 let z19:=z18.fst
 let z20:=z19.snd
 let z21:=z20.snd
 let z22:=z21.snd
 let z23:=z22.snd
 let z24:=z23.snd
 let z25:=z24.snd
 let z26:=z25.snd
 let z27:UInt64×UInt64×UInt64×UInt64×UInt64×UInt64×UInt64×UInt64×Bool×PUnit:=((0:UInt64),(0:UInt64),(0:UInt64),(0:UInt64),(0:UInt64),(0:UInt64),(0:UInt64),(0:UInt64),true,())
 let z28:(Int×PUnit×PUnit×PUnit×PUnit×Int×PUnit)×(UInt64×UInt64×UInt64×UInt64×UInt64×UInt64×UInt64×UInt64×Bool×PUnit)×List (aa×aa×Bool)×(UInt64×UInt64×UInt64×UInt64×UInt64×UInt64×UInt64×UInt64×Bool×PUnit)×(UInt64×UInt64×UInt64×UInt64×UInt64×UInt64×UInt64×UInt64×Bool×PUnit)×PUnit:=((z17.fst.fst,(),(),(),(),(14:Int),()),(z19.fst,z20.fst,z21.fst,z22.fst,z23.fst,z24.fst,z25.fst,z26.fst,z26.snd.fst,()),z18.snd.fst,z27,z27,())
 let z29:=(g6_6 z28).snd.snd.fst
 let z30:=z29.snd
 let z31:=z30.snd
 let z32:=z31.snd
 let z33:=z32.snd
 let z34:=z33.snd
 let z35:=z34.snd
 let z36:=z35.snd
 (gd [ok0 z2,ok2 z16,ok6 z28] (.ok ⟨qP,((({w0:=z29.fst,w1:=z30.fst,w2:=z31.fst,w3:=z32.fst},{w0:=z33.fst,w1:=z34.fst,w2:=z35.fst,w3:=z36.fst},z36.snd.fst),()),())⟩))
theorem am8 (ok0:bB->Bool) (g0_0:bB->fy) (ok4:aT->Bool) (g4_4:aT->cQ) (ok2:bA->Bool) (g2_2:bA->fx) (ok6:bz->Bool) (g6_6:bz->fw) (x:o8) (Q:eL.Y->Prop):wpf te C0 (aO 6 (cl l9 6 ok6 (qR g6_6)) (aO 2 (cl mc 2 ok2 (qT g2_2)) (aO 0 (cl md 0 ok0 (qU g0_0)) av))) 1000 Tryz.f162 (eL.inp.inj x).tm (eL.inp.inj x).hp (fnK eL GB Q) (λ_ _=>False)=(o7 ok0 g0_0 ok4 g4_4 ok2 g2_2 ok6 g6_6 (x.1.1) (x.1.2.1) (x.1.2.2.1)).wpR Q:=by kernel_rfl
theorem T8 (ok0:bB->Bool) (g0_0:bB->fy) (ok4:aT->Bool) (g4_4:aT->cQ) (ok2:bA->Bool) (g2_2:bA->fx) (ok6:bz->Bool) (g6_6:bz->fw) (h0:∀ s:bB,ok0 s=true->∃ m e,al (mg) m s=some e/\(qU g0_0 s).run=some e) (h4:∀ s:aT,ok4 s=true->∃ m e,al (mf) m s=some e/\(qS g4_4 s).run=some e) (h2:∀ s:bA,ok2 s=true->∃ m e,al (gV ok4 g4_4) m s=some e/\(qT g2_2 s).run=some e) (h6:∀ s:bz,ok6 s=true->∃ m e,al (me) m s=some e/\(qR g6_6 s).run=some e) (pre:o8->Bool) (F:o8->OT eL.Y) (hF:∀ (x:o8) oy,pre x=true->(F x).run=some oy->(o7 ok0 g0_0 ok4 g4_4 ok2 g2_2 ok6 g6_6 (x.1.1) (x.1.2.1) (x.1.2.2.1)).run=some oy):ac Tryz.prog 162 (eL.aI pre F):=
 aD ar mL pV (f:=162) (fn:=Tryz.f162) (c:=aj Tryz.f162) (by kernel_rfl) (by kernel_rfl) (by kernel_rfl) (S:=eL) (k:=0) (by kernel_rfl) (λR hR=>(aB (c:=(aj Tryz.f162)) (by kernel_rfl) (id:=6) (by kernel_rfl) (aR ar mL pV (sh:=l9) hR (xs:=KS) (aC (by kernel_rfl) (by kernel_rfl) hR) aL af (n:=1000) (T:=me) (λs Q=>adA s Q) (ok:=ok6) (f:=qR g6_6) h6) (aB (c:=(aj Tryz.f162)) (by kernel_rfl) (id:=2) (by kernel_rfl) (aR ar mL pV (sh:=mc) hR (xs:=KU) (aC (by kernel_rfl) (by kernel_rfl) hR) aL (aB (c:=(aU (aj Tryz.f162) 2)) (by kernel_rfl) (id:=4) (by kernel_rfl) (aR ar mL pV (sh:=ma) hR (xs:=KT) (aC (by kernel_rfl) (by kernel_rfl) hR) aL af (n:=1000) (T:=mf) (λs Q=>adB s Q) (ok:=ok4) (f:=qS g4_4) h4) af) (n:=1000) (T:=gV ok4 g4_4) (λs Q=>adC ok4 g4_4 s Q) (ok:=ok2) (f:=qT g2_2) h2) (aB (c:=(aj Tryz.f162)) (by kernel_rfl) (id:=0) (by kernel_rfl) (aR ar mL pV (sh:=md) hR (xs:=KV) (aC (by kernel_rfl) (by kernel_rfl) hR) aL af (n:=1000) (T:=mg) (λs Q=>adD s Q) (ok:=ok0) (f:=qU g0_0) h0) af)))) (n:=1000) (sel:=GB) (λv o h=>by cases h;rfl) (pre:=pre) (F:=F) (T:=λx=>o7 ok0 g0_0 ok4 g4_4 ok2 g2_2 ok6 g6_6 (x.1.1) (x.1.2.1) (x.1.2.2.1)) (λx Q=>am8 ok0 g0_0 ok4 g4_4 ok2 g2_2 ok6 g6_6 x Q) hF
abbrev C13:Type:=UInt64×UInt64×UInt64×UInt64×UInt64×UInt64×UInt64×UInt64×UInt64×UInt64×UInt64×UInt64×Bool×Unit
def ajS (t:Tm):C13:=(t.1.w0,t.1.w1,t.1.w2,t.1.w3,t.2.1.w0,t.2.1.w1,t.2.1.w2,t.2.1.w3,t.2.2.1.w0,t.2.2.1.w1,t.2.2.1.w2,t.2.2.1.w3,t.2.2.2,())
theorem ah4 {α:Type} (x:α) (l:List α):∀ n,n<=l.length->upto (λk (o:List α)=>o.set k x) l n=List.replicate n x++l.drop n
 |0,_=>rfl
 |n+1,h=>by
  show (upto (λk (o:List α)=>o.set k x) l n).set n x=_
  rw [ah4 x l n (by omega),List.set_append_right _ _ (by rw [List.length_replicate];omega),List.length_replicate,Nat.sub_self,List.drop_eq_getElem_cons (by omega),List.set_cons_zero,List.replicate_succ',List.append_assoc]
  rfl
def GF (s:bB):Bool:=decide (s.1.2.2.2.2.2.1=0/\s.2.2.1.length=15)
def KY (s:bB):fy:=((s.1.1,s.1.2.1,s.1.2.2.1,(),(),()),(s.2.1,List.replicate 15 cF,()))
theorem adI:∀ s:bB,GF s=true->∃ m e,al mg m s=some e/\(qU KY s).run=some e:=by
 rintro ⟨⟨c,l,at',⟨⟩,⟨⟩,i,⟨⟩⟩,⟨c0,S,⟨⟩⟩⟩ h
 have h':=of_decide_eq_true h
 dsimp only at h'
 obtain ⟨rfl,hS⟩:=h'
 have:=(aP (T:=mg) (λi o=>(((c,l,at',(),(),(i:Int),()),(c0,o,())):bB)) (λk (o:List Pt)=>o.set k cF)
  (λo=>(⟨(.exit 0,kN),((c,l,at',(),(),()),(c0,o,()))⟩:aE)) 15 S (λ_ o=>o.length=15) hS (λk o hk ho=>⟨?_,(List.length_set ..).trans ho⟩) (λo ho=> ?_)).1
 ·obtain ⟨m,hm⟩:=this
  rw [ah4 cF S 15 (by omega),List.drop_eq_nil_of_le (by omega),List.append_nil] at hm
  exact ⟨m,_,hm,rfl⟩
 ·refine (OT.ao (decide_eq_true (by dsimp only;omega))).trans ((ah ?_).trans ?_)
  ·simp only [ho,Int.toNat_natCast,Nat.add_zero,List.all_cons,List.all_nil,Bool.and_true,Bool.and_eq_true]
   exact ⟨aN (by omega),decide_eq_true (by omega),aH (by omega)⟩
  ·simp only [OT.cP,Int.toNat_natCast,Nat.add_zero]
   rfl
 ·exact OT.aq (decide_eq_false (by dsimp only;omega))
def tX (k:aa) (a:Int) (n:Nat) (d:Int):Int:=cond (xJ k (a+(n:Int))) (ior d (VW 1 (n:Int))) d
def aCe (k:aa) (a:Int):Int:=upto (tX k a) 0 4
def aGZ (b:Bool):Int:=cond b 1 0
theorem aGb (k:aa) (a:Int):aCe k a=aGZ (xJ k a)+2*aGZ (xJ k (a+1))+4*aGZ (xJ k (a+2))+8*aGZ (xJ k (a+3)):=by
 have e0:a+((0:Nat):Int)=a:=by omega
 show tX k a 3 (tX k a 2 (tX k a 1 (tX k a 0 0)))=_
 unfold tX
 rw [e0,show a+((1:Nat):Int)=a+1 by omega,show a+((2:Nat):Int)=a+2 by omega,show a+((3:Nat):Int)=a+3 by omega]
 generalize xJ k a=b0
 generalize xJ k (a+1)=b1
 generalize xJ k (a+2)=b2
 generalize xJ k (a+3)=b3
 cases b0<;>cases b1<;>cases b2<;>cases b3<;>decide+kernel
theorem aGa (k:aa) (a:Int):0<=aCe k a/\aCe k a<=15:=by
 rw [aGb]
 have h:∀ b,0<=aGZ b/\aGZ b<=1:=λb=>by cases b<;>decide
 have h0:=h (xJ k a)
 have h1:=h (xJ k (a+1))
 have h2:=h (xJ k (a+2))
 have h3:=h (xJ k (a+3))
 omega
def aeT (c at' d:Int) (l:List Tm) (n i:Int) (b:Int) (c0:C9) (S:List Pt) (t:C13):aT:=((c,at',(),(),(),d,l,n,i,b,()),(c0,S,t,()))
def keyOf (t:C13):aa:=⟨t.1,t.2.1,t.2.2.1,t.2.2.2.1⟩
def nq (s:aT):Bool:=decide (s.1.2.2.2.2.2.1=0/\s.1.2.2.2.2.2.2.2.2.2.1=0/\0<=s.1.2.1/\s.1.2.1<=1000)
def qQ (s:aT):cQ:=((s.1.1,s.1.2.1,(),(),(),aCe (keyOf s.2.2.2.1) s.1.2.1,s.1.2.2.2.2.2.2.1,s.1.2.2.2.2.2.2.2.1,s.1.2.2.2.2.2.2.2.2.1,()),s.2)
theorem adG:∀ s:aT,nq s=true->∃ m e,al mf m s=some e/\(qS qQ s).run=some e:=by
 rintro ⟨⟨c,at',⟨⟩,⟨⟩,⟨⟩,d,l,n,i,b,⟨⟩⟩,⟨c0,S,t,⟨⟩⟩⟩ h
 have h':=of_decide_eq_true h
 dsimp only at h'
 obtain ⟨rfl,rfl,ha0,ha1⟩:=h'
 have:=(aP (T:=mf) (λb d=>(((c,at',(),(),(),d,l,n,i,(b:Int),()),(c0,S,t,())):aT)) (tX (keyOf t) at')
  (λd=>(⟨(.exit 4,kL),((c,at',(),(),(),d,l,n,i,()),(c0,S,t,()))⟩:aE)) 4 0 (λ_ _=>True) trivial (λk d hk _=>⟨?_,trivial⟩) (λd _=> ?_)).1
 ·obtain ⟨m,hm⟩:=this
  exact ⟨m,_,hm,rfl⟩
 ·have hr:inR ((k:Int)+1)=true:=aH (by omega)
  have hgr:∀ z:OT (Sum aT aE),(gd [inR ((k:Int)+1)] z).run=z.run:=λz=>ah (by rw [hr];rfl)
  refine (OT.ao (decide_eq_true (by dsimp only;omega))).trans ((ah ?_).trans ?_)
  ·simp only [List.all_cons,List.all_nil,Bool.and_true]
   exact aH (by omega)
  ·unfold tX
   rcases (Bool.eq_false_or_eq_true (xJ (keyOf t) (at'+(k:Int)))).symm with hb|hb
   ·rw [hb]
    exact (OT.aq hb).trans ((hgr _).trans rfl)
   ·rw [hb]
    refine (OT.ao hb).trans ((ah ?_).trans rfl)
    simp only [List.all_cons,List.all_nil,Bool.and_true,Bool.and_eq_true]
    exact ⟨decide_eq_true (by omega),hr⟩
 ·exact OT.aq (decide_eq_false (by dsimp only;omega))
def B4 (c a:Int) (l:List Tm) (k:Nat) (S:List Pt):List Pt:=cond (decide (0<aCe (l.getD k yW).1 a))
 (S.set (aCe (l.getD k yW).1 a-1).toNat (kT c (S.getD (aCe (l.getD k yW).1 a-1).toNat dB) (l.getD k yW).2)) S
theorem ul (c a:Int) (l:List Tm) (k:Nat) (S:List Pt):(B4 c a l k S).length=S.length:=by
 unfold B4
 cases decide (0<aCe (l.getD k yW).1 a)
 ·rfl
 ·exact List.length_set ..
def aD8 (c a:Int) (l:List Tm) (S:List Pt):List Pt:=upto (B4 c a l) S l.length
def GD (s:bA):Bool:=decide (s.1.2.2.2.2.2.1=(s.1.2.2.2.2.1.length:Int)/\s.1.2.2.2.2.2.2.1=0/\s.2.2.1.length=15/\(0<=s.1.2.1/\s.1.2.1<=1000)/\s.1.2.2.2.2.1.length<=140737488355328)
def KX (s:bA):fx:=((s.1.1,(),(),()),(s.2.1,aD8 s.1.1 s.1.2.1 s.1.2.2.2.2.1 s.2.2.1,()))
theorem aGu {ok4:aT->Bool} {g4:aT->cQ} {c a:Int} {l:List Tm} {k:Nat} {c0:C9} {S:List Pt} {t:Tm} {d:Int} (ht:l.getD k yW=t) (hk:k<l.length) (hl:l.length<=140737488355328) (hS:S.length=15) (hd:0<=d/\d<=15)
 (h4:ok4 (aeT c a 0 l (l.length:Int) (k:Int) 0 c0 S (ajS t))=true)
 (e4:g4 (aeT c a 0 l (l.length:Int) (k:Int) 0 c0 S (ajS t))=((c,a,(),(),(),d,l,(l.length:Int),(k:Int),()),(c0,S,ajS t,()))):
 (gV ok4 g4 ((c,a,(),(),l,(l.length:Int),(k:Int),()),(c0,S,()))).run=some (.inl ((c,a,(),(),l,(l.length:Int),((k+1:Nat):Int),()),(c0,cond (decide (0<d)) (S.set (d-1).toNat (kT c (S.getD (d-1).toNat dB) t.2)) S,()))):=by
 have hr:inR ((k:Int)+1)=true:=aH (by omega)
 unfold aeT at h4 e4
 unfold gV KZ
 have ht':List.getD l (Int.toNat (k:Int)) (⟨0,0,0,0⟩,⟨0,0,0,0⟩,⟨0,0,0,0⟩,false)=t:=by rw [Int.toNat_natCast];exact ht
 simp only [ht']
 refine (OT.ao (decide_eq_true (by omega))).trans ((ah ?_).trans ?_)
 ·simp only [List.all_cons,List.all_nil,Bool.and_true,Bool.and_eq_true]
  exact ⟨aN (by omega),h4⟩
 ·have e4':g4 ((c,a,(),(),(),0,l,(l.length:Int),(k:Int),0,()),(c0.1,c0.2.1,c0.2.2.1,c0.2.2.2.1,c0.2.2.2.2.1,c0.2.2.2.2.2.1,c0.2.2.2.2.2.2.1,c0.2.2.2.2.2.2.2.1,c0.2.2.2.2.2.2.2.2.1,()),S,(t.1.w0,t.1.w1,t.1.w2,t.1.w3,t.2.1.w0,t.2.1.w1,t.2.1.w2,t.2.1.w3,t.2.2.1.w0,t.2.2.1.w1,t.2.2.1.w2,t.2.2.1.w3,t.2.2.2,()),())=((c,a,(),(),(),d,l,(l.length:Int),(k:Int),()),(c0,S,ajS t,())):=e4
  simp only [e4']
  by_cases h0:0<d
  ·rw [decide_eq_true h0]
   refine (OT.ao rfl).trans ((ah ?_).trans ?_)
   ·simp only [hS,Nat.add_zero,hr,List.all_cons,List.all_nil,Bool.and_true,Bool.and_eq_true]
    have i1:inR (d-1)=true:=aH (by omega)
    have i2:inB (d-1) 15=true:=aN (by omega)
    have i3:decide ((d-1).toNat<15)=true:=decide_eq_true (by omega)
    exact ⟨i1,i1,i2,i3,i2,i3⟩
   ·rfl
  ·rw [decide_eq_false h0]
   refine (OT.aq rfl).trans ((ah ?_).trans rfl)
   simp only [hr,List.all_cons,List.all_nil,Bool.and_true]
theorem adH:∀ s:bA,GD s=true->∃ m e,al (gV nq qQ) m s=some e/\(qT KX s).run=some e:=by
 rintro ⟨⟨c,at',⟨⟩,⟨⟩,l,n,i,⟨⟩⟩,⟨c0,S,⟨⟩⟩⟩ h
 have h':=of_decide_eq_true h
 dsimp only at h'
 obtain ⟨rfl,rfl,hS,⟨ha0,ha1⟩,hl⟩:=h'
 have:=(aP (T:=gV nq qQ) (λi o=>(((c,at',(),(),l,(l.length:Int),(i:Int),()),(c0,o,())):bA)) (B4 c at' l)
  (λo=>(⟨(.exit 2,kM),((c,(),(),()),(c0,o,()))⟩:aE)) l.length S (λ_ o=>o.length=15) hS (λk o hk ho=>⟨?_,(ul c at' l k o).trans ho⟩) (λo ho=> ?_)).1
 ·obtain ⟨m,hm⟩:=this
  exact ⟨m,_,hm,rfl⟩
 ·exact aGu rfl hk hl ho (aGa _ _) (decide_eq_true ⟨rfl,rfl,ha0,ha1⟩) rfl
 ·exact OT.aq (decide_eq_false (by dsimp only;omega))
def arJ (c:Int) (S:List Pt) (n:Nat) (w:Pt×Pt):Pt×Pt:=(kT c w.1 (S.getD (14-n) dB),kT c w.2 (kT c w.1 (S.getD (14-n) dB)))
def aJB (c:Int) (S:List Pt):Pt×Pt:=upto (arJ c S) (cF,cF) 15
def GC (s:bz):Bool:=decide (s.1.2.2.2.2.2.1=14/\s.2.2.1.length=15/\Mi s.2.2.2.1=cF/\Mi s.2.2.2.2.1=cF)
def KW (s:bz):fw:=(((),(),()),(s.2.1,bQ (aJB s.1.1 s.2.2.1).2,()))
theorem adF:∀ s:bz,GC s=true->∃ m e,al me m s=some e/\(qR KW s).run=some e:=by
 rintro ⟨⟨c,⟨⟩,⟨⟩,⟨⟩,⟨⟩,i,⟨⟩⟩,⟨c0,S,r,a,⟨⟩⟩⟩ h
 have h':=of_decide_eq_true h
 dsimp only at h'
 obtain ⟨rfl,hS,hr,ha⟩:=h'
 have hr2:r=bQ cF:=by rw [<-hr];rfl
 have ha2:a=bQ cF:=by rw [<-ha];rfl
 subst hr2 ha2
 have:=(aP (T:=me) (λn w=>(((c,(),(),(),(),14-(n:Int),()),(c0,S,bQ w.1,bQ w.2,())):bz)) (arJ c S)
  (λw=>(⟨(.exit 6,kK),(((),(),()),(c0,bQ w.2,()))⟩:aE)) 15 (cF,cF) (λ_ _=>True) trivial (λn w hn _=>⟨?_,trivial⟩) (λw _=> ?_)).1
 ·obtain ⟨m,hm⟩:=this
  exact ⟨m,_,hm,rfl⟩
 ·have e1:((14:Int)-(n:Int)).toNat=14-n:=by omega
  have e2:(14:Int)-(n:Int)-1=14-((n+1:Nat):Int):=by omega
  refine (OT.ao (decide_eq_true (by dsimp only;omega))).trans ((ah ?_).trans ?_)
  ·simp only [e1,hS,Nat.add_zero,List.all_cons,List.all_nil,Bool.and_true,Bool.and_eq_true]
   exact ⟨aN (by omega),decide_eq_true (by omega),aH (by omega)⟩
  ·rw [<-e2]
   simp only [OT.cP,e1,Nat.add_zero]
   rfl
 ·exact OT.aq (decide_eq_false (by dsimp only;omega))
def avG (c:Int) (l:List Tm) (a:Int):Pt:=(aJB c (aD8 c a l (List.replicate 15 cF))).2
theorem T9 {ok4:aT->Bool} {g4:aT->cQ} {ok0:bB->Bool} {g0:bB->fy} {ok2:bA->Bool} {g2:bA->fx} {ok6:bz->Bool} {g6:bz->fw} {c a:Int} {l:List Tm} {S0 S:List Pt} {R:Pt} {z:C9}
 (h0:ok0 ((c,l,a,(),(),0,()),(bQ dB,List.replicate 15 dB,()))=true) (e0:g0 ((c,l,a,(),(),0,()),(bQ dB,List.replicate 15 dB,()))=((c,l,a,(),(),()),(bQ dB,S0,())))
 (h2:ok2 ((c,a,(),(),l,(l.length:Int),0,()),(bQ dB,S0,()))=true) (e2:g2 ((c,a,(),(),l,(l.length:Int),0,()),(bQ dB,S0,()))=((c,(),(),()),(bQ dB,S,())))
 (h6:ok6 ((c,(),(),(),(),14,()),(bQ dB,S,bQ cF,bQ cF,()))=true) (e6:g6 ((c,(),(),(),(),14,()),(bQ dB,S,bQ cF,bQ cF,()))=(((),(),()),(z,bQ R,()))):
 (o7 ok0 g0 ok4 g4 ok2 g2 ok6 g6 c l a).run=some ⟨qP,((R,()),())⟩:=by
 have e0':g0 ((c,l,a,(),(),0,()),((0,0,0,0,0,0,0,0,false,()),[((⟨0,0,0,0⟩,⟨0,0,0,0⟩,false):Pt),((⟨0,0,0,0⟩,⟨0,0,0,0⟩,false):Pt),((⟨0,0,0,0⟩,⟨0,0,0,0⟩,false):Pt),((⟨0,0,0,0⟩,⟨0,0,0,0⟩,false):Pt),((⟨0,0,0,0⟩,⟨0,0,0,0⟩,false):Pt),((⟨0,0,0,0⟩,⟨0,0,0,0⟩,false):Pt),((⟨0,0,0,0⟩,⟨0,0,0,0⟩,false):Pt),((⟨0,0,0,0⟩,⟨0,0,0,0⟩,false):Pt),((⟨0,0,0,0⟩,⟨0,0,0,0⟩,false):Pt),((⟨0,0,0,0⟩,⟨0,0,0,0⟩,false):Pt),((⟨0,0,0,0⟩,⟨0,0,0,0⟩,false):Pt),((⟨0,0,0,0⟩,⟨0,0,0,0⟩,false):Pt),((⟨0,0,0,0⟩,⟨0,0,0,0⟩,false):Pt),((⟨0,0,0,0⟩,⟨0,0,0,0⟩,false):Pt),((⟨0,0,0,0⟩,⟨0,0,0,0⟩,false):Pt)],()))=((c,l,a,(),(),()),(bQ dB,S0,())):=e0
 have e2':g2 ((c,a,(),(),l,(l.length:Int),0,()),((bQ dB).1,(bQ dB).2.1,(bQ dB).2.2.1,(bQ dB).2.2.2.1,(bQ dB).2.2.2.2.1,(bQ dB).2.2.2.2.2.1,(bQ dB).2.2.2.2.2.2.1,(bQ dB).2.2.2.2.2.2.2.1,(bQ dB).2.2.2.2.2.2.2.2.1,()),S0,())=((c,(),(),()),(bQ dB,S,())):=e2
 have e6':g6 ((c,(),(),(),(),14,()),((bQ dB).1,(bQ dB).2.1,(bQ dB).2.2.1,(bQ dB).2.2.2.1,(bQ dB).2.2.2.2.1,(bQ dB).2.2.2.2.2.1,(bQ dB).2.2.2.2.2.2.1,(bQ dB).2.2.2.2.2.2.2.1,(bQ dB).2.2.2.2.2.2.2.2.1,()),S,(0,0,0,0,0,0,0,0,true,()),(0,0,0,0,0,0,0,0,true,()),())=(((),(),()),(z,bQ R,())):=e6
 unfold o7
 simp only [e0',e2',e6']
 refine (ah ?_).trans rfl
 simp only [List.all_cons,List.all_nil,Bool.and_true,Bool.and_eq_true]
 exact ⟨h0,h2,h6⟩
theorem I1 (c a:Int) (l:List Tm) (S:List Pt):∀ n,(upto (B4 c a l) S n).length=S.length
 |0=>rfl
 |n+1=>(ul c a l n _).trans (I1 c a l S n)
def tl (x:o8):Bool:=decide ((0<=x.1.2.2.1/\x.1.2.2.1<=1000)/\x.1.2.1.length<=140737488355328)
def QK (x:o8):OT eL.Y:=.ok ⟨qP,((avG x.1.1 x.1.2.1 x.1.2.2.1,()),())⟩
theorem adE:ac Tryz.prog 162 (eL.aI tl QK):=T8 GF KY nq qQ GD KX GC KW adI adG adH adF _ _ λx oy hp ho=>by
 rw [<-ho]
 clear ho
 obtain ⟨⟨c,l,a,⟨⟩⟩,⟨⟩⟩:=x
 obtain ⟨ha,hl⟩:=of_decide_eq_true hp
 exact T9 (S0:=List.replicate 15 cF) (S:=aD8 c a l (List.replicate 15 cF)) (R:=avG c l a) (z:=bQ dB) (decide_eq_true ⟨rfl,rfl⟩) rfl
  (decide_eq_true ⟨rfl,rfl,rfl,ha,hl⟩) rfl (decide_eq_true ⟨rfl,I1 c a l _ l.length,rfl,rfl⟩) rfl
def qO:cn:=(eL.aI tl QK)
theorem OJ:ac Tryz.prog 162 qO:=adE
theorem OI:aG qO:=aA
def jO:Env:=ay 162 qO C0
theorem jn:aQ Tryz.prog jO:=ag OJ mL
theorem uO:ax jO:=ae OI Nl
theorem nW:aW Tryz.prog te jO:=aJ follows ar jn uO
def l8:aw:=⟨[.val false .int,.val false (.list HB)],[],true,0,false⟩
abbrev QB:Type:=((Int)×(List ((aa×(aa×(aa×Bool)))))×Unit)×(Unit)
def Bt:Shape:=⟨39,[(0,.val false .int),(1,.val false (.list (.prod .elem (.prod .elem (.prod .elem .bool))))),(4,.ptr 0 0 0),(5,.ptr 1 0 0),(6,.val false .int)],[(0,.cells [.val false .u64,.val false .u64,.val false .u64,.val false .u64,.val false .u64,.val false .u64,.val false .u64,.val false .u64,.val false .bool]),(1,.cells [.val false .u64,.val false .u64,.val false .u64,.val false .u64,.val false .u64,.val false .u64,.val false .u64,.val false .u64,.val false .bool])],0,true⟩
abbrev cJ:Type:=((Int)×(List ((aa×(aa×(aa×Bool)))))×(Unit)×(Unit)×(Int)×Unit)×(((UInt64)×(UInt64)×(UInt64)×(UInt64)×(UInt64)×(UInt64)×(UInt64)×(UInt64)×(Bool)×Unit)×((UInt64)×(UInt64)×(UInt64)×(UInt64)×(UInt64)×(UInt64)×(UInt64)×(UInt64)×(Bool)×Unit)×Unit)
def Bs:Shape:=⟨39,[(0,.val false .int),(1,.val false (.list (.prod .elem (.prod .elem (.prod .elem .bool))))),(4,.ptr 0 0 0),(5,.ptr 1 0 0),(6,.val false .int),(24,.val false .int)],[(0,.cells [.val false .u64,.val false .u64,.val false .u64,.val false .u64,.val false .u64,.val false .u64,.val false .u64,.val false .u64,.val false .bool]),(1,.cells [.val false .u64,.val false .u64,.val false .u64,.val false .u64,.val false .u64,.val false .u64,.val false .u64,.val false .u64,.val false .bool])],0,true⟩
abbrev bE:Type:=((Int)×(List ((aa×(aa×(aa×Bool)))))×(Unit)×(Unit)×(Int)×(Int)×Unit)×(((UInt64)×(UInt64)×(UInt64)×(UInt64)×(UInt64)×(UInt64)×(UInt64)×(UInt64)×(Bool)×Unit)×((UInt64)×(UInt64)×(UInt64)×(UInt64)×(UInt64)×(UInt64)×(UInt64)×(UInt64)×(Bool)×Unit)×Unit)
def vV:Shape:=⟨39,[(0,.val false .int),(1,.val false (.list (.prod .elem (.prod .elem (.prod .elem .bool))))),(4,.ptr 0 0 0),(5,.ptr 1 0 0),(6,.val false .int)],[(0,.cells [.val false .u64,.val false .u64,.val false .u64,.val false .u64,.val false .u64,.val false .u64,.val false .u64,.val false .u64,.val false .bool]),(1,.cells [.val false .u64,.val false .u64,.val false .u64,.val false .u64,.val false .u64,.val false .u64,.val false .u64,.val false .u64,.val false .bool])],0,true⟩
abbrev eh:Type:=((Int)×(List ((aa×(aa×(aa×Bool)))))×(Unit)×(Unit)×(Int)×Unit)×(((UInt64)×(UInt64)×(UInt64)×(UInt64)×(UInt64)×(UInt64)×(UInt64)×(UInt64)×(Bool)×Unit)×((UInt64)×(UInt64)×(UInt64)×(UInt64)×(UInt64)×(UInt64)×(UInt64)×(UInt64)×(Bool)×Unit)×Unit)
def ai8:SE->Option Shape:=fC [(2,vV)] none
def az3 (a0:Int) (a1:List ((aa×(aa×(aa×Bool))))) (a6:Int) (a24:Int) (c0_0:UInt64) (c0_1:UInt64) (c0_2:UInt64) (c0_3:UInt64) (c0_4:UInt64) (c0_5:UInt64) (c0_6:UInt64) (c0_7:UInt64) (c0_8:Bool) (c1_0:UInt64) (c1_1:UInt64) (c1_2:UInt64) (c1_3:UInt64) (c1_4:UInt64) (c1_5:UInt64) (c1_6:UInt64) (c1_7:UInt64) (c1_8:Bool):OT (Sum bE aE):=
 let z0:aa×aa×Bool:=({w0:=c1_0,w1:=c1_1,w2:=c1_2,w3:=c1_3},{w0:=c1_4,w1:=c1_5,w2:=c1_6,w3:=c1_7},c1_8)
 let z1:aa×aa×Bool:=kT a0 z0 z0
 let z2:=z1.fst
 let z3:=z1.snd
 let z4:=z3.fst
 (.br (decide (a24<(4:Int)))
 (gd [inR (a24+(1:Int))] (.ok (.inl ((a0,(a1,((),((),(a6,(a24+(1:Int),())))))),((c0_0,(c0_1,(c0_2,(c0_3,(c0_4,(c0_5,(c0_6,(c0_7,(c0_8,()))))))))),((z2.w0,(z2.w1,(z2.w2,(z2.w3,(z4.w0,(z4.w1,(z4.w2,(z4.w3,(z3.snd,()))))))))),()))))))
 (.ok (.inr ⟨(.exit 2,vV),((a0,(a1,((),((),(a6,()))))),((c0_0,(c0_1,(c0_2,(c0_3,(c0_4,(c0_5,(c0_6,(c0_7,(c0_8,()))))))))),((c1_0,(c1_1,(c1_2,(c1_3,(c1_4,(c1_5,(c1_6,(c1_7,(c1_8,()))))))))),())))⟩)))
def Bw (s:bE):OT (Sum bE aE):=az3 (s.1.1) (s.1.2.1) (s.1.2.2.2.2.1) (s.1.2.2.2.2.2.1) (s.2.1.1) (s.2.1.2.1) (s.2.1.2.2.1) (s.2.1.2.2.2.1) (s.2.1.2.2.2.2.1) (s.2.1.2.2.2.2.2.1) (s.2.1.2.2.2.2.2.2.1) (s.2.1.2.2.2.2.2.2.2.1) (s.2.1.2.2.2.2.2.2.2.2.1) (s.2.2.1.1) (s.2.2.1.2.1) (s.2.2.1.2.2.1) (s.2.2.1.2.2.2.1) (s.2.2.1.2.2.2.2.1) (s.2.2.1.2.2.2.2.2.1) (s.2.2.1.2.2.2.2.2.2.1) (s.2.2.1.2.2.2.2.2.2.2.1) (s.2.2.1.2.2.2.2.2.2.2.2.1)
theorem azY (s:bE) (Q:Sum bE aE->Prop):wps te jO av 1000 (aU (aU (aj Tryz.f148) 0) 2) (Bs.inj s) (bY Bs ai8 (Q:Sum Bs.T aE->Prop))=(Bw s).wpR Q:=by kernel_rfl
def Ib (g2_2:bE->eh) (s:bE):OT aE:=(.ok ⟨(.exit 2,vV),g2_2 s⟩)
def vW:Shape:=⟨39,[(4,.ptr 0 0 0),(5,.ptr 1 0 0)],[(0,.cells [.val false .u64,.val false .u64,.val false .u64,.val false .u64,.val false .u64,.val false .u64,.val false .u64,.val false .u64,.val false .bool]),(1,.cells [.val false .u64,.val false .u64,.val false .u64,.val false .u64,.val false .u64,.val false .u64,.val false .u64,.val false .u64,.val false .bool])],0,true⟩
abbrev jD:Type:=((Unit)×(Unit)×Unit)×(((UInt64)×(UInt64)×(UInt64)×(UInt64)×(UInt64)×(UInt64)×(UInt64)×(UInt64)×(Bool)×Unit)×((UInt64)×(UInt64)×(UInt64)×(UInt64)×(UInt64)×(UInt64)×(UInt64)×(UInt64)×(Bool)×Unit)×Unit)
def ai9:SE->Option Shape:=fC [(0,vW)] none
def aja (ok2:bE->Bool) (g2_2:bE->eh) (a0:Int) (a1:List ((aa×(aa×(aa×Bool))))) (a6:Int) (c0_0:UInt64) (c0_1:UInt64) (c0_2:UInt64) (c0_3:UInt64) (c0_4:UInt64) (c0_5:UInt64) (c0_6:UInt64) (c0_7:UInt64) (c0_8:Bool) (c1_0:UInt64) (c1_1:UInt64) (c1_2:UInt64) (c1_3:UInt64) (c1_4:UInt64) (c1_5:UInt64) (c1_6:UInt64) (c1_7:UInt64) (c1_8:Bool):OT (Sum cJ aE):=
 let z0:(Int×List (aa×aa×aa×Bool)×PUnit×PUnit×Int×Int×PUnit)×(UInt64×UInt64×UInt64×UInt64×UInt64×UInt64×UInt64×UInt64×Bool×PUnit)×(UInt64×UInt64×UInt64×UInt64×UInt64×UInt64×UInt64×UInt64×Bool×PUnit)×PUnit:=((a0,a1,(),(),a6,(0:Int),()),(c0_0,c0_1,c0_2,c0_3,c0_4,c0_5,c0_6,c0_7,c0_8,()),(c1_0,c1_1,c1_2,c1_3,c1_4,c1_5,c1_6,c1_7,c1_8,()),())
 let z1:(Int×List (aa×aa×aa×Bool)×PUnit×PUnit×Int×PUnit)×(UInt64×UInt64×UInt64×UInt64×UInt64×UInt64×UInt64×UInt64×Bool×PUnit)×(UInt64×UInt64×UInt64×UInt64×UInt64×UInt64×UInt64×UInt64×Bool×PUnit)×PUnit:=g2_2 z0
 let z2:=z1.fst
 let z3:=z2.fst
 let z4:=z2.snd
 let z5:=z4.fst
 let z6:=z4.snd.snd.snd.fst
 let z7:=z1.snd
 let z8:=z7.fst
 let z9:=z8.snd
 let z10:=z9.snd
 let z11:=z10.snd
 let z12:=z11.snd
 let z13:=z12.snd
 let z14:=z13.snd
 let z15:=z14.snd
 let z16:=z7.snd.fst
 let z17:=z16.snd
 let z18:=z17.snd
 let z19:=z18.snd
 let z20:=z19.snd
 let z21:=z20.snd
 let z22:=z21.snd
 let z23:=z22.snd
 let z24:aa×aa×Bool:=kT z3 ({w0:=z16.fst,w1:=z17.fst,w2:=z18.fst,w3:=z19.fst},{w0:=z20.fst,w1:=z21.fst,w2:=z22.fst,w3:=z23.fst},z23.snd.fst) (avG z3 z5 z6)
 let z25:=z24.fst
 let z26:=z24.snd
 let z27:=z26.fst
 (.br (decide ((0:Int)<=a6))
 (gd [ok2 z0,tl ((z3,z5,z6,()),()),inR (z6-(4:Int))] (.ok (.inl ((z3,(z5,((),((),(z6-(4:Int),()))))),((z8.fst,(z9.fst,(z10.fst,(z11.fst,(z12.fst,(z13.fst,(z14.fst,(z15.fst,(z15.snd.fst,()))))))))),((z25.w0,(z25.w1,(z25.w2,(z25.w3,(z27.w0,(z27.w1,(z27.w2,(z27.w3,(z26.snd,()))))))))),()))))))
 (.ok (.inr ⟨(.exit 0,vW),(((),((),())),((c0_0,(c0_1,(c0_2,(c0_3,(c0_4,(c0_5,(c0_6,(c0_7,(c0_8,()))))))))),((c1_0,(c1_1,(c1_2,(c1_3,(c1_4,(c1_5,(c1_6,(c1_7,(c1_8,()))))))))),())))⟩)))
def qN (ok2:bE->Bool) (g2_2:bE->eh) (s:cJ):OT (Sum cJ aE):=aja ok2 g2_2 (s.1.1) (s.1.2.1) (s.1.2.2.2.2.1) (s.2.1.1) (s.2.1.2.1) (s.2.1.2.2.1) (s.2.1.2.2.2.1) (s.2.1.2.2.2.2.1) (s.2.1.2.2.2.2.2.1) (s.2.1.2.2.2.2.2.2.1) (s.2.1.2.2.2.2.2.2.2.1) (s.2.1.2.2.2.2.2.2.2.2.1) (s.2.2.1.1) (s.2.2.1.2.1) (s.2.2.1.2.2.1) (s.2.2.1.2.2.2.1) (s.2.2.1.2.2.2.2.1) (s.2.2.1.2.2.2.2.2.1) (s.2.2.1.2.2.2.2.2.2.1) (s.2.2.1.2.2.2.2.2.2.2.1) (s.2.2.1.2.2.2.2.2.2.2.2.1)
theorem azZ (ok2:bE->Bool) (g2_2:bE->eh) (s:cJ) (Q:Sum cJ aE->Prop):wps te jO (aO 2 (cl Bs 2 ok2 (Ib g2_2)) av) 1000 (aU (aj Tryz.f148) 0) (Bt.inj s) (bY Bt ai9 (Q:Sum Bt.T aE->Prop))=(qN ok2 g2_2 s).wpR Q:=by kernel_rfl
def Ic (g0_0:cJ->jD) (s:cJ):OT aE:=(.ok ⟨(.exit 0,vW),g0_0 s⟩)
def vU:az:=⟨[.val true (.prod .elem (.prod .elem .bool))],[],false⟩
def Yn:SV->Option az:=λ_=>some vU
def EO (ok2:bE->Bool) (g2_2:bE->eh) (ok0:cJ->Bool) (g0_0:cJ->jD) (a0:Int) (a1:List ((aa×(aa×(aa×Bool))))):OT l8.Y:=
 let z0:Int:=Int.tdiv ((↑(abw a1):Int)+(4:Int)-(1:Int)) (4:Int)
 let z1:(Int×List (aa×aa×aa×Bool)×PUnit×PUnit×Int×PUnit)×(UInt64×UInt64×UInt64×UInt64×UInt64×UInt64×UInt64×UInt64×Bool×PUnit)×(UInt64×UInt64×UInt64×UInt64×UInt64×UInt64×UInt64×UInt64×Bool×PUnit)×PUnit:=((a0,a1,(),(),z0*(4:Int),()),((0:UInt64),(0:UInt64),(0:UInt64),(0:UInt64),(0:UInt64),(0:UInt64),(0:UInt64),(0:UInt64),false,()),((0:UInt64),(0:UInt64),(0:UInt64),(0:UInt64),(0:UInt64),(0:UInt64),(0:UInt64),(0:UInt64),true,()),())
 let z2:=(g0_0 z1).snd.snd.fst
 let z3:=z2.snd
 let z4:=z3.snd
 let z5:=z4.snd
 let z6:=z5.snd
 let z7:=z6.snd
 let z8:=z7.snd
 let z9:=z8.snd
 (.br (decide ((↑(List.length a1):Int)<(24:Int)))
 (gd [y0 ((a0,a1,()),())] (.ok ⟨vU,((Am a0 a1,()),())⟩))
 (gd [TS ((a1,()),()),inR ((↑(abw a1):Int)+(4:Int)),inR ((↑(abw a1):Int)+(4:Int)-(1:Int)),true&&inR z0,inR (z0*(4:Int)),ok0 z1] (.ok ⟨vU,((({w0:=z2.fst,w1:=z3.fst,w2:=z4.fst,w3:=z5.fst},{w0:=z6.fst,w1:=z7.fst,w2:=z8.fst,w3:=z9.fst},z9.snd.fst),()),())⟩)))
theorem aFm (ok2:bE->Bool) (g2_2:bE->eh) (ok0:cJ->Bool) (g0_0:cJ->jD) (x:QB) (Q:l8.Y->Prop):wpf te jO (aO 0 (cl Bt 0 ok0 (Ic g0_0)) av) 1000 Tryz.f148 (l8.inp.inj x).tm (l8.inp.inj x).hp (fnK l8 Yn Q) (λ_ _=>False)=(EO ok2 g2_2 ok0 g0_0 (x.1.1) (x.1.2.1)).wpR Q:=by kernel_rfl
theorem amT (ok2:bE->Bool) (g2_2:bE->eh) (ok0:cJ->Bool) (g0_0:cJ->jD) (h2:∀ s:bE,ok2 s=true->∃ m e,al (Bw) m s=some e/\(Ib g2_2 s).run=some e) (h0:∀ s:cJ,ok0 s=true->∃ m e,al (qN ok2 g2_2) m s=some e/\(Ic g0_0 s).run=some e) (pre:QB->Bool) (F:QB->OT l8.Y) (hF:∀ (x:QB) oy,pre x=true->(F x).run=some oy->(EO ok2 g2_2 ok0 g0_0 (x.1.1) (x.1.2.1)).run=some oy):ac Tryz.prog 148 (l8.aI pre F):=
 aD ar jn nW (f:=148) (fn:=Tryz.f148) (c:=aj Tryz.f148) (by kernel_rfl) (by kernel_rfl) (by kernel_rfl) (S:=l8) (k:=0) (by kernel_rfl) (λR hR=>(aB (c:=(aj Tryz.f148)) (by kernel_rfl) (id:=0) (by kernel_rfl) (aR ar jn nW (sh:=Bt) hR (xs:=ai9) (aC (by kernel_rfl) (by kernel_rfl) hR) aL (aB (c:=(aU (aj Tryz.f148) 0)) (by kernel_rfl) (id:=2) (by kernel_rfl) (aR ar jn nW (sh:=Bs) hR (xs:=ai8) (aC (by kernel_rfl) (by kernel_rfl) hR) aL af (n:=1000) (T:=Bw) (λs Q=>azY s Q) (ok:=ok2) (f:=Ib g2_2) h2) af) (n:=1000) (T:=qN ok2 g2_2) (λs Q=>azZ ok2 g2_2 s Q) (ok:=ok0) (f:=Ic g0_0) h0) af)) (n:=1000) (sel:=Yn) (λv o h=>by cases h;rfl) (pre:=pre) (F:=F) (T:=λx=>EO ok2 g2_2 ok0 g0_0 (x.1.1) (x.1.2.1)) (λx Q=>aFm ok2 g2_2 ok0 g0_0 x Q) hF
theorem abx (l:List Tm):∀ n,awx l n<=n
 |0=>Nat.le_refl _
 |n+1=>by
  unfold awx
  cases aIK l (n:Int)
  ·exact Nat.le_succ_of_le (abx l n)
  ·exact Nat.le_refl _
def aJo (c:Int) (O:Pt):Pt:=upto (λ_ o=>kT c o o) O 4
def th (s:bE):Bool:=decide (s.1.2.2.2.2.2.1=0)
def Bv (s:bE):eh:=((s.1.1,s.1.2.1,(),(),s.1.2.2.2.2.1,()),(s.2.1,bQ (aJo s.1.1 (Mi s.2.2.1)),()))
theorem az1:∀ s:bE,th s=true->∃ m e,al Bw m s=some e/\(Ib Bv s).run=some e:=by
 rintro ⟨⟨c,l,⟨⟩,⟨⟩,a,i,⟨⟩⟩,⟨c0,c1,⟨⟩⟩⟩ h
 have h':=of_decide_eq_true h
 dsimp only at h'
 subst h'
 have:=(aP (T:=Bw) (λi O=>(((c,l,(),(),a,(i:Int),()),(c0,bQ O,())):bE)) (λ_ o=>kT c o o)
  (λO=>(⟨(.exit 2,vV),((c,l,(),(),a,()),(c0,bQ O,()))⟩:aE)) 4 (Mi c1) (λ_ _=>True) trivial (λk O hk _=>⟨?_,trivial⟩) (λO _=> ?_)).1
 ·obtain ⟨m,hm⟩:=this
  exact ⟨m,_,hm,rfl⟩
 ·refine (OT.ao (decide_eq_true (by dsimp only;omega))).trans ((ah ?_).trans rfl)
  simp only [List.all_cons,List.all_nil,Bool.and_true]
  exact aH (by omega)
 ·exact OT.aq (decide_eq_false (by dsimp only;omega))
def apx (c:Int) (l:List Tm) (W n:Nat) (O:Pt):Pt:=kT c (aJo c O) (avG c l (4*(W:Int)-4*(n:Int)))
def Ol (l:List Tm):Nat:=(abw l+3)/4
def aIS (c:Int) (l:List Tm):Pt:=upto (apx c l (Ol l)) cF (Ol l+1)
def apw (c:Int) (l:List Tm) (a:Int) (c0:C9) (O:Pt):bE:=((c,l,(),(),a,0,()),(c0,bQ O,()))
theorem aG4 {ok2:bE->Bool} {g2:bE->eh} {c a:Int} {l:List Tm} {c0:C9} {O D:Pt} (h0:0<=a) (h1:a<=1000) (hl:l.length<=140737488355328) (hok:ok2 (apw c l a c0 O)=true)
 (e2:g2 (apw c l a c0 O)=((c,l,(),(),a,()),(c0,bQ D,()))):
 (qN ok2 g2 ((c,l,(),(),a,()),(c0,bQ O,()))).run=some (.inl ((c,l,(),(),a-4,()),(c0,bQ (kT c D (avG c l a)),()))):=by
 unfold apw at hok e2
 have e2':g2 ((c,l,(),(),a,0,()),(c0.1,c0.2.1,c0.2.2.1,c0.2.2.2.1,c0.2.2.2.2.1,c0.2.2.2.2.2.1,c0.2.2.2.2.2.2.1,c0.2.2.2.2.2.2.2.1,c0.2.2.2.2.2.2.2.2.1,()),((bQ O).1,(bQ O).2.1,(bQ O).2.2.1,(bQ O).2.2.2.1,(bQ O).2.2.2.2.1,(bQ O).2.2.2.2.2.1,(bQ O).2.2.2.2.2.2.1,(bQ O).2.2.2.2.2.2.2.1,(bQ O).2.2.2.2.2.2.2.2.1,()),())=((c,l,(),(),a,()),(c0,bQ D,())):=e2
 unfold qN aja
 simp only [e2']
 refine (OT.ao (decide_eq_true h0)).trans ((ah ?_).trans rfl)
 simp only [List.all_cons,List.all_nil,Bool.and_true,Bool.and_eq_true]
 exact ⟨hok,decide_eq_true ⟨⟨h0,h1⟩,hl⟩,aH (by omega)⟩
def KG (s:cJ):Bool:=decide (s.1.2.2.2.2.1=4*(Ol s.1.2.1:Int)/\Mi s.2.2.1=cF/\s.1.2.1.length<=140737488355328)
def TY (s:cJ):jD:=(((),(),()),(s.2.1,bQ (aIS s.1.1 s.1.2.1),()))
theorem az2:∀ s:cJ,KG s=true->∃ m e,al (qN th Bv) m s=some e/\(Ic TY s).run=some e:=by
 rintro ⟨⟨c,l,⟨⟩,⟨⟩,a,⟨⟩⟩,⟨c0,c1,⟨⟩⟩⟩ h
 have h':=of_decide_eq_true h
 dsimp only at h'
 obtain ⟨rfl,hO,hl⟩:=h'
 have hO2:c1=bQ cF:=by rw [<-hO];rfl
 subst hO2
 have hW:Ol l<=64:=by
  have:=abx l 256
  unfold Ol abw
  omega
 have:=(aP (T:=qN th Bv) (λn O=>(((c,l,(),(),4*(Ol l:Int)-4*(n:Int),()),(c0,bQ O,())):cJ)) (apx c l (Ol l))
  (λO=>(⟨(.exit 0,vW),(((),(),()),(c0,bQ O,()))⟩:aE)) (Ol l+1) cF (λ_ _=>True) trivial (λn O hn _=>⟨?_,trivial⟩) (λO _=> ?_)).1
 ·obtain ⟨m,hm⟩:=this
  refine ⟨m,_,?_,rfl⟩
  have e:4*(Ol l:Int)-4*((0:Nat):Int)=4*(Ol l:Int):=by omega
  rw [e] at hm
  exact hm
 ·have e:4*(Ol l:Int)-4*((n+1:Nat):Int)=4*(Ol l:Int)-4*(n:Int)-4:=by omega
  rw [e]
  exact aG4 (D:=aJo c O) (by omega) (by omega) hl (decide_eq_true rfl) rfl
 ·exact OT.aq (decide_eq_false (by dsimp only;omega))
def aJl (l:List Tm):Bool:=decide ((l.length:Int)<24)
def ah1 (c:Int) (l:List Tm):Pt:=cond (aJl l) (Am c l) (aIS c l)
def Bu (x:QB):Bool:=decide (x.1.2.1.length<=140737488355328)
def atx (x:QB):OT l8.Y:=.ok ⟨vU,((ah1 x.1.1 x.1.2.1,()),())⟩
theorem amU {ok2:bE->Bool} {g2:bE->eh} {ok0:cJ->Bool} {g0:cJ->jD} {c:Int} {l:List Tm} {R:Pt} (hl:l.length<=140737488355328) (hf:aJl l=false)
 (h0:ok0 ((c,l,(),(),4*(Ol l:Int),()),(bQ dB,bQ cF,()))=true) (e0:g0 ((c,l,(),(),4*(Ol l:Int),()),(bQ dB,bQ cF,()))=(((),(),()),(bQ dB,bQ R,()))):
 (EO ok2 g2 ok0 g0 c l).run=some ⟨vU,((R,()),())⟩:=by
 have ht:Int.tdiv ((abw l:Int)+4-1) 4=(Ol l:Int):=by
  unfold Ol
  rw [Int.tdiv_eq_ediv_of_nonneg (by omega)]
  omega
 have hW:=abx l 256
 have hW:abw l<=256:=hW
 have hW2:Ol l<=64:=by unfold Ol;omega
 have e1:(Ol l:Int)*4=4*(Ol l:Int):=Int.mul_comm _ _
 unfold EO
 have e0':g0 ((c,l,(),(),4*(Ol l:Int),()),(0,0,0,0,0,0,0,0,false,()),(0,0,0,0,0,0,0,0,true,()),())=(((),(),()),(bQ dB,bQ R,())):=e0
 simp only [ht,e1,e0']
 refine (OT.aq hf).trans ((ah ?_).trans rfl)
 simp only [List.all_cons,List.all_nil,Bool.and_true,Bool.true_and,Bool.and_eq_true]
 exact ⟨decide_eq_true hl,aH (by omega),aH (by omega),aH (by omega),aH (by omega),h0⟩
theorem az0:ac Tryz.prog 148 (l8.aI Bu atx):=amT th Bv KG TY az1 az2 _ _ λx oy hp ho=>by
 rw [<-ho]
 clear ho
 obtain ⟨⟨c,l,⟨⟩⟩,⟨⟩⟩:=x
 have hl:l.length<=140737488355328:=of_decide_eq_true hp
 show (EO th Bv KG TY c l).run=some ⟨vU,((ah1 c l,()),())⟩
 rcases (Bool.eq_false_or_eq_true (aJl l)).symm with hf|hf
 ·have e:ah1 c l=aIS c l:=by unfold ah1;rw [hf];rfl
  rw [e]
  exact amU (R:=aIS c l) hl hf (decide_eq_true ⟨rfl,rfl,hl⟩) rfl
 ·have e:ah1 c l=Am c l:=by unfold ah1;rw [hf];rfl
  rw [e]
  refine (OT.ao hf).trans ((ah ?_).trans rfl)
  simp only [List.all_cons,List.all_nil,Bool.and_true]
  exact hp
def EN:cn:=(l8.aI Bu atx)
theorem adx:ac Tryz.prog 148 EN:=az0
theorem adw:aG EN:=aA
def Nr:Env:=ay 148 EN jO
theorem FZ:aQ Tryz.prog Nr:=ag adx jn
theorem Hh:ax Nr:=ae adw uO
theorem afD:aW Tryz.prog te Nr:=aJ follows ar FZ Hh
def iQ:aw:=⟨[.ptr 0 0 0],[(0,aJE (.own 1)),(1,.row HB)],false,2,true⟩
abbrev EK:Type:=((Unit)×Unit)×(((Int)×(Unit)×Unit)×(List ((aa×(aa×(aa×Bool)))))×Unit)
def KA:az:=⟨[.val true (.prod .elem (.prod .elem .bool))],[(0,.cells [.val false .int,.own 1]),(1,.row (.prod .elem (.prod .elem (.prod .elem .bool))))],false⟩
def Qz:SV->Option az:=λ_=>some KA
def TR (c0_0:Int) (c1:List ((aa×(aa×(aa×Bool))))):OT iQ.Y:=
 (gd [Bu ((c0_0,c1,()),())] (.ok ⟨KA,((ah1 c0_0 c1,()),((c0_0,((),())),(c1,())))⟩))
theorem azU (x:EK) (Q:iQ.Y->Prop):wpf te Nr av 1000 Tryz.f116 (iQ.inp.inj x).tm (iQ.inp.inj x).hp (fnK iQ Qz Q) (λ_ _=>False)=(TR (x.2.1.1) (x.2.2.1)).wpR Q:=by kernel_rfl
theorem adq (pre:EK->Bool) (F:EK->OT iQ.Y) (hF:∀ (x:EK) oy,pre x=true->(F x).run=some oy->(TR (x.2.1.1) (x.2.2.1)).run=some oy):ac Tryz.prog 116 (iQ.aI pre F):=
 aD ar FZ afD (f:=116) (fn:=Tryz.f116) (c:=aj Tryz.f116) (by kernel_rfl) (by kernel_rfl) (by kernel_rfl) (S:=iQ) (k:=2) (by kernel_rfl) (λR hR=>af) (n:=1000) (sel:=Qz) (λv o h=>by cases h;rfl) (pre:=pre) (F:=F) (T:=λx=>TR (x.2.1.1) (x.2.2.1)) (λx Q=>azU x Q) hF
def EJ (x:EK):Bool:=Bu ((x.2.1.1,x.2.2.1,()),())
def ai1 (x:EK):OT iQ.Y:=.ok ⟨KA,((ah1 x.2.1.1 x.2.2.1,()),((x.2.1.1,((),())),(x.2.2.1,())))⟩
theorem atl:ac Tryz.prog 116 (iQ.aI EJ ai1):=adq _ _ λx oy hp ho=>by
 rw [<-ho]
 clear ho
 refine (ah ?_).trans rfl
 simp only [List.all_cons,List.all_nil,Bool.and_true]
 exact hp
def yX:cn:=(iQ.aI EJ ai1)
theorem Yj:ac Tryz.prog 116 yX:=atl
theorem Yi:aG yX:=aA
def xj:Env:=ay 116 yX Nr
theorem rI:aQ Tryz.prog xj:=ag Yj FZ
theorem CZ:ax xj:=ae Yi Hh
theorem Hf:aW Tryz.prog te xj:=aJ follows ar rI CZ
def rR:aw:=⟨[.val false .int,.val false (.list HB)],[],true,0,false⟩
abbrev amS:Type:=((Int)×(List ((aa×(aa×(aa×Bool)))))×Unit)×(Unit)
def KF:Shape:=⟨45,[(4,.ptr 0 0 0),(6,.ptr 1 0 0),(26,.val false (.list (.prod .elem (.prod .elem (.prod .elem .bool))))),(27,.val false .int),(28,.val false .int)],[(0,.cells [.val false .u64,.val false .u64,.val false .u64,.val false .u64,.val false .u64,.val false .u64,.val false .u64,.val false .u64,.val false .bool]),(1,.cells [.val false .int,.own 2]),(2,.row (.prod .elem (.prod .elem (.prod .elem .bool))))],0,true⟩
abbrev bZ:Type:=((Unit)×(Unit)×(List ((aa×(aa×(aa×Bool)))))×(Int)×(Int)×Unit)×(((UInt64)×(UInt64)×(UInt64)×(UInt64)×(UInt64)×(UInt64)×(UInt64)×(UInt64)×(Bool)×Unit)×((Int)×(Unit)×Unit)×(List ((aa×(aa×(aa×Bool)))))×Unit)
def l7:Shape:=⟨45,[(4,.ptr 0 0 0),(5,.val false .int)],[(0,.cells [.val false .u64,.val false .u64,.val false .u64,.val false .u64,.val false .u64,.val false .u64,.val false .u64,.val false .u64,.val false .bool])],0,true⟩
abbrev o0:Type:=((Unit)×(Int)×Unit)×(((UInt64)×(UInt64)×(UInt64)×(UInt64)×(UInt64)×(UInt64)×(UInt64)×(UInt64)×(Bool)×Unit)×Unit)
def Br:Shape:=⟨45,[(4,.ptr 0 0 0),(6,.ptr 1 0 0)],[(0,.cells [.val false .u64,.val false .u64,.val false .u64,.val false .u64,.val false .u64,.val false .u64,.val false .u64,.val false .u64,.val false .bool]),(1,.cells [.val false .int,.own 2]),(2,.row (.prod .elem (.prod .elem (.prod .elem .bool))))],0,true⟩
abbrev o1:Type:=((Unit)×(Unit)×Unit)×(((UInt64)×(UInt64)×(UInt64)×(UInt64)×(UInt64)×(UInt64)×(UInt64)×(UInt64)×(Bool)×Unit)×((Int)×(Unit)×Unit)×(List ((aa×(aa×(aa×Bool)))))×Unit)
def atv:SE->Option Shape:=fC [(1,Br)] (some l7)
def aFl (a26:List ((aa×(aa×(aa×Bool))))) (a27:Int) (a28:Int) (c0_0:UInt64) (c0_1:UInt64) (c0_2:UInt64) (c0_3:UInt64) (c0_4:UInt64) (c0_5:UInt64) (c0_6:UInt64) (c0_7:UInt64) (c0_8:Bool) (c1_0:Int) (c2:List ((aa×(aa×(aa×Bool))))):OT (Sum bZ aE):=
 let z0:aa:= {w0:=0,w1:=0,w2:=0,w3:=0}
 let z1:aa×aa×aa×Bool:=List.getD a26 (Int.toNat a28) (z0,z0,z0,false)
 let z2:=z1.snd
 (.br (decide (a28<a27))
 (gd [inB a28 (List.length a26)] (.br (onB c1_0 z2)
  (.br (WD c2)
   (gd [inR (a28+(1:Int))] (.ok (.inl (((),((),(a26,(a27,(a28+(1:Int),()))))),((c0_0,(c0_1,(c0_2,(c0_3,(c0_4,(c0_5,(c0_6,(c0_7,(c0_8,()))))))))),((c1_0,((),())),(c2++ [(abJ c1_0 z1.fst,z2)],())))))))
   (.ok (.inr ⟨(.ret,l7),(((),((50:Int),())),(((0:UInt64),((0:UInt64),((0:UInt64),((0:UInt64),((0:UInt64),((0:UInt64),((0:UInt64),((0:UInt64),(false,()))))))))),()))⟩)))
  (.ok (.inr ⟨(.ret,l7),(((),((41:Int),())),(((0:UInt64),((0:UInt64),((0:UInt64),((0:UInt64),((0:UInt64),((0:UInt64),((0:UInt64),((0:UInt64),(false,()))))))))),()))⟩))))
 (.ok (.inr ⟨(.exit 1,Br),(((),((),())),((c0_0,(c0_1,(c0_2,(c0_3,(c0_4,(c0_5,(c0_6,(c0_7,(c0_8,()))))))))),((c1_0,((),())),(c2,()))))⟩)))
def EM (s:bZ):OT (Sum bZ aE):=aFl (s.1.2.2.1) (s.1.2.2.2.1) (s.1.2.2.2.2.1) (s.2.1.1) (s.2.1.2.1) (s.2.1.2.2.1) (s.2.1.2.2.2.1) (s.2.1.2.2.2.2.1) (s.2.1.2.2.2.2.2.1) (s.2.1.2.2.2.2.2.2.1) (s.2.1.2.2.2.2.2.2.2.1) (s.2.1.2.2.2.2.2.2.2.2.1) (s.2.2.1.1) (s.2.2.2.1)
theorem aFi (s:bZ) (Q:Sum bZ aE->Prop):wps te xj av 1000 (aU (aj Tryz.f74) 1) (KF.inj s) (bY KF atv (Q:Sum KF.T aE->Prop))=(EM s).wpR Q:=by kernel_rfl
def TX (g1_r:bZ->o0) (c1_r:bZ->Bool) (g1_1:bZ->o1) (s:bZ):OT aE:=(.br (c1_r s) (.ok ⟨(.ret,l7),g1_r s⟩) (.ok ⟨(.exit 1,Br),g1_1 s⟩))
def jC:az:=⟨[.val true (.prod .elem (.prod .elem .bool)),.val false .int],[],false⟩
def ai5:SV->Option az:=λ_=>some jC
def ai7 (ok1:bZ->Bool) (g1_r:bZ->o0) (c1_r:bZ->Bool) (g1_1:bZ->o1) (a0:Int) (a1:List ((aa×(aa×(aa×Bool))))):OT rR.Y:=
 let z0:Int:=(↑(List.length a1):Int)
 let z1:aa:= {w0:=0,w1:=0,w2:=0,w3:=0}
 let z2:aa×aa×Bool:=(z1,z1,false)
 let z3:(PUnit×PUnit×List (aa×aa×aa×Bool)×Int×Int×PUnit)×(UInt64×UInt64×UInt64×UInt64×UInt64×UInt64×UInt64×UInt64×Bool×PUnit)×(Int×PUnit×PUnit)×List (aa×aa×aa×Bool)×PUnit:=(((),(),a1,z0,(0:Int),()),((0:UInt64),(0:UInt64),(0:UInt64),(0:UInt64),(0:UInt64),(0:UInt64),(0:UInt64),(0:UInt64),false,()),(a0,(),()),[],())
 let z4:(PUnit×Int×PUnit)×(UInt64×UInt64×UInt64×UInt64×UInt64×UInt64×UInt64×UInt64×Bool×PUnit)×PUnit:=g1_r z3
 let z5:=z4.snd.fst
 let z6:=z5.snd
 let z7:=z6.snd
 let z8:=z7.snd
 let z9:=z8.snd
 let z10:=z9.snd
 let z11:=z10.snd
 let z12:=z11.snd
 let z13:=(g1_1 z3).snd.snd
 let z14:=z13.fst.fst
 let z15:=z13.snd.fst
 (.br (ap a0)
 (.br (decide ((100000:Int)<z0))
  (.ok ⟨jC,((z2,((50:Int),())),())⟩)
  (gd [ok1 z3] (.br (c1_r z3)
   (.ok ⟨jC,((({w0:=z5.fst,w1:=z6.fst,w2:=z7.fst,w3:=z8.fst},{w0:=z9.fst,w1:=z10.fst,w2:=z11.fst,w3:=z12.fst},z12.snd.fst),(z4.fst.snd.fst,())),())⟩)
   (gd [EJ (((),()),(z14,(),()),z15,())] (.ok ⟨jC,((ah1 z14 z15,((0:Int),())),())⟩)))))
 (.ok ⟨jC,((z2,((40:Int),())),())⟩))
theorem aHX (ok1:bZ->Bool) (g1_r:bZ->o0) (c1_r:bZ->Bool) (g1_1:bZ->o1) (x:amS) (Q:rR.Y->Prop):wpf te xj (aO 1 (cl KF 1 ok1 (TX g1_r c1_r g1_1)) av) 1000 Tryz.f74 (rR.inp.inj x).tm (rR.inp.inj x).hp (fnK rR ai5 Q) (λ_ _=>False)=(ai7 ok1 g1_r c1_r g1_1 (x.1.1) (x.1.2.1)).wpR Q:=by kernel_rfl
theorem atw (ok1:bZ->Bool) (g1_r:bZ->o0) (c1_r:bZ->Bool) (g1_1:bZ->o1) (h1:∀ s:bZ,ok1 s=true->∃ m e,al (EM) m s=some e/\(TX g1_r c1_r g1_1 s).run=some e) (pre:amS->Bool) (F:amS->OT rR.Y) (hF:∀ (x:amS) oy,pre x=true->(F x).run=some oy->(ai7 ok1 g1_r c1_r g1_1 (x.1.1) (x.1.2.1)).run=some oy):ac Tryz.prog 74 (rR.aI pre F):=
 aD ar rI Hf (f:=74) (fn:=Tryz.f74) (c:=aj Tryz.f74) (by kernel_rfl) (by kernel_rfl) (by kernel_rfl) (S:=rR) (k:=0) (by kernel_rfl) (λR hR=>(aB (c:=(aj Tryz.f74)) (by kernel_rfl) (id:=1) (by kernel_rfl) (aR ar rI Hf (sh:=KF) hR (xs:=atv) (aC (by kernel_rfl) (by kernel_rfl) hR) aL af (n:=1000) (T:=EM) (λs Q=>aFi s Q) (ok:=ok1) (f:=TX g1_r c1_r g1_1) h1) af)) (n:=1000) (sel:=ai5) (λv o h=>by cases h;rfl) (pre:=pre) (F:=F) (T:=λx=>ai7 ok1 g1_r c1_r g1_1 (x.1.1) (x.1.2.1)) (λx Q=>aHX ok1 g1_r c1_r g1_1 x Q) hF
def abf (c:Int) (l:List Tm):List Tm:=l.map λt=>(abJ c t.1,t.2)
def r5 (c:Int) (l:List Tm):Bool:=l.all λt=>onB c t.2
def TV (s:bZ):Bool:=decide (s.1.2.2.2.1=(s.1.2.2.1.length:Int)/\s.1.2.2.2.2.1=0/\s.2.2.2.1= []/\s.1.2.2.1.length<=100000)
def TW (_:bZ):o0:=(((),(41:Int),()),(bQ dB,()))
def adv (s:bZ):Bool:= !r5 s.2.2.1.1 s.1.2.2.1
def adu (s:bZ):o1:=(((),(),()),(s.2.1,(s.2.2.1.1,(),()),abf s.2.2.1.1 s.1.2.2.1,()))
def Wc (c:Int) (l:List Tm) (c0:C9) (k:Int) (o:List Tm):bZ:=(((),(),l,(l.length:Int),k,()),(c0,(c,(),()),o,()))
theorem ah0 (c:Int) (l:List Tm) (c0:C9) (hl:l.length<=100000):∀ d k:Nat,k+d=l.length->
 ∃ m,al EM m (Wc c l c0 (k:Int) (abf c (l.take k)))=some (cond (r5 c (l.drop k)) ⟨(.exit 1,Br),(((),(),()),(c0,(c,(),()),abf c l,()))⟩ ⟨(.ret,l7),(((),(41:Int),()),(bQ dB,()))⟩)
 |0,k,h=>by
  rw [List.drop_eq_nil_of_le (by omega),List.take_of_length_le (by omega)]
  exact ⟨1,aM (OT.aq (decide_eq_false (by dsimp only [Wc];omega)))⟩
 |d+1,k,h=>by
  have hk:k<l.length:=by omega
  have e1:l.drop k=l[k]::l.drop (k+1):=List.drop_eq_getElem_cons hk
  have e2:l.take (k+1)=l.take k++ [l[k]]:=(List.take_append_getElem hk).symm
  have e3:l.getD k yW=l[k]:=by rw [List.getD_eq_getElem?_getD,List.getElem?_eq_getElem hk];rfl
  have hgd:∀ z:OT (Sum bZ aE),(gd [inB (k:Int) l.length] z).run=z.run:=λz=>ah (by rw [aN (by omega)];rfl)
  have ea:r5 c (l.drop k)=(onB c l[k].2&&r5 c (l.drop (k+1))):=by rw [e1];rfl
  rw [ea]
  have hr:WD (abf c (l.take k))=true:=decide_eq_true (by rw [abf,List.length_map,List.length_take];omega)
  have first:∀ e:aE ⊕ Unit,(EM (Wc c l c0 (k:Int) (abf c (l.take k)))).run=(OT.br (onB c (l.getD k yW).2) (.br (WD (abf c (l.take k))) (gd [inR ((k:Int)+1)] (.ok (.inl (Wc c l c0 ((k:Int)+1) (abf c (l.take k)++ [(abJ c (l.getD k yW).1,(l.getD k yW).2)])))))
   (.ok (.inr ⟨(.ret,l7),(((),(50:Int),()),(bQ dB,()))⟩))) (.ok (.inr ⟨(.ret,l7),(((),(41:Int),()),(bQ dB,()))⟩)):OT (Sum bZ aE)).run:=λ_=>
   (OT.ao (decide_eq_true (by dsimp only [Wc];omega))).trans ((hgd _).trans rfl)
  have first:=first (.inr ())
  rw [e3] at first
  rcases (Bool.eq_false_or_eq_true (onB c l[k].2)).symm with hb|hb
  ·rw [hb]
   exact ⟨1,aM (first.trans (OT.aq hb))⟩
  ·rw [hb]
   obtain ⟨m,hm⟩:=ah0 c l c0 hl d (k+1) (by omega)
   refine ⟨m+1,aF ?_ hm⟩
   refine first.trans ((OT.ao hb).trans ((OT.ao hr).trans ((ah ?_).trans ?_)))
   ·simp only [List.all_cons,List.all_nil,Bool.and_true]
    exact aH (by omega)
   ·rw [e2]
    simp only [abf,List.map_append,List.map_cons,List.map_nil]
    rfl
theorem aFk:∀ s:bZ,TV s=true->∃ m e,al EM m s=some e/\(TX TW adv adu s).run=some e:=by
 rintro ⟨⟨⟨⟩,⟨⟩,l,n,k,⟨⟩⟩,⟨c0,⟨c,⟨⟩,⟨⟩⟩,o,⟨⟩⟩⟩ h
 have h':=of_decide_eq_true h
 dsimp only at h'
 obtain ⟨rfl,rfl,rfl,hl⟩:=h'
 obtain ⟨m,hm⟩:=ah0 c l c0 hl l.length 0 (by omega)
 refine ⟨m,_,hm,?_⟩
 show (OT.br (!r5 c l) _ _:OT aE).run=some (cond (r5 c l) _ _)
 cases r5 c l<;>rfl
def ai6 (_:amS):Bool:=true
def aBY (x:amS):OT rR.Y:=.br (ap x.1.1) (.br (decide (x.1.2.1.length<=100000)) (.br (r5 x.1.1 x.1.2.1) (.ok ⟨jC,((ah1 x.1.1 (abf x.1.1 x.1.2.1),((0:Int),())),())⟩)
 (.ok ⟨jC,((dB,((41:Int),())),())⟩)) (.ok ⟨jC,((dB,((50:Int),())),())⟩)) (.ok ⟨jC,((dB,((40:Int),())),())⟩)
theorem aFj:ac Tryz.prog 74 (rR.aI ai6 aBY):=atw TV TW adv adu aFk _ _ λx oy hp ho=>by
 rw [<-ho]
 clear ho
 obtain ⟨⟨c,l,⟨⟩⟩,⟨⟩⟩:=x
 show (ai7 TV TW adv adu c l).run=(OT.br (ap c) (.br (decide (l.length<=100000)) (.br (r5 c l) (.ok ⟨jC,((ah1 c (abf c l),((0:Int),())),())⟩)
  (.ok ⟨jC,((dB,((41:Int),())),())⟩)) (.ok ⟨jC,((dB,((50:Int),())),())⟩)) (.ok ⟨jC,((dB,((40:Int),())),())⟩):OT rR.Y).run
 rcases (Bool.eq_false_or_eq_true (ap c)).symm with hs|hs
 ·exact (OT.aq hs).trans (OT.aq (b:=ap c) hs).symm
 ·refine (OT.ao hs).trans (Eq.trans ?_ (OT.ao (b:=ap c) hs).symm)
  by_cases hl:l.length<=100000
  ·refine (OT.aq (decide_eq_false (by omega))).trans (Eq.trans ?_ (OT.ao (b:=decide (l.length<=100000)) (decide_eq_true hl)).symm)
   refine (ah ?_).trans ?_
   ·simp only [List.all_cons,List.all_nil,Bool.and_true]
    exact decide_eq_true ⟨rfl,rfl,rfl,hl⟩
   ·rcases (Bool.eq_false_or_eq_true (r5 c l)).symm with ha|ha
    ·exact (OT.ao (b:= !r5 c l) (by rw [ha];rfl)).trans (OT.aq (b:=r5 c l) ha).symm
    ·refine (OT.aq (b:= !r5 c l) (by rw [ha];rfl)).trans (Eq.trans ?_ (OT.ao (b:=r5 c l) ha).symm)
     refine (ah ?_).trans rfl
     simp only [List.all_cons,List.all_nil,Bool.and_true]
     refine decide_eq_true ?_
     show (abf c l).length<=_
     rw [abf,List.length_map]
     omega
  ·exact (OT.ao (decide_eq_true (by omega))).trans (OT.aq (b:=decide (l.length<=100000)) (decide_eq_false hl)).symm
def KE:cn:=(rR.aI ai6 aBY)
theorem amR:ac Tryz.prog 74 KE:=aFj
theorem amQ:aG KE:=aA
def aaO:Env:=ay 74 KE xj
theorem Np:aQ Tryz.prog aaO:=ag amR rI
theorem Nq:ax aaO:=ae amQ CZ
theorem ao1:aW Tryz.prog te aaO:=aJ follows ar Np Nq
abbrev aGO:Ty:=.prod .int (.prod .int (.prod (.list (.prod .elem (.prod .elem .bool))) (.prod (.prod .elem (.prod .elem .bool)) (.prod .elem (.prod .elem .bool)))))
def aJf:CSh:=.cells [.val false .int,.val false .int,.val false (.list (.prod .elem (.prod .elem .bool))),.val false .u64,.val false .u64,.val false .u64,.val false .u64,.val false .u64,.val false .u64,.val false .u64,.val false .u64,.val false .bool,.val false .u64,.val false .u64,.val false .u64,.val false .u64,.val false .u64,.val false .u64,.val false .u64,.val false .u64,.val false .bool]
def gL:aw:=⟨[.val true (.prod .elem (.prod .elem .bool)),.ptr 0 0 0],[(0,aJf)],false,1,true⟩
abbrev Eo:Type:=(((aa×(aa×Bool)))×(Unit)×Unit)×(((Int)×(Int)×(List ((aa×(aa×Bool))))×(UInt64)×(UInt64)×(UInt64)×(UInt64)×(UInt64)×(UInt64)×(UInt64)×(UInt64)×(Bool)×(UInt64)×(UInt64)×(UInt64)×(UInt64)×(UInt64)×(UInt64)×(UInt64)×(UInt64)×(Bool)×Unit)×Unit)
def sY:az:=⟨[.val false .bool],[(0,.cells [.val false .int,.val false .int,.val false (.list (.prod .elem (.prod .elem .bool))),.val false .u64,.val false .u64,.val false .u64,.val false .u64,.val false .u64,.val false .u64,.val false .u64,.val false .u64,.val false .bool,.val false .u64,.val false .u64,.val false .u64,.val false .u64,.val false .u64,.val false .u64,.val false .u64,.val false .u64,.val false .bool])],false⟩
def P8:SV->Option az:=λ_=>some sY
def Tp (a0:(aa×(aa×Bool))) (c0_0:Int) (c0_1:Int) (c0_2:List ((aa×(aa×Bool)))) (c0_3:UInt64) (c0_4:UInt64) (c0_5:UInt64) (c0_6:UInt64) (c0_7:UInt64) (c0_8:UInt64) (c0_9:UInt64) (c0_10:UInt64) (c0_11:Bool) (c0_12:UInt64) (c0_13:UInt64) (c0_14:UInt64) (c0_15:UInt64) (c0_16:UInt64) (c0_17:UInt64) (c0_18:UInt64) (c0_19:UInt64) (c0_20:Bool):OT gL.Y:=
 (.br (a0.snd.snd)
 (.ok ⟨sY,((true,()),((c0_0,(c0_1,(c0_2,(c0_3,(c0_4,(c0_5,(c0_6,(c0_7,(c0_8,(c0_9,(c0_10,(c0_11,(c0_12,(c0_13,(c0_14,(c0_15,(c0_16,(c0_17,(c0_18,(c0_19,(c0_20,()))))))))))))))))))))),()))⟩)
 (.ok ⟨sY,((!onB c0_0 a0,()),((c0_0,(c0_1,(c0_2,(c0_3,(c0_4,(c0_5,(c0_6,(c0_7,(c0_8,(c0_9,(c0_10,(c0_11,(c0_12,(c0_13,(c0_14,(c0_15,(c0_16,(c0_17,(c0_18,(c0_19,(c0_20,()))))))))))))))))))))),()))⟩))
theorem azu (x:Eo) (Q:gL.Y->Prop):wpf te aaO av 1000 Tryz.f71 (gL.inp.inj x).tm (gL.inp.inj x).hp (fnK gL P8 Q) (λ_ _=>False)=(Tp (x.1.1) (x.2.1.1) (x.2.1.2.1) (x.2.1.2.2.1) (x.2.1.2.2.2.1) (x.2.1.2.2.2.2.1) (x.2.1.2.2.2.2.2.1) (x.2.1.2.2.2.2.2.2.1) (x.2.1.2.2.2.2.2.2.2.1) (x.2.1.2.2.2.2.2.2.2.2.1) (x.2.1.2.2.2.2.2.2.2.2.2.1) (x.2.1.2.2.2.2.2.2.2.2.2.2.1) (x.2.1.2.2.2.2.2.2.2.2.2.2.2.1) (x.2.1.2.2.2.2.2.2.2.2.2.2.2.2.1) (x.2.1.2.2.2.2.2.2.2.2.2.2.2.2.2.1) (x.2.1.2.2.2.2.2.2.2.2.2.2.2.2.2.2.1) (x.2.1.2.2.2.2.2.2.2.2.2.2.2.2.2.2.2.1) (x.2.1.2.2.2.2.2.2.2.2.2.2.2.2.2.2.2.2.1) (x.2.1.2.2.2.2.2.2.2.2.2.2.2.2.2.2.2.2.2.1) (x.2.1.2.2.2.2.2.2.2.2.2.2.2.2.2.2.2.2.2.2.1) (x.2.1.2.2.2.2.2.2.2.2.2.2.2.2.2.2.2.2.2.2.2.1) (x.2.1.2.2.2.2.2.2.2.2.2.2.2.2.2.2.2.2.2.2.2.2.1)).wpR Q:=by kernel_rfl
theorem ac3 (pre:Eo->Bool) (F:Eo->OT gL.Y) (hF:∀ (x:Eo) oy,pre x=true->(F x).run=some oy->(Tp (x.1.1) (x.2.1.1) (x.2.1.2.1) (x.2.1.2.2.1) (x.2.1.2.2.2.1) (x.2.1.2.2.2.2.1) (x.2.1.2.2.2.2.2.1) (x.2.1.2.2.2.2.2.2.1) (x.2.1.2.2.2.2.2.2.2.1) (x.2.1.2.2.2.2.2.2.2.2.1) (x.2.1.2.2.2.2.2.2.2.2.2.1) (x.2.1.2.2.2.2.2.2.2.2.2.2.1) (x.2.1.2.2.2.2.2.2.2.2.2.2.2.1) (x.2.1.2.2.2.2.2.2.2.2.2.2.2.2.1) (x.2.1.2.2.2.2.2.2.2.2.2.2.2.2.2.1) (x.2.1.2.2.2.2.2.2.2.2.2.2.2.2.2.2.1) (x.2.1.2.2.2.2.2.2.2.2.2.2.2.2.2.2.2.1) (x.2.1.2.2.2.2.2.2.2.2.2.2.2.2.2.2.2.2.1) (x.2.1.2.2.2.2.2.2.2.2.2.2.2.2.2.2.2.2.2.1) (x.2.1.2.2.2.2.2.2.2.2.2.2.2.2.2.2.2.2.2.2.1) (x.2.1.2.2.2.2.2.2.2.2.2.2.2.2.2.2.2.2.2.2.2.1) (x.2.1.2.2.2.2.2.2.2.2.2.2.2.2.2.2.2.2.2.2.2.2.1)).run=some oy):ac Tryz.prog 71 (gL.aI pre F):=
 aD ar Np ao1 (f:=71) (fn:=Tryz.f71) (c:=aj Tryz.f71) (by kernel_rfl) (by kernel_rfl) (by kernel_rfl) (S:=gL) (k:=1) (by kernel_rfl) (λR hR=>af) (n:=1000) (sel:=P8) (λv o h=>by cases h;rfl) (pre:=pre) (F:=F) (T:=λx=>Tp (x.1.1) (x.2.1.1) (x.2.1.2.1) (x.2.1.2.2.1) (x.2.1.2.2.2.1) (x.2.1.2.2.2.2.1) (x.2.1.2.2.2.2.2.1) (x.2.1.2.2.2.2.2.2.1) (x.2.1.2.2.2.2.2.2.2.1) (x.2.1.2.2.2.2.2.2.2.2.1) (x.2.1.2.2.2.2.2.2.2.2.2.1) (x.2.1.2.2.2.2.2.2.2.2.2.2.1) (x.2.1.2.2.2.2.2.2.2.2.2.2.2.1) (x.2.1.2.2.2.2.2.2.2.2.2.2.2.2.1) (x.2.1.2.2.2.2.2.2.2.2.2.2.2.2.2.1) (x.2.1.2.2.2.2.2.2.2.2.2.2.2.2.2.2.1) (x.2.1.2.2.2.2.2.2.2.2.2.2.2.2.2.2.2.1) (x.2.1.2.2.2.2.2.2.2.2.2.2.2.2.2.2.2.2.1) (x.2.1.2.2.2.2.2.2.2.2.2.2.2.2.2.2.2.2.2.1) (x.2.1.2.2.2.2.2.2.2.2.2.2.2.2.2.2.2.2.2.2.1) (x.2.1.2.2.2.2.2.2.2.2.2.2.2.2.2.2.2.2.2.2.2.1) (x.2.1.2.2.2.2.2.2.2.2.2.2.2.2.2.2.2.2.2.2.2.2.1)) (λx Q=>azu x Q) hF
abbrev aCr:Type:=Int×(Int×(List Pt×(UInt64×(UInt64×(UInt64×(UInt64×(UInt64×(UInt64×(UInt64×(UInt64×(Bool×(UInt64×(UInt64×(UInt64×(UInt64×(UInt64×(UInt64×(UInt64×(UInt64×(Bool×Unit))))))))))))))))))))
def OH:Pt:=(⟨0,0,0,0⟩,⟨0,0,0,0⟩,false)
def MK (c:Int) (P:Pt):Bool:=cond P.2.2 true (!onB c P)
def P9 (_:Eo):Bool:=true
def aiK (x:Eo):OT gL.Y:=.ok ⟨sY,((MK x.2.1.1 x.1.1,()),x.2)⟩
theorem asP:ac Tryz.prog 71 (gL.aI P9 aiK):=ac3 _ _ λx oy hp ho=>by
 rw [<-ho]
 clear ho
 obtain ⟨⟨P,⟨⟩,⟨⟩⟩,⟨i,⟨⟩⟩⟩:=x
 show _=some (⟨sY,((MK i.1 P,()),(i,()))⟩:gL.Y)
 unfold MK
 rcases (Bool.eq_false_or_eq_true P.2.2).symm with h|h
 ·rw [h]
  exact (OT.aq h).trans rfl
 ·rw [h]
  exact (OT.ao h).trans rfl
def yF:cn:=(gL.aI P9 aiK)
theorem XI:ac Tryz.prog 71 yF:=asP
theorem XH:aG yF:=aA
def xg:Env:=ay 71 yF aaO
theorem rF:aQ Tryz.prog xg:=ag XI Np
theorem CO:ax xg:=ae XH Nq
theorem Ha:aW Tryz.prog te xg:=aJ follows ar rF CO
def fc:aw:=⟨[.val false (.list (.prod .elem (.prod .elem .bool))),.fn 71 [0]],[(0,aJf)],false,1,true⟩
abbrev vM:Type:=((List ((aa×(aa×Bool))))×(Unit)×Unit)×(((Int)×(Int)×(List ((aa×(aa×Bool))))×(UInt64)×(UInt64)×(UInt64)×(UInt64)×(UInt64)×(UInt64)×(UInt64)×(UInt64)×(Bool)×(UInt64)×(UInt64)×(UInt64)×(UInt64)×(UInt64)×(UInt64)×(UInt64)×(UInt64)×(Bool)×Unit)×Unit)
def oN:Shape:=⟨19,[(0,.val false (.list (.prod .elem (.prod .elem .bool)))),(1,.fn 71 [0]),(7,.val false .int),(8,.val false .int)],[(0,.cells [.val false .int,.val false .int,.val false (.list (.prod .elem (.prod .elem .bool))),.val false .u64,.val false .u64,.val false .u64,.val false .u64,.val false .u64,.val false .u64,.val false .u64,.val false .u64,.val false .bool,.val false .u64,.val false .u64,.val false .u64,.val false .u64,.val false .u64,.val false .u64,.val false .u64,.val false .u64,.val false .bool])],1,true⟩
abbrev bc:Type:=((List ((aa×(aa×Bool))))×(Unit)×(Int)×(Int)×Unit)×(((Int)×(Int)×(List ((aa×(aa×Bool))))×(UInt64)×(UInt64)×(UInt64)×(UInt64)×(UInt64)×(UInt64)×(UInt64)×(UInt64)×(Bool)×(UInt64)×(UInt64)×(UInt64)×(UInt64)×(UInt64)×(UInt64)×(UInt64)×(UInt64)×(Bool)×Unit)×Unit)
def m8:Shape:=⟨19,[(4,.val false .int)],[(0,.cells [.val false .int,.val false .int,.val false (.list (.prod .elem (.prod .elem .bool))),.val false .u64,.val false .u64,.val false .u64,.val false .u64,.val false .u64,.val false .u64,.val false .u64,.val false .u64,.val false .bool,.val false .u64,.val false .u64,.val false .u64,.val false .u64,.val false .u64,.val false .u64,.val false .u64,.val false .u64,.val false .bool])],1,true⟩
abbrev iJ:Type:=((Int)×Unit)×(((Int)×(Int)×(List ((aa×(aa×Bool))))×(UInt64)×(UInt64)×(UInt64)×(UInt64)×(UInt64)×(UInt64)×(UInt64)×(UInt64)×(Bool)×(UInt64)×(UInt64)×(UInt64)×(UInt64)×(UInt64)×(UInt64)×(UInt64)×(UInt64)×(Bool)×Unit)×Unit)
def m9:Shape:=⟨19,[],[(0,.cells [.val false .int,.val false .int,.val false (.list (.prod .elem (.prod .elem .bool))),.val false .u64,.val false .u64,.val false .u64,.val false .u64,.val false .u64,.val false .u64,.val false .u64,.val false .u64,.val false .bool,.val false .u64,.val false .u64,.val false .u64,.val false .u64,.val false .u64,.val false .u64,.val false .u64,.val false .u64,.val false .bool])],1,true⟩
abbrev iK:Type:=(Unit)×(((Int)×(Int)×(List ((aa×(aa×Bool))))×(UInt64)×(UInt64)×(UInt64)×(UInt64)×(UInt64)×(UInt64)×(UInt64)×(UInt64)×(Bool)×(UInt64)×(UInt64)×(UInt64)×(UInt64)×(UInt64)×(UInt64)×(UInt64)×(UInt64)×(Bool)×Unit)×Unit)
def Qi:SE->Option Shape:=fC [(0,m9)] (some m8)
def amt (a0:List ((aa×(aa×Bool)))) (a7:Int) (a8:Int) (c0_0:Int) (c0_1:Int) (c0_2:List ((aa×(aa×Bool)))) (c0_3:UInt64) (c0_4:UInt64) (c0_5:UInt64) (c0_6:UInt64) (c0_7:UInt64) (c0_8:UInt64) (c0_9:UInt64) (c0_10:UInt64) (c0_11:Bool) (c0_12:UInt64) (c0_13:UInt64) (c0_14:UInt64) (c0_15:UInt64) (c0_16:UInt64) (c0_17:UInt64) (c0_18:UInt64) (c0_19:UInt64) (c0_20:Bool):OT (Sum bc aE):=
 let z0:aa:= {w0:=0,w1:=0,w2:=0,w3:=0}
 (.br (decide (a8<a7))
 (gd [inB a8 (List.length a0)] (.br (MK c0_0 (List.getD a0 (Int.toNat a8) (z0,z0,false)))
  (.ok (.inr ⟨(.ret,m8),((a8,()),((c0_0,(c0_1,(c0_2,(c0_3,(c0_4,(c0_5,(c0_6,(c0_7,(c0_8,(c0_9,(c0_10,(c0_11,(c0_12,(c0_13,(c0_14,(c0_15,(c0_16,(c0_17,(c0_18,(c0_19,(c0_20,()))))))))))))))))))))),()))⟩))
  (gd [inR (a8+(1:Int))] (.ok (.inl ((a0,((),(a7,(a8+(1:Int),())))),((c0_0,(c0_1,(c0_2,(c0_3,(c0_4,(c0_5,(c0_6,(c0_7,(c0_8,(c0_9,(c0_10,(c0_11,(c0_12,(c0_13,(c0_14,(c0_15,(c0_16,(c0_17,(c0_18,(c0_19,(c0_20,()))))))))))))))))))))),())))))))
 (.ok (.inr ⟨(.exit 0,m9),((),((c0_0,(c0_1,(c0_2,(c0_3,(c0_4,(c0_5,(c0_6,(c0_7,(c0_8,(c0_9,(c0_10,(c0_11,(c0_12,(c0_13,(c0_14,(c0_15,(c0_16,(c0_17,(c0_18,(c0_19,(c0_20,()))))))))))))))))))))),()))⟩)))
def oO (s:bc):OT (Sum bc aE):=amt (s.1.1) (s.1.2.2.1) (s.1.2.2.2.1) (s.2.1.1) (s.2.1.2.1) (s.2.1.2.2.1) (s.2.1.2.2.2.1) (s.2.1.2.2.2.2.1) (s.2.1.2.2.2.2.2.1) (s.2.1.2.2.2.2.2.2.1) (s.2.1.2.2.2.2.2.2.2.1) (s.2.1.2.2.2.2.2.2.2.2.1) (s.2.1.2.2.2.2.2.2.2.2.2.1) (s.2.1.2.2.2.2.2.2.2.2.2.2.1) (s.2.1.2.2.2.2.2.2.2.2.2.2.2.1) (s.2.1.2.2.2.2.2.2.2.2.2.2.2.2.1) (s.2.1.2.2.2.2.2.2.2.2.2.2.2.2.2.1) (s.2.1.2.2.2.2.2.2.2.2.2.2.2.2.2.2.1) (s.2.1.2.2.2.2.2.2.2.2.2.2.2.2.2.2.2.1) (s.2.1.2.2.2.2.2.2.2.2.2.2.2.2.2.2.2.2.1) (s.2.1.2.2.2.2.2.2.2.2.2.2.2.2.2.2.2.2.2.1) (s.2.1.2.2.2.2.2.2.2.2.2.2.2.2.2.2.2.2.2.2.1) (s.2.1.2.2.2.2.2.2.2.2.2.2.2.2.2.2.2.2.2.2.2.1) (s.2.1.2.2.2.2.2.2.2.2.2.2.2.2.2.2.2.2.2.2.2.2.1)
theorem amq (s:bc) (Q:Sum bc aE->Prop):wps te xg av 1000 (aU (aj Tryz.f112) 0) (oN.inj s) (bY oN Qi (Q:Sum oN.T aE->Prop))=(oO s).wpR Q:=by kernel_rfl
def vL (g0_r:bc->iJ) (c0_r:bc->Bool) (g0_0:bc->iK) (s:bc):OT aE:=(.br (c0_r s) (.ok ⟨(.ret,m8),g0_r s⟩) (.ok ⟨(.exit 0,m9),g0_0 s⟩))
def jA:az:=⟨[.val false .int],[(0,.cells [.val false .int,.val false .int,.val false (.list (.prod .elem (.prod .elem .bool))),.val false .u64,.val false .u64,.val false .u64,.val false .u64,.val false .u64,.val false .u64,.val false .u64,.val false .u64,.val false .bool,.val false .u64,.val false .u64,.val false .u64,.val false .u64,.val false .u64,.val false .u64,.val false .u64,.val false .u64,.val false .bool])],false⟩
def Kj:SV->Option az:=λ_=>some jA
def Km (ok0:bc->Bool) (g0_r:bc->iJ) (c0_r:bc->Bool) (g0_0:bc->iK) (a0:List ((aa×(aa×Bool)))) (c0_0:Int) (c0_1:Int) (c0_2:List ((aa×(aa×Bool)))) (c0_3:UInt64) (c0_4:UInt64) (c0_5:UInt64) (c0_6:UInt64) (c0_7:UInt64) (c0_8:UInt64) (c0_9:UInt64) (c0_10:UInt64) (c0_11:Bool) (c0_12:UInt64) (c0_13:UInt64) (c0_14:UInt64) (c0_15:UInt64) (c0_16:UInt64) (c0_17:UInt64) (c0_18:UInt64) (c0_19:UInt64) (c0_20:Bool):OT fc.Y:=
 let z0:(List (aa×aa×Bool)×PUnit×Int×Int×PUnit)×(Int×Int×List (aa×aa×Bool)×UInt64×UInt64×UInt64×UInt64×UInt64×UInt64×UInt64×UInt64×Bool×UInt64×UInt64×UInt64×UInt64×UInt64×UInt64×UInt64×UInt64×Bool×PUnit)×PUnit:=((a0,(),(↑(List.length a0):Int),(0:Int),()),(c0_0,c0_1,c0_2,c0_3,c0_4,c0_5,c0_6,c0_7,c0_8,c0_9,c0_10,c0_11,c0_12,c0_13,c0_14,c0_15,c0_16,c0_17,c0_18,c0_19,c0_20,()),())
 let z1:(Int×PUnit)×(Int×Int×List (aa×aa×Bool)×UInt64×UInt64×UInt64×UInt64×UInt64×UInt64×UInt64×UInt64×Bool×UInt64×UInt64×UInt64×UInt64×UInt64×UInt64×UInt64×UInt64×Bool×PUnit)×PUnit:=g0_r z0
 let z2:=z1.snd.fst
 let z3:=z2.snd
 let z4:=z3.snd
 let z5:=z4.snd
 let z6:=z5.snd
 let z7:=z6.snd
 let z8:=z7.snd
 let z9:=z8.snd
 let z10:=z9.snd
 let z11:=z10.snd
 let z12:=z11.snd
 let z13:=z12.snd
 let z14:=z13.snd
 let z15:=z14.snd
 let z16:=z15.snd
 let z17:=z16.snd
 let z18:=z17.snd
 let z19:=z18.snd
 let z20:=z19.snd
 let z21:=z20.snd
 let z22:=(g0_0 z0).snd.fst
 let z23:=z22.snd
 let z24:=z23.snd
 let z25:=z24.snd
 let z26:=z25.snd
 let z27:=z26.snd
 let z28:=z27.snd
 let z29:=z28.snd
 let z30:=z29.snd
 let z31:=z30.snd
 let z32:=z31.snd
 let z33:=z32.snd
 let z34:=z33.snd
 let z35:=z34.snd
 let z36:=z35.snd
 let z37:=z36.snd
 let z38:=z37.snd
 let z39:=z38.snd
 let z40:=z39.snd
 let z41:=z40.snd
 (gd [ok0 z0] (.br (c0_r z0)
 (.ok ⟨jA,((z1.fst.fst,()),((z2.fst,(z3.fst,(z4.fst,(z5.fst,(z6.fst,(z7.fst,(z8.fst,(z9.fst,(z10.fst,(z11.fst,(z12.fst,(z13.fst,(z14.fst,(z15.fst,(z16.fst,(z17.fst,(z18.fst,(z19.fst,(z20.fst,(z21.fst,(z21.snd.fst,()))))))))))))))))))))),()))⟩)
 (.ok ⟨jA,(((-1:Int),()),((z22.fst,(z23.fst,(z24.fst,(z25.fst,(z26.fst,(z27.fst,(z28.fst,(z29.fst,(z30.fst,(z31.fst,(z32.fst,(z33.fst,(z34.fst,(z35.fst,(z36.fst,(z37.fst,(z38.fst,(z39.fst,(z40.fst,(z41.fst,(z41.snd.fst,()))))))))))))))))))))),()))⟩)))
theorem as1 (ok0:bc->Bool) (g0_r:bc->iJ) (c0_r:bc->Bool) (g0_0:bc->iK) (x:vM) (Q:fc.Y->Prop):wpf te xg (aO 0 (cl oN 0 ok0 (vL g0_r c0_r g0_0)) av) 1000 Tryz.f112 (fc.inp.inj x).tm (fc.inp.inj x).hp (fnK fc Kj Q) (λ_ _=>False)=(Km ok0 g0_r c0_r g0_0 (x.1.1) (x.2.1.1) (x.2.1.2.1) (x.2.1.2.2.1) (x.2.1.2.2.2.1) (x.2.1.2.2.2.2.1) (x.2.1.2.2.2.2.2.1) (x.2.1.2.2.2.2.2.2.1) (x.2.1.2.2.2.2.2.2.2.1) (x.2.1.2.2.2.2.2.2.2.2.1) (x.2.1.2.2.2.2.2.2.2.2.2.1) (x.2.1.2.2.2.2.2.2.2.2.2.2.1) (x.2.1.2.2.2.2.2.2.2.2.2.2.2.1) (x.2.1.2.2.2.2.2.2.2.2.2.2.2.2.1) (x.2.1.2.2.2.2.2.2.2.2.2.2.2.2.2.1) (x.2.1.2.2.2.2.2.2.2.2.2.2.2.2.2.2.1) (x.2.1.2.2.2.2.2.2.2.2.2.2.2.2.2.2.2.1) (x.2.1.2.2.2.2.2.2.2.2.2.2.2.2.2.2.2.2.1) (x.2.1.2.2.2.2.2.2.2.2.2.2.2.2.2.2.2.2.2.1) (x.2.1.2.2.2.2.2.2.2.2.2.2.2.2.2.2.2.2.2.2.1) (x.2.1.2.2.2.2.2.2.2.2.2.2.2.2.2.2.2.2.2.2.2.1) (x.2.1.2.2.2.2.2.2.2.2.2.2.2.2.2.2.2.2.2.2.2.2.1)).wpR Q:=by kernel_rfl
theorem XX (ok0:bc->Bool) (g0_r:bc->iJ) (c0_r:bc->Bool) (g0_0:bc->iK) (h0:∀ s:bc,ok0 s=true->∃ m e,al (oO) m s=some e/\(vL g0_r c0_r g0_0 s).run=some e) (pre:vM->Bool) (F:vM->OT fc.Y) (hF:∀ (x:vM) oy,pre x=true->(F x).run=some oy->(Km ok0 g0_r c0_r g0_0 (x.1.1) (x.2.1.1) (x.2.1.2.1) (x.2.1.2.2.1) (x.2.1.2.2.2.1) (x.2.1.2.2.2.2.1) (x.2.1.2.2.2.2.2.1) (x.2.1.2.2.2.2.2.2.1) (x.2.1.2.2.2.2.2.2.2.1) (x.2.1.2.2.2.2.2.2.2.2.1) (x.2.1.2.2.2.2.2.2.2.2.2.1) (x.2.1.2.2.2.2.2.2.2.2.2.2.1) (x.2.1.2.2.2.2.2.2.2.2.2.2.2.1) (x.2.1.2.2.2.2.2.2.2.2.2.2.2.2.1) (x.2.1.2.2.2.2.2.2.2.2.2.2.2.2.2.1) (x.2.1.2.2.2.2.2.2.2.2.2.2.2.2.2.2.1) (x.2.1.2.2.2.2.2.2.2.2.2.2.2.2.2.2.2.1) (x.2.1.2.2.2.2.2.2.2.2.2.2.2.2.2.2.2.2.1) (x.2.1.2.2.2.2.2.2.2.2.2.2.2.2.2.2.2.2.2.1) (x.2.1.2.2.2.2.2.2.2.2.2.2.2.2.2.2.2.2.2.2.1) (x.2.1.2.2.2.2.2.2.2.2.2.2.2.2.2.2.2.2.2.2.2.1) (x.2.1.2.2.2.2.2.2.2.2.2.2.2.2.2.2.2.2.2.2.2.2.1)).run=some oy):ac Tryz.prog 112 (fc.aI pre F):=
 aD ar rF Ha (f:=112) (fn:=Tryz.f112) (c:=aj Tryz.f112) (by kernel_rfl) (by kernel_rfl) (by kernel_rfl) (S:=fc) (k:=1) (by kernel_rfl) (λR hR=>(aB (c:=(aj Tryz.f112)) (by kernel_rfl) (id:=0) (by kernel_rfl) (aR ar rF Ha (sh:=oN) hR (xs:=Qi) (aC (by kernel_rfl) (by kernel_rfl) hR) aL af (n:=1000) (T:=oO) (λs Q=>amq s Q) (ok:=ok0) (f:=vL g0_r c0_r g0_0) h0) af)) (n:=1000) (sel:=Kj) (λv o h=>by cases h;rfl) (pre:=pre) (F:=F) (T:=λx=>Km ok0 g0_r c0_r g0_0 (x.1.1) (x.2.1.1) (x.2.1.2.1) (x.2.1.2.2.1) (x.2.1.2.2.2.1) (x.2.1.2.2.2.2.1) (x.2.1.2.2.2.2.2.1) (x.2.1.2.2.2.2.2.2.1) (x.2.1.2.2.2.2.2.2.2.1) (x.2.1.2.2.2.2.2.2.2.2.1) (x.2.1.2.2.2.2.2.2.2.2.2.1) (x.2.1.2.2.2.2.2.2.2.2.2.2.1) (x.2.1.2.2.2.2.2.2.2.2.2.2.2.1) (x.2.1.2.2.2.2.2.2.2.2.2.2.2.2.1) (x.2.1.2.2.2.2.2.2.2.2.2.2.2.2.2.1) (x.2.1.2.2.2.2.2.2.2.2.2.2.2.2.2.2.1) (x.2.1.2.2.2.2.2.2.2.2.2.2.2.2.2.2.2.1) (x.2.1.2.2.2.2.2.2.2.2.2.2.2.2.2.2.2.2.1) (x.2.1.2.2.2.2.2.2.2.2.2.2.2.2.2.2.2.2.2.1) (x.2.1.2.2.2.2.2.2.2.2.2.2.2.2.2.2.2.2.2.2.1) (x.2.1.2.2.2.2.2.2.2.2.2.2.2.2.2.2.2.2.2.2.2.1) (x.2.1.2.2.2.2.2.2.2.2.2.2.2.2.2.2.2.2.2.2.2.2.1)) (λx Q=>as1 ok0 g0_r c0_r g0_0 x Q) hF
def tM (l:List Pt) (i:aCr):Nat->Nat->Int
 |0,_=> -1
 |n+1,k=>cond (MK i.1 (l.getD k OH)) (k:Int) (tM l i n (k+1))
def Kk (s:bc):Bool:=decide (s.1.2.2.1=(s.1.1.length:Int)/\s.1.2.2.2.1=0/\s.1.1.length<=140737488355328)
def kt (l:List Pt) (i:aCr):Int:=tM l i l.length 0
def Kl (s:bc):iJ:=((kt s.1.1 s.2.1,()),s.2)
def Qk (s:bc):Bool:=decide (0<=kt s.1.1 s.2.1)
def Qj (s:bc):iK:=((),s.2)
def Kn (l:List Pt) (i:aCr) (k:Int):bc:=((l,(),(l.length:Int),k,()),(i,()))
theorem QZ (l:List Pt) (i:aCr):∀ n k,tM l i n k= -1\/0<=tM l i n k
 |0,_=>.inl rfl
 |n+1,k=>by
  unfold tM
  cases MK i.1 (l.getD k OH)
  ·exact QZ l i n (k+1)
  ·right
   show (0:Int)<=(k:Int)
   omega
theorem XZ (l:List Pt) (i:aCr) (hl:l.length<=140737488355328):∀ n k:Nat,k+n=l.length->
 ∃ m,al oO m (Kn l i (k:Int))=some (cond (decide (0<=tM l i n k)) ⟨(.ret,m8),((tM l i n k,()),(i,()))⟩ ⟨(.exit 0,m9),((),(i,()))⟩)
 |0,k,h=>⟨1,aM (OT.aq (decide_eq_false (by dsimp only [Kn];omega)))⟩
 |n+1,k,h=>by
  have hin:inB (k:Int) l.length=true:=aN (by omega)
  have hgd:∀ z:OT (Sum bc aE),(gd [inB (k:Int) l.length] z).run=z.run:=λz=>ah (by rw [hin];rfl)
  unfold tM
  rcases (Bool.eq_false_or_eq_true (MK i.1 (l.getD k OH))).symm with hb|hb
  ·obtain ⟨m,hm⟩:=XZ l i hl n (k+1) (by omega)
   rw [hb]
   refine ⟨m+1,aF ?_ hm⟩
   refine (OT.ao (decide_eq_true (by dsimp only [Kn];omega))).trans ((hgd _).trans ((OT.aq hb).trans ((ah ?_).trans rfl)))
   simp only [List.all_cons,List.all_nil,Bool.and_true]
   exact aH (by dsimp only [Kn];omega)
  ·rw [hb]
   have e:decide ((0:Int)<=cond true (k:Int) (tM l i n (k+1)))=true:=decide_eq_true (by show (0:Int)<=(k:Int);omega)
   rw [e]
   refine ⟨1,aM ?_⟩
   exact (OT.ao (decide_eq_true (by dsimp only [Kn];omega))).trans ((hgd _).trans ((OT.ao hb).trans rfl))
theorem ams:∀ s:bc,Kk s=true->∃ m e,al oO m s=some e/\(vL Kl Qk Qj s).run=some e:=by
 rintro ⟨⟨l,⟨⟩,n,k,⟨⟩⟩,⟨i,⟨⟩⟩⟩ h
 have h':=of_decide_eq_true h
 dsimp only at h'
 obtain ⟨rfl,rfl,hl⟩:=h'
 obtain ⟨m,hm⟩:=XZ l i hl l.length 0 (by omega)
 refine ⟨m,_,hm,?_⟩
 show (OT.br (decide (0<=kt l i)) _ _:OT aE).run=some (cond (decide (0<=kt l i)) _ _)
 cases decide (0<=kt l i)<;>rfl
def yK (x:vM):Bool:=decide (x.1.1.length<=140737488355328)
def XY (x:vM):OT fc.Y:=.ok ⟨jA,((kt x.1.1 x.2.1,()),x.2)⟩
theorem amr:ac Tryz.prog 112 (fc.aI yK XY):=XX Kk Kl Qk Qj ams _ _ λx oy hp ho=>by
 rw [<-ho]
 clear ho
 obtain ⟨⟨l,⟨⟩,⟨⟩⟩,⟨i,⟨⟩⟩⟩:=x
 have hl:l.length<=140737488355328:=of_decide_eq_true hp
 refine (ah ?_).trans ?_
 ·simp only [List.all_cons,List.all_nil,Bool.and_true]
  exact decide_eq_true ⟨rfl,rfl,hl⟩
 ·show (OT.br (decide (0<=kt l i)) (.ok ⟨jA,((kt l i,()),(i,()))⟩) (.ok ⟨jA,(((-1:Int),()),(i,()))⟩):OT fc.Y).run=some ⟨jA,((kt l i,()),(i,()))⟩
  rcases QZ l i l.length 0 with h|h
  ·have h:kt l i= -1:=h
   rw [h]
   rfl
  ·exact OT.ao (decide_eq_true h)
def s9:cn:=(fc.aI yK XY)
theorem Tz:ac Tryz.prog 112 s9:=amr
theorem Tx:aG s9:=aA
def uH:Env:=ay 112 s9 xg
theorem uG:aQ Tryz.prog uH:=ag Tz rF
theorem xU:ax uH:=ae Tx CO
theorem VG:aW Tryz.prog te uH:=aJ follows ar uG xU
def iM:aw:=⟨[.val false (.list (.prod .elem (.prod .elem .bool))),.fn 71 [0]],[(0,aJf)],false,1,true⟩
abbrev EA:Type:=((List ((aa×(aa×Bool))))×(Unit)×Unit)×(((Int)×(Int)×(List ((aa×(aa×Bool))))×(UInt64)×(UInt64)×(UInt64)×(UInt64)×(UInt64)×(UInt64)×(UInt64)×(UInt64)×(Bool)×(UInt64)×(UInt64)×(UInt64)×(UInt64)×(UInt64)×(UInt64)×(UInt64)×(UInt64)×(Bool)×Unit)×Unit)
def Ku:az:=⟨[.val false .bool],[(0,.cells [.val false .int,.val false .int,.val false (.list (.prod .elem (.prod .elem .bool))),.val false .u64,.val false .u64,.val false .u64,.val false .u64,.val false .u64,.val false .u64,.val false .u64,.val false .u64,.val false .bool,.val false .u64,.val false .u64,.val false .u64,.val false .u64,.val false .u64,.val false .u64,.val false .u64,.val false .u64,.val false .bool])],false⟩
def Qn:SV->Option az:=λ_=>some Ku
def TC (a0:List ((aa×(aa×Bool)))) (c0_0:Int) (c0_1:Int) (c0_2:List ((aa×(aa×Bool)))) (c0_3:UInt64) (c0_4:UInt64) (c0_5:UInt64) (c0_6:UInt64) (c0_7:UInt64) (c0_8:UInt64) (c0_9:UInt64) (c0_10:UInt64) (c0_11:Bool) (c0_12:UInt64) (c0_13:UInt64) (c0_14:UInt64) (c0_15:UInt64) (c0_16:UInt64) (c0_17:UInt64) (c0_18:UInt64) (c0_19:UInt64) (c0_20:Bool):OT iM.Y:=
 let z0:Int×Int×List (aa×aa×Bool)×UInt64×UInt64×UInt64×UInt64×UInt64×UInt64×UInt64×UInt64×Bool×UInt64×UInt64×UInt64×UInt64×UInt64×UInt64×UInt64×UInt64×Bool×PUnit:=(c0_0,c0_1,c0_2,c0_3,c0_4,c0_5,c0_6,c0_7,c0_8,c0_9,c0_10,c0_11,c0_12,c0_13,c0_14,c0_15,c0_16,c0_17,c0_18,c0_19,c0_20,())
 (gd [yK ((a0,(),()),z0,())] (.ok ⟨Ku,((decide ((0:Int)<=kt a0 z0),()),((c0_0,(c0_1,(c0_2,(c0_3,(c0_4,(c0_5,(c0_6,(c0_7,(c0_8,(c0_9,(c0_10,(c0_11,(c0_12,(c0_13,(c0_14,(c0_15,(c0_16,(c0_17,(c0_18,(c0_19,(c0_20,()))))))))))))))))))))),()))⟩))
theorem azH (x:EA) (Q:iM.Y->Prop):wpf te uH av 1000 Tryz.f72 (iM.inp.inj x).tm (iM.inp.inj x).hp (fnK iM Qn Q) (λ_ _=>False)=(TC (x.1.1) (x.2.1.1) (x.2.1.2.1) (x.2.1.2.2.1) (x.2.1.2.2.2.1) (x.2.1.2.2.2.2.1) (x.2.1.2.2.2.2.2.1) (x.2.1.2.2.2.2.2.2.1) (x.2.1.2.2.2.2.2.2.2.1) (x.2.1.2.2.2.2.2.2.2.2.1) (x.2.1.2.2.2.2.2.2.2.2.2.1) (x.2.1.2.2.2.2.2.2.2.2.2.2.1) (x.2.1.2.2.2.2.2.2.2.2.2.2.2.1) (x.2.1.2.2.2.2.2.2.2.2.2.2.2.2.1) (x.2.1.2.2.2.2.2.2.2.2.2.2.2.2.2.1) (x.2.1.2.2.2.2.2.2.2.2.2.2.2.2.2.2.1) (x.2.1.2.2.2.2.2.2.2.2.2.2.2.2.2.2.2.1) (x.2.1.2.2.2.2.2.2.2.2.2.2.2.2.2.2.2.2.1) (x.2.1.2.2.2.2.2.2.2.2.2.2.2.2.2.2.2.2.2.1) (x.2.1.2.2.2.2.2.2.2.2.2.2.2.2.2.2.2.2.2.2.1) (x.2.1.2.2.2.2.2.2.2.2.2.2.2.2.2.2.2.2.2.2.2.1) (x.2.1.2.2.2.2.2.2.2.2.2.2.2.2.2.2.2.2.2.2.2.2.1)).wpR Q:=by kernel_rfl
theorem adg (pre:EA->Bool) (F:EA->OT iM.Y) (hF:∀ (x:EA) oy,pre x=true->(F x).run=some oy->(TC (x.1.1) (x.2.1.1) (x.2.1.2.1) (x.2.1.2.2.1) (x.2.1.2.2.2.1) (x.2.1.2.2.2.2.1) (x.2.1.2.2.2.2.2.1) (x.2.1.2.2.2.2.2.2.1) (x.2.1.2.2.2.2.2.2.2.1) (x.2.1.2.2.2.2.2.2.2.2.1) (x.2.1.2.2.2.2.2.2.2.2.2.1) (x.2.1.2.2.2.2.2.2.2.2.2.2.1) (x.2.1.2.2.2.2.2.2.2.2.2.2.2.1) (x.2.1.2.2.2.2.2.2.2.2.2.2.2.2.1) (x.2.1.2.2.2.2.2.2.2.2.2.2.2.2.2.1) (x.2.1.2.2.2.2.2.2.2.2.2.2.2.2.2.2.1) (x.2.1.2.2.2.2.2.2.2.2.2.2.2.2.2.2.2.1) (x.2.1.2.2.2.2.2.2.2.2.2.2.2.2.2.2.2.2.1) (x.2.1.2.2.2.2.2.2.2.2.2.2.2.2.2.2.2.2.2.1) (x.2.1.2.2.2.2.2.2.2.2.2.2.2.2.2.2.2.2.2.2.1) (x.2.1.2.2.2.2.2.2.2.2.2.2.2.2.2.2.2.2.2.2.2.1) (x.2.1.2.2.2.2.2.2.2.2.2.2.2.2.2.2.2.2.2.2.2.2.1)).run=some oy):ac Tryz.prog 72 (iM.aI pre F):=
 aD ar uG VG (f:=72) (fn:=Tryz.f72) (c:=aj Tryz.f72) (by kernel_rfl) (by kernel_rfl) (by kernel_rfl) (S:=iM) (k:=1) (by kernel_rfl) (λR hR=>af) (n:=1000) (sel:=Qn) (λv o h=>by cases h;rfl) (pre:=pre) (F:=F) (T:=λx=>TC (x.1.1) (x.2.1.1) (x.2.1.2.1) (x.2.1.2.2.1) (x.2.1.2.2.2.1) (x.2.1.2.2.2.2.1) (x.2.1.2.2.2.2.2.1) (x.2.1.2.2.2.2.2.2.1) (x.2.1.2.2.2.2.2.2.2.1) (x.2.1.2.2.2.2.2.2.2.2.1) (x.2.1.2.2.2.2.2.2.2.2.2.1) (x.2.1.2.2.2.2.2.2.2.2.2.2.1) (x.2.1.2.2.2.2.2.2.2.2.2.2.2.1) (x.2.1.2.2.2.2.2.2.2.2.2.2.2.2.1) (x.2.1.2.2.2.2.2.2.2.2.2.2.2.2.2.1) (x.2.1.2.2.2.2.2.2.2.2.2.2.2.2.2.2.1) (x.2.1.2.2.2.2.2.2.2.2.2.2.2.2.2.2.2.1) (x.2.1.2.2.2.2.2.2.2.2.2.2.2.2.2.2.2.2.1) (x.2.1.2.2.2.2.2.2.2.2.2.2.2.2.2.2.2.2.2.1) (x.2.1.2.2.2.2.2.2.2.2.2.2.2.2.2.2.2.2.2.2.1) (x.2.1.2.2.2.2.2.2.2.2.2.2.2.2.2.2.2.2.2.2.2.1) (x.2.1.2.2.2.2.2.2.2.2.2.2.2.2.2.2.2.2.2.2.2.2.1)) (λx Q=>azH x Q) hF
def awj (l:List Pt) (i:aCr):Bool:=decide (0<=kt l i)
def Ez (x:EA):Bool:=decide (x.1.1.length<=140737488355328)
def aiT (x:EA):OT iM.Y:=.ok ⟨Ku,((awj x.1.1 x.2.1,()),x.2)⟩
theorem as4:ac Tryz.prog 72 (iM.aI Ez aiT):=adg _ _ λx oy hp ho=>by
 rw [<-ho]
 clear ho
 refine (ah ?_).trans rfl
 simp only [List.all_cons,List.all_nil,Bool.and_true]
 exact hp
def yM:cn:=(iM.aI Ez aiT)
theorem X4:ac Tryz.prog 72 yM:=as4
theorem X3:aG yM:=aA
def CV:Env:=ay 72 yM uH
theorem zF:aQ Tryz.prog CV:=ag X4 uG
theorem CU:ax CV:=ae X3 xU
theorem aaM:aW Tryz.prog te CV:=aJ follows ar zF CU
def gN:aw:=⟨[.val true aGO],[],true,0,false⟩
abbrev ED:Type:=(((Int×(Int×(List ((aa×(aa×Bool)))×((aa×(aa×Bool))×(aa×(aa×Bool)))))))×Unit)×(Unit)
def fT:az:=⟨[.val false .int],[],false⟩
def Qp:SV->Option az:=λ_=>some fT
def Bi (a0:(Int×(Int×(List ((aa×(aa×Bool)))×((aa×(aa×Bool))×(aa×(aa×Bool))))))):OT gN.Y:=
 let z0:Int×Int×List (aa×aa×Bool)×UInt64×UInt64×UInt64×UInt64×UInt64×UInt64×UInt64×UInt64×Bool×UInt64×UInt64×UInt64×UInt64×UInt64×UInt64×UInt64×UInt64×Bool×PUnit:=(a0.fst,a0.snd.fst,a0.snd.snd.fst,a0.snd.snd.snd.fst.fst.w0,a0.snd.snd.snd.fst.fst.w1,a0.snd.snd.snd.fst.fst.w2,a0.snd.snd.snd.fst.fst.w3,a0.snd.snd.snd.fst.snd.fst.w0,a0.snd.snd.snd.fst.snd.fst.w1,a0.snd.snd.snd.fst.snd.fst.w2,a0.snd.snd.snd.fst.snd.fst.w3,a0.snd.snd.snd.fst.snd.snd,a0.snd.snd.snd.snd.fst.w0,a0.snd.snd.snd.snd.fst.w1,a0.snd.snd.snd.snd.fst.w2,a0.snd.snd.snd.snd.fst.w3,a0.snd.snd.snd.snd.snd.fst.w0,a0.snd.snd.snd.snd.snd.fst.w1,a0.snd.snd.snd.snd.snd.fst.w2,a0.snd.snd.snd.snd.snd.fst.w3,a0.snd.snd.snd.snd.snd.snd,())
 (.br (ap a0.fst)
 (.br (decide (a0.snd.fst<(0:Int)))
  (.ok ⟨fT,(((60:Int),()),())⟩)
  (.br (decide ((5:Int)<a0.snd.fst))
   (.ok ⟨fT,(((60:Int),()),())⟩)
   (gd [decide ((0:Int)<=a0.snd.fst)] (.br (!(↑(List.length a0.snd.snd.fst):Int)==VW (1:Int) a0.snd.fst)
    (.ok ⟨fT,(((90:Int),()),())⟩)
    (gd [Ez ((a0.snd.snd.fst,(),()),z0,())] (.br (awj a0.snd.snd.fst z0)
     (.ok ⟨fT,(((90:Int),()),())⟩)
     (.br (MK a0.fst a0.snd.snd.snd.fst)
      (.ok ⟨fT,(((90:Int),()),())⟩)
      (.br (MK a0.fst a0.snd.snd.snd.snd)
       (.ok ⟨fT,(((90:Int),()),())⟩)
       (.ok ⟨fT,(((0:Int),()),())⟩)))))))))
 (.ok ⟨fT,(((40:Int),()),())⟩))
theorem azM (x:ED) (Q:gN.Y->Prop):wpf te CV av 1000 Tryz.f35 (gN.inp.inj x).tm (gN.inp.inj x).hp (fnK gN Qp Q) (λ_ _=>False)=(Bi (x.1.1)).wpR Q:=by kernel_rfl
theorem adj (pre:ED->Bool) (F:ED->OT gN.Y) (hF:∀ (x:ED) oy,pre x=true->(F x).run=some oy->(Bi (x.1.1)).run=some oy):ac Tryz.prog 35 (gN.aI pre F):=
 aD ar zF aaM (f:=35) (fn:=Tryz.f35) (c:=aj Tryz.f35) (by kernel_rfl) (by kernel_rfl) (by kernel_rfl) (S:=gN) (k:=0) (by kernel_rfl) (λR hR=>af) (n:=1000) (sel:=Qp) (λv o h=>by cases h;rfl) (pre:=pre) (F:=F) (T:=λx=>Bi (x.1.1)) (λx Q=>azM x Q) hF
abbrev aBt:Type:=Int×(Int×(List Pt×(Pt×Pt)))
theorem akS (l:List Pt) (i:aCr):∀ n k:Nat,k+n=l.length->decide (0<=tM l i n k)=(l.drop k).any (MK i.1)
 |0,k,h=>by
  rw [List.drop_eq_nil_of_le (by omega)]
  rfl
 |n+1,k,h=>by
  have hk:k<l.length:=by omega
  have e1:l.drop k=l[k]::l.drop (k+1):=List.drop_eq_getElem_cons hk
  have e3:l.getD k OH=l[k]:=by rw [List.getD_eq_getElem?_getD,List.getElem?_eq_getElem hk];rfl
  rw [e1,List.any_cons]
  unfold tM
  rw [e3]
  cases MK i.1 l[k]
  ·rw [cond_false,Bool.false_or]
   exact akS l i n (k+1) (by omega)
  ·rw [cond_true,Bool.true_or]
   exact decide_eq_true (by omega)
theorem aGH (l:List Pt) (i:aCr):awj l i=l.any (MK i.1):=akS l i l.length 0 (by omega)
def je (p:aBt):Int:=cond (ap p.1) (cond (decide (p.2.1<0)) 60 (cond (decide (5<p.2.1)) 60 (cond (!((p.2.2.1.length:Int)==VW 1 p.2.1)) 90 (cond (p.2.2.1.any (MK p.1)) 90 (cond (MK p.1 p.2.2.2.1) 90 (cond (MK p.1 p.2.2.2.2) 90 0)))))) 40
def k6 (x:ED):Bool:=decide (x.1.1.2.2.1.length<=140737488355328)
def aiU (x:ED):OT gN.Y:=.ok ⟨fT,((je x.1.1,()),())⟩
theorem ata:ac Tryz.prog 35 (gN.aI k6 aiU):=adj _ _ λx oy hp ho=>by
 rw [<-ho]
 clear ho
 obtain ⟨⟨p,⟨⟩⟩,⟨⟩⟩:=x
 show (Bi p).run=some (⟨fT,((je p,()),())⟩:gN.Y)
 have hp:decide (p.2.2.1.length<=140737488355328)=true:=hp
 unfold Bi je
 simp only [aGH]
 rcases (Bool.eq_false_or_eq_true (ap p.1)).symm with h1|h1
 ·rw [h1];exact (OT.aq rfl).trans rfl
 ·rw [h1]
  refine (OT.ao rfl).trans ?_
  by_cases h2:p.2.1<0
  ·rw [decide_eq_true h2];exact (OT.ao rfl).trans rfl
  ·rw [decide_eq_false h2]
   refine (OT.aq rfl).trans ?_
   by_cases h3:5<p.2.1
   ·rw [decide_eq_true h3];exact (OT.ao rfl).trans rfl
   ·rw [decide_eq_false h3]
    refine (OT.aq rfl).trans ((ah (by rw [decide_eq_true (show 0<=p.2.1 by omega)];rfl)).trans ?_)
    rcases (Bool.eq_false_or_eq_true (!((p.2.2.1.length:Int)==VW 1 p.2.1))).symm with h4|h4
    ·rw [h4]
     refine (OT.aq rfl).trans ((ah ?_).trans ?_)
     ·simp only [List.all_cons,List.all_nil,Bool.and_true]
      exact hp
     ·rcases (Bool.eq_false_or_eq_true (p.2.2.1.any (MK p.1))).symm with h5|h5
      ·rw [h5]
       refine (OT.aq rfl).trans ?_
       rcases (Bool.eq_false_or_eq_true (MK p.1 p.2.2.2.1)).symm with h6|h6
       ·rw [h6]
        refine (OT.aq rfl).trans ?_
        rcases (Bool.eq_false_or_eq_true (MK p.1 p.2.2.2.2)).symm with h7|h7
        ·rw [h7];exact (OT.aq rfl).trans rfl
        ·rw [h7];exact (OT.ao rfl).trans rfl
       ·rw [h6];exact (OT.ao rfl).trans rfl
      ·rw [h5];exact (OT.ao rfl).trans rfl
    ·rw [h4];exact (OT.ao rfl).trans rfl
def yP:cn:=(gN.aI k6 aiU)
theorem X8:ac Tryz.prog 35 yP:=ata
theorem X7:aG yP:=aA
def xi:Env:=ay 35 yP CV
theorem rH:aQ Tryz.prog xi:=ag X8 zF
theorem CW:ax xi:=ae X7 CU
theorem He:aW Tryz.prog te xi:=aJ follows ar rH CW
def lY:aw:=⟨[.val false (.list (.prod .elem (.prod .elem .bool))),.val false (.list (.prod .elem (.prod .elem .bool)))],[],true,0,false⟩
abbrev Qg:Type:=((List ((aa×(aa×Bool))))×(List ((aa×(aa×Bool))))×Unit)×(Unit)
def Ba:Shape:=⟨26,[(0,.val false (.list (.prod .elem (.prod .elem .bool)))),(1,.val false (.list (.prod .elem (.prod .elem .bool)))),(5,.val false .int)],[],0,true⟩
abbrev bK:Type:=((List ((aa×(aa×Bool))))×(List ((aa×(aa×Bool))))×(Int)×Unit)×(Unit)
def vH:Shape:=⟨26,[(4,.val false .bool)],[],0,true⟩
abbrev lW:Type:=((Bool)×Unit)×(Unit)
def vI:Shape:=⟨26,[],[],0,true⟩
abbrev lX:Type:=(Unit)×(Unit)
def aiQ:SE->Option Shape:=fC [(0,vI)] (some vH)
def azB (a0:List ((aa×(aa×Bool)))) (a1:List ((aa×(aa×Bool)))) (a5:Int):OT (Sum bK aE):=
 let z0:Nat:=List.length a0
 let z1:Nat:=Int.toNat a5
 let z2:aa:= {w0:=0,w1:=0,w2:=0,w3:=0}
 let z3:aa×aa×Bool:=(z2,z2,false)
 let z4:aa×aa×Bool:=List.getD a0 z1 z3
 let z5:=z4.fst
 let z6:aa×aa×Bool:=List.getD a1 z1 z3
 let z7:=z6.fst
 let z8:=z4.snd
 let z9:=z8.fst
 let z10:=z6.snd
 let z11:=z10.fst
 (.br (decide (a5<(↑z0:Int)))
 (gd [inB a5 z0,inB a5 (List.length a1)] (.br (!(z5.w0==z7.w0&&(z5.w1==z7.w1&&(z5.w2==z7.w2&&(z5.w3==z7.w3&&true)))&&(z9.w0==z11.w0&&(z9.w1==z11.w1&&(z9.w2==z11.w2&&(z9.w3==z11.w3&&true)))&&(z8.snd==z10.snd&&true))))
  (.ok (.inr ⟨(.ret,vH),((false,()),())⟩))
  (gd [inR (a5+(1:Int))] (.ok (.inl ((a0,(a1,(a5+(1:Int),()))),()))))))
 (.ok (.inr ⟨(.exit 0,vI),((),())⟩)))
def Bc (s:bK):OT (Sum bK aE):=azB (s.1.1) (s.1.2.1) (s.1.2.2.1)
theorem azy (s:bK) (Q:Sum bK aE->Prop):wps te xi av 1000 (aU (aj Tryz.f70) 0) (Ba.inj s) (bY Ba aiQ (Q:Sum Ba.T aE->Prop))=(Bc s).wpR Q:=by kernel_rfl
def vG (g0_r:bK->lW) (c0_r:bK->Bool) (g0_0:bK->lX) (s:bK):OT aE:=(.br (c0_r s) (.ok ⟨(.ret,vH),g0_r s⟩) (.ok ⟨(.exit 0,vI),g0_0 s⟩))
def Bb:az:=⟨[.val false .bool],[],false⟩
def XQ:SV->Option az:=λ_=>some Bb
def ada (ok0:bK->Bool) (g0_r:bK->lW) (c0_r:bK->Bool) (g0_0:bK->lX) (a0:List ((aa×(aa×Bool)))) (a1:List ((aa×(aa×Bool)))):OT lY.Y:=
 let z0:(List (aa×aa×Bool)×List (aa×aa×Bool)×Int×PUnit)×PUnit:=((a0,a1,(0:Int),()),())
 (.br (!(↑(List.length a0):Int)==(↑(List.length a1):Int))
 (.ok ⟨Bb,((false,()),())⟩)
 (gd [ok0 z0] (.br (c0_r z0)
  (.ok ⟨Bb,(((g0_r z0).fst.fst,()),())⟩)
  (.ok ⟨Bb,((true,()),())⟩))))
theorem aEW (ok0:bK->Bool) (g0_r:bK->lW) (c0_r:bK->Bool) (g0_0:bK->lX) (x:Qg) (Q:lY.Y->Prop):wpf te xi (aO 0 (cl Ba 0 ok0 (vG g0_r c0_r g0_0)) av) 1000 Tryz.f70 (lY.inp.inj x).tm (lY.inp.inj x).hp (fnK lY XQ Q) (λ_ _=>False)=(ada ok0 g0_r c0_r g0_0 (x.1.1) (x.1.2.1)).wpR Q:=by kernel_rfl
theorem aml (ok0:bK->Bool) (g0_r:bK->lW) (c0_r:bK->Bool) (g0_0:bK->lX) (h0:∀ s:bK,ok0 s=true->∃ m e,al (Bc) m s=some e/\(vG g0_r c0_r g0_0 s).run=some e) (pre:Qg->Bool) (F:Qg->OT lY.Y) (hF:∀ (x:Qg) oy,pre x=true->(F x).run=some oy->(ada ok0 g0_r c0_r g0_0 (x.1.1) (x.1.2.1)).run=some oy):ac Tryz.prog 70 (lY.aI pre F):=
 aD ar rH He (f:=70) (fn:=Tryz.f70) (c:=aj Tryz.f70) (by kernel_rfl) (by kernel_rfl) (by kernel_rfl) (S:=lY) (k:=0) (by kernel_rfl) (λR hR=>(aB (c:=(aj Tryz.f70)) (by kernel_rfl) (id:=0) (by kernel_rfl) (aR ar rH He (sh:=Ba) hR (xs:=aiQ) (aC (by kernel_rfl) (by kernel_rfl) hR) aL af (n:=1000) (T:=Bc) (λs Q=>azy s Q) (ok:=ok0) (f:=vG g0_r c0_r g0_0) h0) af)) (n:=1000) (sel:=XQ) (λv o h=>by cases h;rfl) (pre:=pre) (F:=F) (T:=λx=>ada ok0 g0_r c0_r g0_0 (x.1.1) (x.1.2.1)) (λx Q=>aEW ok0 g0_r c0_r g0_0 x Q) hF
def aCd (a b:Pt):Bool:=(a.1.w0==b.1.w0&&(a.1.w1==b.1.w1&&(a.1.w2==b.1.w2&&(a.1.w3==b.1.w3&&true)))&&(a.2.1.w0==b.2.1.w0&&(a.2.1.w1==b.2.1.w1&&(a.2.1.w2==b.2.1.w2&&(a.2.1.w3==b.2.1.w3&&true)))&&(a.2.2==b.2.2&&true)))
theorem Iq {a b:Pt}:aCd a b=true ↔ a=b:=by
 obtain ⟨⟨a0,a1,a2,a3⟩,⟨a4,a5,a6,a7⟩,a8⟩:=a
 obtain ⟨⟨b0,b1,b2,b3⟩,⟨b4,b5,b6,b7⟩,b8⟩:=b
 simp only [aCd,Bool.and_eq_true,beq_iff_eq,and_true,Prod.mk.injEq,aa.mk.injEq]
def XR (s:bK):Bool:=decide (s.1.2.2.1=0/\s.1.1.length=s.1.2.1.length/\s.1.1.length<=140737488355328)
def XS (_:bK):lW:=((false,()),())
def vJ (s:bK):Bool:= !decide (s.1.1=s.1.2.1)
def aiR (_:bK):lX:=((),())
theorem Qf {a b:List Pt} (hab:a.length=b.length) (hl:a.length<=140737488355328):∀ d i,i+d=a.length->
 ∃ m,al Bc m ((a,b,(i:Int),()),())=some (cond (decide (a.drop i=b.drop i)) ⟨(.exit 0,vI),((),())⟩ ⟨(.ret,vH),((false,()),())⟩)
 |0,i,h=>by
  refine ⟨1,?_⟩
  have h1:a.drop i= []:=List.drop_eq_nil_of_le (by omega)
  have h2:b.drop i= []:=List.drop_eq_nil_of_le (by omega)
  rw [h1,h2,decide_eq_true rfl]
  exact aM (OT.aq (decide_eq_false (by dsimp only;omega)))
 |d+1,i,h=>by
  have hi:i<a.length:=by omega
  have hi':i<b.length:=by omega
  have e1:a.drop i=a[i]::a.drop (i+1):=List.drop_eq_getElem_cons hi
  have e2:b.drop i=b[i]::b.drop (i+1):=List.drop_eq_getElem_cons hi'
  have g1:a.getD i OH=a[i]:=by rw [List.getD_eq_getElem?_getD,List.getElem?_eq_getElem hi];rfl
  have g2:b.getD i OH=b[i]:=by rw [List.getD_eq_getElem?_getD,List.getElem?_eq_getElem hi'];rfl
  have hg:∀ x:OT (Sum bK aE),(gd [inB (i:Int) a.length,inB (i:Int) b.length] x).run=x.run:=λx=>ah (by simp only [List.all_cons,List.all_nil,Bool.and_true,Bool.and_eq_true];exact ⟨aN (by omega),aN (by omega)⟩)
  by_cases hx:a[i]=b[i]
  ·obtain ⟨m,hm⟩:=Qf hab hl d (i+1) (by omega)
   refine ⟨m+1,aF (s':=((a,b,((i+1:Nat):Int),()),())) ?_ ?_⟩
   ·refine (OT.ao (decide_eq_true (by dsimp only;omega))).trans ((hg _).trans ((OT.aq ?_).trans ((ah ?_).trans rfl)))
    ·show (!aCd (a.getD i OH) (b.getD i OH))=false
     rw [g1,g2,hx,Iq.2 rfl]
     rfl
    ·simp only [List.all_cons,List.all_nil,Bool.and_true]
     exact aH (by omega)
   ·rw [hm,e1,e2,hx]
    simp only [List.cons.injEq,true_and]
  ·refine ⟨1,?_⟩
   have:decide (a.drop i=b.drop i)=false:=decide_eq_false (by rw [e1,e2];intro h;exact hx (List.cons.inj h).1)
   rw [this]
   refine aM ((OT.ao (decide_eq_true (by dsimp only;omega))).trans ((hg _).trans ((OT.ao ?_).trans rfl)))
   show (!aCd (a.getD i OH) (b.getD i OH))=true
   rw [g1,g2]
   cases hq:aCd a[i] b[i]
   ·rfl
   ·exact absurd (Iq.1 hq) hx
theorem azA:∀ s:bK,XR s=true->∃ m e,al Bc m s=some e/\(vG XS vJ aiR s).run=some e:=by
 rintro ⟨⟨a,b,i,⟨⟩⟩,⟨⟩⟩ h
 have h':=of_decide_eq_true h
 dsimp only at h'
 obtain ⟨rfl,hab,hl⟩:=h'
 obtain ⟨m,hm⟩:=Qf hab hl a.length 0 (by omega)
 refine ⟨m,_,hm,?_⟩
 simp only [List.drop_zero]
 by_cases hx:a=b
 ·simp only [vG,vJ,hx,decide_true,Bool.not_true]
  rfl
 ·have:decide (a=b)=false:=decide_eq_false hx
  simp only [vG,vJ,this,Bool.not_false]
  rfl
def Kf (x:Qg):Bool:=decide (x.1.1.length<=140737488355328)
def Kg (x:Qg):OT lY.Y:=.ok ⟨Bb,((decide (x.1.1=x.1.2.1),()),())⟩
theorem azz:ac Tryz.prog 70 (lY.aI Kf Kg):=aml XR XS vJ aiR azA _ _ λx oy hp ho=>by
 rw [<-ho]
 clear ho
 obtain ⟨⟨a,b,⟨⟩⟩,⟨⟩⟩:=x
 have hp':a.length<=140737488355328:=of_decide_eq_true hp
 by_cases hab:a.length=b.length
 ·refine (OT.aq (by simp [hab])).trans ((ah ?_).trans ?_)
  ·simp only [List.all_cons,List.all_nil,Bool.and_true]
   exact decide_eq_true ⟨rfl,hab,hp'⟩
  ·by_cases hx:a=b
   ·refine (OT.aq (by simp [vJ,hx])).trans ?_
    simp only [Kg,hx,decide_true]
   ·refine (OT.ao (by simp [vJ,hx])).trans ?_
    have:decide (a=b)=false:=decide_eq_false hx
    simp only [Kg,this]
    rfl
 ·refine (OT.ao (by simp;omega)).trans ?_
  have:decide (a=b)=false:=decide_eq_false λe=>hab (by rw [e])
  simp only [Kg,this]
def Et:cn:=(lY.aI Kf Kg)
theorem ac9:ac Tryz.prog 70 Et:=azz
theorem ac8:aG Et:=aA
def Nk:Env:=ay 70 Et xi
theorem FX:aQ Tryz.prog Nk:=ag ac9 rH
theorem Hc:ax Nk:=ae ac8 CW
theorem afC:aW Tryz.prog te Nk:=aJ follows ar FX Hc
def gM:aw:=⟨[.val true aGO,.val true aGO],[],true,0,false⟩
abbrev Es:Type:=(((Int×(Int×(List ((aa×(aa×Bool)))×((aa×(aa×Bool))×(aa×(aa×Bool)))))))×((Int×(Int×(List ((aa×(aa×Bool)))×((aa×(aa×Bool))×(aa×(aa×Bool)))))))×Unit)×(Unit)
def j7:az:=⟨[.val false .bool],[],false⟩
def Qe:SV->Option az:=λ_=>some j7
def A9 (a0:(Int×(Int×(List ((aa×(aa×Bool)))×((aa×(aa×Bool))×(aa×(aa×Bool))))))) (a1:(Int×(Int×(List ((aa×(aa×Bool)))×((aa×(aa×Bool))×(aa×(aa×Bool))))))):OT gM.Y:=
 (.br (a0.fst==a1.fst)
 (.br (a0.snd.fst==a1.snd.fst)
  (gd [Kf ((a0.snd.snd.fst,a1.snd.snd.fst,()),())] (.br (decide (a0.snd.snd.fst=a1.snd.snd.fst))
   (.br (a0.snd.snd.snd.fst.fst.w0==a1.snd.snd.snd.fst.fst.w0&&(a0.snd.snd.snd.fst.fst.w1==a1.snd.snd.snd.fst.fst.w1&&(a0.snd.snd.snd.fst.fst.w2==a1.snd.snd.snd.fst.fst.w2&&(a0.snd.snd.snd.fst.fst.w3==a1.snd.snd.snd.fst.fst.w3&&true)))&&(a0.snd.snd.snd.fst.snd.fst.w0==a1.snd.snd.snd.fst.snd.fst.w0&&(a0.snd.snd.snd.fst.snd.fst.w1==a1.snd.snd.snd.fst.snd.fst.w1&&(a0.snd.snd.snd.fst.snd.fst.w2==a1.snd.snd.snd.fst.snd.fst.w2&&(a0.snd.snd.snd.fst.snd.fst.w3==a1.snd.snd.snd.fst.snd.fst.w3&&true)))&&(a0.snd.snd.snd.fst.snd.snd==a1.snd.snd.snd.fst.snd.snd&&true)))
    (.ok ⟨j7,((a0.snd.snd.snd.snd.fst.w0==a1.snd.snd.snd.snd.fst.w0&&(a0.snd.snd.snd.snd.fst.w1==a1.snd.snd.snd.snd.fst.w1&&(a0.snd.snd.snd.snd.fst.w2==a1.snd.snd.snd.snd.fst.w2&&(a0.snd.snd.snd.snd.fst.w3==a1.snd.snd.snd.snd.fst.w3&&true)))&&(a0.snd.snd.snd.snd.snd.fst.w0==a1.snd.snd.snd.snd.snd.fst.w0&&(a0.snd.snd.snd.snd.snd.fst.w1==a1.snd.snd.snd.snd.snd.fst.w1&&(a0.snd.snd.snd.snd.snd.fst.w2==a1.snd.snd.snd.snd.snd.fst.w2&&(a0.snd.snd.snd.snd.snd.fst.w3==a1.snd.snd.snd.snd.snd.fst.w3&&true)))&&(a0.snd.snd.snd.snd.snd.snd==a1.snd.snd.snd.snd.snd.snd&&true)),()),())⟩)
    (.ok ⟨j7,((false,()),())⟩))
   (.ok ⟨j7,((false,()),())⟩)))
  (.ok ⟨j7,((false,()),())⟩))
 (.ok ⟨j7,((false,()),())⟩))
theorem azx (x:Es) (Q:gM.Y->Prop):wpf te Nk av 1000 Tryz.f34 (gM.inp.inj x).tm (gM.inp.inj x).hp (fnK gM Qe Q) (λ_ _=>False)=(A9 (x.1.1) (x.1.2.1)).wpR Q:=by kernel_rfl
theorem ac7 (pre:Es->Bool) (F:Es->OT gM.Y) (hF:∀ (x:Es) oy,pre x=true->(F x).run=some oy->(A9 (x.1.1) (x.1.2.1)).run=some oy):ac Tryz.prog 34 (gM.aI pre F):=
 aD ar FX afC (f:=34) (fn:=Tryz.f34) (c:=aj Tryz.f34) (by kernel_rfl) (by kernel_rfl) (by kernel_rfl) (S:=gM) (k:=0) (by kernel_rfl) (λR hR=>af) (n:=1000) (sel:=Qe) (λv o h=>by cases h;rfl) (pre:=pre) (F:=F) (T:=λx=>A9 (x.1.1) (x.1.2.1)) (λx Q=>azx x Q) hF
def abL (p q:aBt):Bool:=cond (p.1==q.1) (cond (p.2.1==q.2.1) (cond (decide (p.2.2.1=q.2.2.1)) (cond (aCd p.2.2.2.1 q.2.2.2.1) (aCd p.2.2.2.2 q.2.2.2.2) false) false) false) false
theorem alj (p:aBt):abL p p=true:=by
 unfold abL
 rw [beq_self_eq_true,beq_self_eq_true,decide_eq_true rfl,Iq.2 rfl,Iq.2 rfl]
 rfl
def vF (x:Es):Bool:=decide (x.1.1.2.2.1.length<=140737488355328)
def aiP (x:Es):OT gM.Y:=.ok ⟨j7,((abL x.1.1 x.1.2.1,()),())⟩
theorem asU:ac Tryz.prog 34 (gM.aI vF aiP):=ac7 _ _ λx oy hp ho=>by
 rw [<-ho]
 clear ho
 obtain ⟨⟨p,q,⟨⟩⟩,⟨⟩⟩:=x
 have hp:decide (p.2.2.1.length<=140737488355328)=true:=hp
 show (A9 p q).run=some (⟨j7,((abL p q,()),())⟩:gM.Y)
 unfold A9 abL
 rcases (Bool.eq_false_or_eq_true (p.1==q.1)).symm with h1|h1
 ·rw [h1];exact (OT.aq rfl).trans rfl
 ·rw [h1]
  refine (OT.ao rfl).trans ?_
  rcases (Bool.eq_false_or_eq_true (p.2.1==q.2.1)).symm with h2|h2
  ·rw [h2];exact (OT.aq rfl).trans rfl
  ·rw [h2]
   refine (OT.ao rfl).trans ((ah ?_).trans ?_)
   ·simp only [List.all_cons,List.all_nil,Bool.and_true]
    exact hp
   ·rcases (Bool.eq_false_or_eq_true (decide (p.2.2.1=q.2.2.1))).symm with h3|h3
    ·rw [h3];exact (OT.aq rfl).trans rfl
    ·rw [h3]
     refine (OT.ao rfl).trans ?_
     rcases (Bool.eq_false_or_eq_true (aCd p.2.2.2.1 q.2.2.2.1)).symm with h4|h4
     ·rw [h4];exact (OT.aq h4).trans rfl
     ·rw [h4];exact (OT.ao h4).trans rfl
def yJ:cn:=(gM.aI vF aiP)
theorem XP:ac Tryz.prog 34 yJ:=asU
theorem XO:aG yJ:=aA
def xh:Env:=ay 34 yJ Nk
theorem rG:aQ Tryz.prog xh:=ag XP FX
theorem CS:ax xh:=ae XO Hc
theorem Hb:aW Tryz.prog te xh:=aJ follows ar rG CS
end Go.Proofs.YtohjofabochgfaaGreat
