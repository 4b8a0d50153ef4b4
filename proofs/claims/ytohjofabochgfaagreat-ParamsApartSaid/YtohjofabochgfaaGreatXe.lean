/- A symbolic machine for Go code over plain data, and functions of the program as it shows them. No statement is proved in this file. -/
import Derived.KernelRfl
import Derived.Test.YtohjofabochgfaaGreatXd
set_option linter.unusedSimpArgs false
set_option linter.unusedVariables false
set_option linter.unusedSectionVars false

namespace Go.Proofs.YtohjofabochgfaaGreat
theorem Ki {α:Type} [BEq α] [LawfulBEq α]:∀ {l1 l2:List α},l1.Nodup->(∀ x ∈ l1,x ∈ l2)->l2.length<=l1.length->l1.Perm l2
 | [],l2,_,_,h=>by
  have:l2= []:=List.length_eq_zero_iff.1 (Nat.le_zero.1 h)
  rw [this]
 |a::t,l2,hn,hs,hl=>by
  have ha:a ∈ l2:=hs a (List.mem_cons_self ..)
  have hp:l2.Perm (a::l2.erase a):=List.perm_cons_erase ha
  rw [List.nodup_cons] at hn
  have hl2:=List.length_erase_of_mem ha
  have hpos:0<l2.length:=List.length_pos_of_mem ha
  have ih:t.Perm (l2.erase a):=Ki hn.2 (λx hx=>by
   have hne:x≠a:=λe=>hn.1 (e▸hx)
   exact (List.mem_erase_of_ne hne).2 (hs x (List.mem_cons_of_mem _ hx))) (by rw [List.length_cons] at hl;omega)
  exact (ih.cons a).trans hp.symm
def Pr (p:Nat):Prop:=2<=p/\∀ d,d∣p->d=1\/d=p
theorem Pr.pos {p:Nat} (h:Pr p):0<p:=by have:=h.1;omega
theorem Pr.cop {p a:Nat} (h:Pr p) (ha:¬p∣a):Nat.Coprime p a:=by
 rcases h.2 (Nat.gcd p a) (Nat.gcd_dvd_left ..) with e|e
 ·exact e
 ·exact absurd (e▸Nat.gcd_dvd_right p a) ha
theorem Pr.ajU {p a b:Nat} (h:Pr p) (hd:p∣a*b):p∣a\/p∣b:=by
 by_cases ha:p∣a
 ·exact .inl ha
 ·exact .inr ((h.cop ha).dvd_of_dvd_mul_left hd)
def xk:List Nat->Nat
 | []=>1
 |a::l=>a*xk l
theorem al7 {l1 l2:List Nat} (h:l1.Perm l2):xk l1=xk l2:=by
 induction h with
 |nil=>rfl
 |cons x _ ih=>simp only [xk,ih]
 |swap x y l=>simp only [xk];rw [<-Nat.mul_assoc,<-Nat.mul_assoc,Nat.mul_comm x y]
 |trans _ _ a b=>exact a.trans b
theorem XF (p a:Nat):∀ l:List Nat,xk (l.map λx=>a*x%p)%p=a^l.length*xk l%p
 | []=>by simp [xk]
 |x::l=>by
  have ih:=XF p a l
  simp only [List.map_cons,xk,List.length_cons]
  rw [Nat.mul_mod,Nat.mod_mod,ih,<-Nat.mul_mod,Nat.pow_succ]
  congr 1
  rw [Nat.mul_assoc,Nat.mul_assoc,Nat.mul_left_comm x]
  rw [Nat.mul_left_comm a]
theorem XE {p:Nat} (h:Pr p):∀ l:List Nat,(∀ x ∈ l,¬p∣x)->¬p∣xk l
 | [],_,hd=>by
  have:=Nat.le_of_dvd (by decide) hd
  have:=h.1
  simp only [xk] at*
  omega
 |x::l,hx,hd=>by
  rcases h.ajU hd with h1|h1
  ·exact hx x (List.mem_cons_self ..) h1
  ·exact XE h l (λy hy=>hx y (List.mem_cons_of_mem _ hy)) h1
theorem amK {p a b:Nat} (hab:a<=b) (h:a%p=b%p):p∣b-a:=by
 have h1:=Nat.div_add_mod a p
 have h2:=Nat.div_add_mod b p
 refine ⟨b/p-a/p,?_⟩
 rw [Nat.mul_sub]
 omega
theorem qJ {p x:Nat} (h0:0<x) (h1:x<p):¬p∣x:=λh=>by
 have:=Nat.le_of_dvd h0 h
 omega
theorem atG {p a:Nat} (h:Pr p) (ha:¬p∣a) {x y:Nat} (hx:x<p) (hy:y<p) (e:a*x%p=a*y%p):x=y:=by
 have aux:∀ {x y:Nat},x<p->y<p->x<=y->a*x%p=a*y%p->x=y:=λ{x y} hx hy hxy e=>by
  have hd:=amK (Nat.mul_le_mul_left a hxy) e
  rw [<-Nat.mul_sub] at hd
  rcases h.ajU hd with h1|h1
  ·exact absurd h1 ha
  ·by_cases h0:y-x=0
   ·omega
   ·exact absurd h1 (qJ (by omega) (by omega))
 rcases Nat.le_total x y with hxy|hxy
 ·exact aux hx hy hxy e
 ·exact (aux hy hx hxy e.symm).symm
theorem Gv {α β:Type} {f:α->β}:∀ {l:List α},l.Nodup->(∀ x ∈ l,∀ y ∈ l,f x=f y->x=y)->(l.map f).Nodup
 | [],_,_=>List.nodup_nil
 |a::l,hn,hi=>by
  rw [List.nodup_cons] at hn
  rw [List.map_cons,List.nodup_cons]
  refine ⟨λhm=> ?_,Gv hn.2 λx hx y hy=>hi x (List.mem_cons_of_mem _ hx) y (List.mem_cons_of_mem _ hy)⟩
  obtain ⟨b,hb,e⟩:=List.mem_map.1 hm
  have:=hi a (List.mem_cons_self ..) b (List.mem_cons_of_mem _ hb) e.symm
  exact hn.1 (this▸hb)
theorem aus {p a:Nat} (h:Pr p) (ha:¬p∣a):a^(p-1)%p=1:=by
 have hp:=h.1
 have hn:(List.range' 1 (p-1)).Nodup:=List.nodup_range' ..
 have hm:((List.range' 1 (p-1)).map λx=>a*x%p).Nodup:=Gv hn λx hx y hy e=>by
  rw [List.mem_range'_1] at hx hy
  exact atG h ha (by omega) (by omega) e
 have hperm:=Ki (l2:=List.range' 1 (p-1)) hm (λy hy=>by
  obtain ⟨x,hx,rfl⟩:=List.mem_map.1 hy
  rw [List.mem_range'_1] at hx⊢
  have hlt:=Nat.mod_lt (a*x) h.pos
  have hne:a*x%p≠0:=λe=>by
   rcases h.ajU (Nat.dvd_of_mod_eq_zero e) with h1|h1
   ·exact ha h1
   ·exact qJ (by omega) (by omega) h1
  omega) (by rw [List.length_map];exact Nat.le_refl _)
 have e:=XF p a (List.range' 1 (p-1))
 rw [al7 hperm,List.length_range'] at e
 have hnot:¬p∣xk (List.range' 1 (p-1)):=XE h _ λx hx=>by
  rw [List.mem_range'_1] at hx
  exact qJ (by omega) (by omega)
 have hmul:∀ z,z*xk (List.range' 1 (p-1))%p=xk (List.range' 1 (p-1))*(z%p)%p:=λz=>by
  rw [Nat.mul_comm,Nat.mul_mod_mod]
 rw [hmul] at e
 have e1:xk (List.range' 1 (p-1))%p=xk (List.range' 1 (p-1))*1%p:=by rw [Nat.mul_one]
 rw [e1] at e
 exact (atG h hnot (by omega) (Nat.mod_lt _ h.pos) e).symm
theorem K3:∀ (k n:Nat),2<=n->n<=k->∃ r,Pr r/\r∣n
 |0,n,h2,hk=>by omega
 |k+1,n,h2,hk=>by
  by_cases hp:Pr n
  ·exact ⟨n,hp,Nat.dvd_refl _⟩
  ·have:∃ d,d∣n/\d≠1/\d≠n:=by
    apply Classical.byContradiction
    intro hc
    refine hp ⟨h2,λd hd=> ?_⟩
    apply Classical.byContradiction
    intro hd2
    exact hc ⟨d,hd,λe=>hd2 (.inl e),λe=>hd2 (.inr e)⟩
   obtain ⟨d,hd,h1,h3⟩:=this
   have hle:=Nat.le_of_dvd (by omega) hd
   have h0:d≠0:=λe=>by subst e;have:=Nat.eq_zero_of_zero_dvd hd;omega
   obtain ⟨r,hr,hrd⟩:=K3 k d (by omega) (by omega)
   exact ⟨r,hr,Nat.dvd_trans hrd hd⟩
theorem V9 {n:Nat} (h2:2<=n) (hp:¬Pr n):∃ r,Pr r/\r∣n/\r*r<=n:=by
 have:∃ d,d∣n/\d≠1/\d≠n:=by
  apply Classical.byContradiction
  intro hc
  refine hp ⟨h2,λd hd=> ?_⟩
  apply Classical.byContradiction
  intro hd2
  exact hc ⟨d,hd,λe=>hd2 (.inl e),λe=>hd2 (.inr e)⟩
 obtain ⟨d,⟨e,rfl⟩,h1,h3⟩:=this
 have hd0:d≠0:=λe'=>by subst e';omega
 have he0:e≠0:=λe'=>by subst e';omega
 have he1:e≠1:=λe'=>by subst e';omega
 rcases Nat.le_total d e with hde|hde
 ·obtain ⟨r,hr,hrd⟩:=K3 d d (by omega) (Nat.le_refl _)
  have hle:=Nat.le_of_dvd (by omega) hrd
  exact ⟨r,hr,Nat.dvd_trans hrd (Nat.dvd_mul_right ..),Nat.le_trans (Nat.mul_le_mul hle hle) (Nat.mul_le_mul_left d hde)⟩
 ·obtain ⟨r,hr,hrd⟩:=K3 e e (by omega) (Nat.le_refl _)
  have hle:=Nat.le_of_dvd (by omega) hrd
  exact ⟨r,hr,Nat.dvd_trans hrd (Nat.dvd_mul_left ..),Nat.le_trans (Nat.mul_le_mul hle hle) (Nat.mul_le_mul_right e hde)⟩
theorem aEN {r a:Nat} (hr:2<=r) (m k:Nat):a^m%r=1->a^k%r=1->a^Nat.gcd m k%r=1:=by
 induction m,k using Nat.gcd.induction with
 |H0 n=>intro _ h;rw [Nat.gcd_zero_left];exact h
 |H1 m n hm ih=>
  intro h1 h2
  rw [Nat.gcd_rec]
  refine ih ?_ h1
  have e:a^n%r=a^(n%m)%r:=by
   conv=>lhs;rw [<-Nat.div_add_mod n m,Nat.pow_add,Nat.pow_mul,Nat.mul_mod,Nat.pow_mod,h1,Nat.one_pow,Nat.mod_eq_of_lt (show 1<r by omega),Nat.one_mul,Nat.mod_mod]
  rw [<-e]
  exact h2
theorem azv {n q e a m:Nat} (hn2:2<=n) (hq:Pr q) (he:n-1=q^(e+1)*m) (h1:a^(n-1)%n=1) (h2:Nat.gcd (a^(q^e*m)%n+n-1) n=1)
 {r:Nat} (hr:Pr r) (hd:r∣n):q^(e+1)∣r-1:=by
 have hr2:=hr.1
 have ha1:a^(n-1)%r=1:=by
  have:=congrArg (· %r) h1
  simp only [Nat.mod_mod_of_dvd _ hd] at this
  rw [this,Nat.mod_eq_of_lt (by omega)]
 have hna:¬r∣a:=λh=>by
  have:r∣a^(n-1):=Nat.dvd_trans h (by
   have:=Nat.pow_dvd_pow a (show 1<=n-1 by omega)
   rwa [Nat.pow_one] at this)
  rw [Nat.mod_eq_zero_of_dvd this] at ha1
  omega
 have hg:=aEN hr2 _ _ ha1 (aus hr hna)
 obtain ⟨h,hh⟩:=Nat.gcd_dvd_left (n-1) (r-1)
 by_cases hqh:q∣h
 ·obtain ⟨k,rfl⟩:=hqh
  have hk:q^e*m=Nat.gcd (n-1) (r-1)*k:=by
   have:q*(q^e*m)=q*(Nat.gcd (n-1) (r-1)*k):=by
    rw [<-Nat.mul_assoc,<-Nat.pow_succ',<-he,Nat.mul_left_comm q,<-hh]
   exact Nat.eq_of_mul_eq_mul_left hq.pos this
  have hone:a^(q^e*m)%r=1:=by
   rw [hk,Nat.pow_mul,Nat.pow_mod,hg,Nat.one_pow,Nat.mod_eq_of_lt (by omega)]
  have hmn:a^(q^e*m)%n%r=1:=by rw [Nat.mod_mod_of_dvd _ hd,hone]
  have hdv:r∣a^(q^e*m)%n+n-1:=by
   obtain ⟨c,rfl⟩:=hd
   have:=Nat.div_add_mod (a^(q^e*m)%(r*c)) r
   refine ⟨a^(q^e*m)%(r*c)/r+c,?_⟩
   rw [Nat.mul_add]
   omega
  have:=Nat.dvd_gcd hdv hd
  rw [h2] at this
  have:=Nat.le_of_dvd (by decide) this
  omega
 ·have hc:Nat.Coprime (q^(e+1)) h:=Nat.Coprime.pow_left _ (hq.cop hqh)
  have hdg:q^(e+1)∣Nat.gcd (n-1) (r-1)*h:=by rw [<-hh,he];exact Nat.dvd_mul_right ..
  exact Nat.dvd_trans (hc.dvd_of_dvd_mul_right hdg) (Nat.gcd_dvd_right ..)
theorem azw {n F:Nat} (h2:2<=n) (hF:n<F*F) (h:∀ r,Pr r->r∣n->F∣r-1):Pr n:=by
 apply Classical.byContradiction
 intro hp
 obtain ⟨r,hr,hd,hle⟩:=V9 h2 hp
 have h1:=hr.1
 have:=Nat.le_of_dvd (by omega) (h r hr hd)
 have:F*F<=r*r:=Nat.mul_le_mul (by omega) (by omega)
 omega
def YJ {α:Type} (n:Nat) (f:Nat->α):α:=match n with
 |0=>f 0
 |k+1=>f (k+1)
theorem YI {α:Type} (n:Nat) (f:Nat->α):YJ n f=f n:=by cases n<;>rfl
def pw (n:Nat):Nat->Nat->Nat->Nat->Nat
 |0,o,_,_=>o
 |f+1,o,x,k=>YJ k λk=>cond (Nat.beq k 0) o (YJ (x*x%n) λy=>YJ (cond (Nat.beq (k%2) 1) (o*x%n) o) λo=>pw n f o y (k/2))
theorem aEL {p:Nat}:∀ (n o x k:Nat),k<2^n->o<p->pw p n o x k=o*x^k%p
 |0,o,x,k,hk,ho=>by
  have:k=0:=by omega
  subst this
  show o=_
  rw [Nat.pow_zero,Nat.mul_one,Nat.mod_eq_of_lt ho]
 |n+1,o,x,k,hk,ho=>by
  unfold pw
  simp only [YI]
  rw [Nat.pow_succ] at hk
  cases h0:Nat.beq k 0
  ·simp only [cond_false]
   have hsq:(x*x%p)^(k/2)%p=x^(2*(k/2))%p:=by
    rw [<-Nat.pow_mod,Nat.pow_mul,Nat.pow_two]
   cases h1:Nat.beq (k%2) 1
   ·have h1':¬k%2=1:=λe=>by rw [e] at h1;cases h1
    simp only [cond_false]
    rw [aEL n _ _ _ (by omega) ho,Nat.mul_mod,hsq,<-Nat.mul_mod,show 2*(k/2)=k by omega]
   ·have h1:=Nat.eq_of_beq_eq_true h1
    simp only [cond_true]
    rw [aEL n _ _ _ (by omega) (Nat.mod_lt _ (by omega)),Nat.mul_mod,hsq,Nat.mod_mod,<-Nat.mul_mod,Nat.mul_assoc,<-Nat.pow_succ',show (2*(k/2)).succ=k by omega]
  ·have h0:=Nat.eq_of_beq_eq_true h0
   subst h0
   simp only [cond_true]
   rw [Nat.pow_zero,Nat.mul_one,Nat.mod_eq_of_lt ho]
def pwm (n a k:Nat):Nat:=pw n 256 1 (a%n) k
theorem aiB {n:Nat} (hn:2<=n) {a k:Nat} (hk:Nat.blt k (2^256)=true):pwm n a k=a^k%n:=by
 have hk':k<2^256:=Nat.le_of_ble_eq_true hk
 unfold pwm
 rw [aEL 256 1 _ _ hk' (by omega),Nat.one_mul,<-Nat.pow_mod]
def aHG (n q e a m:Nat):Bool:=Nat.beq (n-1) (q^(e+1)*m)&&(Nat.blt n (2^256)&&(Nat.beq (pwm n a (n-1)) 1&&Nat.beq (Nat.gcd (pwm n a (q^e*m)+n-1) n) 1))
theorem fC {n q e a m:Nat} (h2:2<=n) (hq:Pr q) (h:aHG n q e a m=true) {r:Nat} (hr:Pr r) (hd:r∣n):q^(e+1)∣r-1:=by
 simp only [aHG,Bool.and_eq_true] at h
 obtain ⟨h1,h3,h4,h5⟩:=h
 have h1:=Nat.eq_of_beq_eq_true h1
 have h3:n<2^256:=Nat.le_of_ble_eq_true h3
 have hm:q^e*m<=n-1:=by
  rw [h1,Nat.pow_succ,Nat.mul_right_comm]
  exact Nat.le_mul_of_pos_right _ hq.pos
 rw [aiB h2 (Nat.ble_eq_true_of_le (show n-1+1<=2^256 by omega))] at h4
 rw [aiB h2 (Nat.ble_eq_true_of_le (show q^e*m+1<=2^256 by omega))] at h5
 exact azv h2 hq h1 (Nat.eq_of_beq_eq_true h4) (Nat.eq_of_beq_eq_true h5) hr hd
def aIR (n:Nat):Nat->Nat->Bool
 |0,_=>false
 |f+1,d=>YJ d λd=>cond (Nat.blt n (d*d)) true (cond (Nat.beq (n%d) 0) false (aIR n f (d+1)))
theorem apr {n:Nat}:∀ (f d:Nat),aIR n f d=true->0<d->(∀ x,1<x->x<d->¬x∣n)->∀ x,1<x->x*x<=n->¬x∣n
 |0,d,h,_,_=>by cases h
 |f+1,d,h,hd0,hb=>by
  unfold aIR at h
  rw [YI] at h
  cases h1:Nat.blt n (d*d)
  ·rw [h1] at h
   cases h2:Nat.beq (n%d) 0
   ·rw [h2] at h
    refine apr f (d+1) h (by omega) λx hx hxd hdv=> ?_
    by_cases hxd2:x=d
    ·subst hxd2
     rw [Nat.mod_eq_zero_of_dvd hdv] at h2
     cases h2
    ·exact hb x hx (by omega) hdv
   ·rw [h2] at h;cases h
  ·have h1:n<d*d:=Nat.le_of_ble_eq_true h1
   intro x hx hxx
   refine hb x hx ?_
   apply Classical.byContradiction
   intro hc
   have:=Nat.mul_le_mul (show d<=x by omega) (show d<=x by omega)
   omega
theorem Ab {n:Nat} (f:Nat) (h2:2<=n) (h:aIR n f 2=true):Pr n:=by
 apply Classical.byContradiction
 intro hp
 obtain ⟨r,hr,hd,hle⟩:=V9 h2 hp
 have:=hr.1
 exact apr f 2 h (by decide) (λx a b=>by omega) r (by omega) hle hd
end Go.Proofs.YtohjofabochgfaaGreat

set_option maxRecDepth 100000
namespace Go.Proofs.YtohjofabochgfaaGreat
theorem Kc:Pr 16513537:=Ab 4065 (by decide) (by decide+kernel)
theorem Kb:Pr 16521217:=Ab 4066 (by decide) (by decide+kernel)
theorem asG:Pr 772231:=Ab 880 (by decide) (by decide+kernel)
theorem asH:Pr 413527:=Ab 645 (by decide) (by decide+kernel)
theorem A4:Pr 325086459374267:=azw (F:=319338368737) (by decide) (by decide+kernel) λr hr hd=>by
 have h0:772231∣r-1:=fC (n:=325086459374267) (q:=772231) (e:=0) (a:=2) (m:=420970486) (by decide) asG (by decide+kernel) hr hd
 have h1:413527∣r-1:=fC (n:=325086459374267) (q:=413527) (e:=0) (a:=2) (m:=786131158) (by decide) asH (by decide+kernel) hr hd
 have k1:319338368737∣r-1:=Nat.Coprime.mul_dvd_of_dvd_of_dvd (m:=772231) (n:=413527) (show Nat.gcd 772231 413527=1 by decide+kernel) h0 h1
 exact k1
theorem al8:Pr 6942563:=Ab 2636 (by decide) (by decide+kernel)
theorem acT:Pr 41655379:=azw (F:=6942563) (by decide) (by decide+kernel) λr hr hd=>by
 have h0:6942563∣r-1:=fC (n:=41655379) (q:=6942563) (e:=0) (a:=2) (m:=6) (by decide) al8 (by decide+kernel) hr hd
 exact h0
theorem Ov:Pr 22160661629:=azw (F:=41655379) (by decide) (by decide+kernel) λr hr hd=>by
 have h0:41655379∣r-1:=fC (n:=22160661629) (q:=41655379) (e:=0) (a:=2) (m:=532) (by decide) acT (by decide+kernel) hr hd
 exact h0
theorem ej:Pr 8999194758858563409123804352480028797519453:=azw (F:=7204131026362786056900943) (by decide) (by decide+kernel) λr hr hd=>by
 have h0:325086459374267∣r-1:=fC (n:=8999194758858563409123804352480028797519453) (q:=325086459374267) (e:=0) (a:=2) (m:=27682465692912573825889481556) (by decide) A4 (by decide+kernel) hr hd
 have h1:22160661629∣r-1:=fC (n:=8999194758858563409123804352480028797519453) (q:=22160661629) (e:=0) (a:=2) (m:=406088721966766121824069856270988) (by decide) Ov (by decide+kernel) hr hd
 have k1:7204131026362786056900943∣r-1:=Nat.Coprime.mul_dvd_of_dvd_of_dvd (m:=325086459374267) (n:=22160661629) (show Nat.gcd 325086459374267 22160661629=1 by decide+kernel) h0 h1
 exact k1
theorem bk:Pr 28948022309329048855892746252171976963363056481941560715954676764349967630337:=azw (F:=8999194758858563409123804352480028797519453) (by decide) (by decide+kernel) λr hr hd=>by
 have h0:8999194758858563409123804352480028797519453∣r-1:=fC (n:=28948022309329048855892746252171976963363056481941560715954676764349967630337) (q:=8999194758858563409123804352480028797519453) (e:=0) (a:=2) (m:=3216734728497058061019394250637312) (by decide) ej (by decide+kernel) hr hd
 exact h0
theorem azs:Pr 31649:=Ab 179 (by decide) (by decide+kernel)
theorem azt:Pr 12149:=Ab 112 (by decide) (by decide+kernel)
theorem HA:Pr 5239247429827:=azw (F:=384503701) (by decide) (by decide+kernel) λr hr hd=>by
 have h0:31649∣r-1:=fC (n:=5239247429827) (q:=31649) (e:=0) (a:=2) (m:=165542274) (by decide) azs (by decide+kernel) hr hd
 have h1:12149∣r-1:=fC (n:=5239247429827) (q:=12149) (e:=0) (a:=2) (m:=431249274) (by decide) azt (by decide+kernel) hr hd
 have k1:384503701∣r-1:=Nat.Coprime.mul_dvd_of_dvd_of_dvd (m:=31649) (n:=12149) (show Nat.gcd 31649 12149=1 by decide+kernel) h0 h1
 exact k1
theorem al9:Pr 5701177:=Ab 2389 (by decide) (by decide+kernel)
theorem XH:Pr 399082391:=azw (F:=5701177) (by decide) (by decide+kernel) λr hr hd=>by
 have h0:5701177∣r-1:=fC (n:=399082391) (q:=5701177) (e:=0) (a:=2) (m:=70) (by decide) al9 (by decide+kernel) hr hd
 exact h0
theorem gn:Pr 10427374428728808478656897599072717:=azw (F:=2090891391335963876357) (by decide) (by decide+kernel) λr hr hd=>by
 have h0:5239247429827∣r-1:=fC (n:=10427374428728808478656897599072717) (q:=5239247429827) (e:=0) (a:=2) (m:=1990242791238649418308) (by decide) HA (by decide+kernel) hr hd
 have h1:399082391∣r-1:=fC (n:=10427374428728808478656897599072717) (q:=399082391) (e:=0) (a:=2) (m:=26128375152309860944621076) (by decide) XH (by decide+kernel) hr hd
 have k1:2090891391335963876357∣r-1:=Nat.Coprime.mul_dvd_of_dvd_of_dvd (m:=5239247429827) (n:=399082391) (show Nat.gcd 5239247429827 399082391=1 by decide+kernel) h0 h1
 exact k1
theorem aJL:Pr 2:=Ab 3 (by decide) (by decide+kernel)
theorem bj:Pr 28948022309329048855892746252171976963363056481941647379679742748393362948097:=azw (F:=44785232154536915268878889192838239440863232) (by decide) (by decide+kernel) λr hr hd=>by
 have h0:10427374428728808478656897599072717∣r-1:=fC (n:=28948022309329048855892746252171976963363056481941647379679742748393362948097) (q:=10427374428728808478656897599072717) (e:=0) (a:=2) (m:=2776156405161148062854777934377771323097088) (by decide) gn (by decide+kernel) hr hd
 have h1:4294967296∣r-1:=fC (n:=28948022309329048855892746252171976963363056481941647379679742748393362948097) (q:=2) (e:=31) (a:=5) (m:=6739986666787659948666753771754907668419893943225417141728043264801) (by decide) aJL (by decide+kernel) hr hd
 have k1:44785232154536915268878889192838239440863232∣r-1:=Nat.Coprime.mul_dvd_of_dvd_of_dvd (m:=10427374428728808478656897599072717) (n:=4294967296) (show Nat.gcd 10427374428728808478656897599072717 4294967296=1 by decide+kernel) h0 h1
 exact k1
end Go.Proofs.YtohjofabochgfaaGreat

namespace Go.Proofs.YtohjofabochgfaaGreat
theorem Pr.auI {p:Nat} (h:Pr p) {a b:Int} (hd:(p:Int)∣a*b):(p:Int)∣a\/(p:Int)∣b:=by
 rw [Int.ofNat_dvd_left,Int.natAbs_mul] at hd
 rcases h.ajU hd with h1|h1
 ·exact .inl (Int.ofNat_dvd_left.2 h1)
 ·exact .inr (Int.ofNat_dvd_left.2 h1)
def nm (p:Nat) (z:Int):Nat:=(z%(p:Int)).toNat
theorem as5 {p:Nat} (hp:0<p) (z:Int):((nm p z:Nat):Int)=z%(p:Int):=by
 unfold nm
 have:=Int.emod_nonneg z (show (p:Int)≠0 by omega)
 omega
theorem aHP {p:Nat} (hp:0<p) (z:Int):(p:Int)∣((nm p z:Nat):Int)-z:=by
 rw [as5 hp]
 have:=Int.emod_add_mul_ediv z p
 exact ⟨-(z/p),by grind⟩
theorem amt {p:Nat} (hp:0<p) (z:Int):nm p z<p:=by
 have h:=as5 hp z
 have:=Int.emod_lt_of_pos z (show (0:Int)<p by omega)
 omega
theorem abw {p a b:Nat} (ha:a<p) (hb:b<p) (h:(p:Int)∣(a:Int)-(b:Int)):a=b:=by
 obtain ⟨k,hk⟩:=h
 have hpk:(p:Int)*k<p*1/\(p:Int)*(-1)<p*k:=by constructor<;>omega
 have h1:=Int.lt_of_mul_lt_mul_left hpk.1 (by omega)
 have h2:=Int.lt_of_mul_lt_mul_left hpk.2 (by omega)
 have:k=0:=by omega
 subst this
 omega
def aJE (p:Nat) (a:Int):Int:=((nm p a^(p-2):Nat):Int)
structure Cur (p b:Nat):Prop where
 pr:Pr p
 big:5<=p
 n2:∀ x:Int,¬(p:Int)∣x*x*x+b
theorem Cur.pos {p b:Nat} (c:Cur p b):0<p:=c.pr.pos
abbrev PtQ:Type:=Option (Nat×Nat)
structure Lin (p:Nat) (x1 y1 x2 y2 l:Int):Prop where
 a:(p:Int)∣l*(x1-x2)-(y1-y2)
 b:(p:Int)∣l*(y1+y2)-(x1*x1+x1*x2+x2*x2)
structure Thd (p:Nat) (x1 y1 x2 l x3 y3:Int):Prop where
 x:(p:Int)∣x3-(l*l-x1-x2)
 y:(p:Int)∣y3-(l*(x1-x3)-y1)
def aHr (p:Nat) (P R:Nat×Nat):Int:=if P.1=R.1 then 3*P.1*P.1*aJE p (P.2+P.2) else ((R.2:Int)-P.2)*aJE p ((R.1:Int)-P.1)
def aHd (p:Nat) (P R:Nat×Nat) (l:Int):Nat×Nat:=(nm p (l*l-P.1-R.1),nm p (l*(P.1-nm p (l*l-P.1-R.1))-P.2))
def aJR (p:Nat):PtQ->PtQ->PtQ
 |none,R=>R
 |some P,none=>some P
 |some P,some R=>if P.1=R.1/\P.2≠R.2 then none else some (aHd p P R (aHr p P R))
variable {p b:Nat}
theorem gP (P:PtQ):aJR p P none=P:=by cases P<;>rfl
end Go.Proofs.YtohjofabochgfaaGreat

namespace Go.Proofs.YtohjofabochgfaaGreat
open Sx Go
abbrev Sm (p:Nat):Prop:=0<p/\p<57896044618658097711785492504343953926634992332820282019728792003956564819968
theorem aIY {p:Nat} (n:Nat):(p:Int)∣((n%p:Nat):Int)-(n:Int):=by
 have:=Nat.div_add_mod n p
 refine ⟨-((n/p:Nat):Int),?_⟩
 have h:((p*(n/p)+n%p:Nat):Int)=(n:Int):=by rw [this]
 rw [Int.natCast_add,Int.natCast_mul] at h
 rw [Int.mul_neg]
 omega
variable {p:Nat}
theorem aBQ (hp:Sm p) (a b:aa):(p:Int)∣((bO p a b).nat:Int)-((a.nat:Int)*(b.nat:Int)):=by
 have e:(bO p a b).nat=a.nat*b.nat%p:=cZ hp
 rw [e]
 have:=aIY (p:=p) (a.nat*b.nat)
 rwa [Int.natCast_mul] at this
theorem aII (hp:Sm p) (a b:aa):(p:Int)∣((Fy p a b).nat:Int)-((a.nat:Int)+(b.nat:Int)):=by
 have e:(Fy p a b).nat=(a.nat+b.nat)%p:=cZ hp
 rw [e]
 have:=aIY (p:=p) (a.nat+b.nat)
 rwa [Int.natCast_add] at this
theorem td (hp:Sm p) (a b:aa):(bO p a b).nat<p:=by
 rw [show (bO p a b).nat=a.nat*b.nat%p from cZ hp]
 exact Nat.mod_lt _ hp.1
theorem awf (hp:Sm p) (a b:aa):(Fy p a b).nat<p:=by
 rw [show (Fy p a b).nat=(a.nat+b.nat)%p from cZ hp]
 exact Nat.mod_lt _ hp.1
theorem ams:(aa.mk 0 0 0 0).nat=0:=by decide
variable {b:Nat}
end Go.Proofs.YtohjofabochgfaaGreat

namespace Go.Proofs.YtohjofabochgfaaGreat
open Sx Go
theorem TF {p b m:Nat} (pr:Pr p) (h3:p=3*m+1) (hb0:0<b) (hb:b<p) (hm:Nat.blt m (2^256)=true) (hk:Nat.beq (pwm p (p-b) m) 1=false) (x:Int):¬(p:Int)∣x*x*x+b:=λhd=>by
 have h2:=pr.1
 rw [aiB h2 hm] at hk
 obtain ⟨k,hk1⟩:=hd
 obtain ⟨j,hj⟩:=aHP pr.pos x
 have hn:p∣nm p x*nm p x*nm p x+b:=Int.natCast_dvd_natCast.1 (by
  rw [Int.natCast_add,Int.natCast_mul,Int.natCast_mul]
  generalize ((nm p x:Nat):Int)=n at*
  exact ⟨k+j*(n*n+n*x+x*x),by grind⟩)
 generalize nm p x=n at*
 have hpn:¬p∣n:=λhd=>by
  have h1:p∣n*n*n:=Nat.dvd_trans hd (Nat.dvd_mul_left ..)
  have:=(Nat.dvd_add_right h1).1 hn
  have:=Nat.le_of_dvd hb0 this
  omega
 have hf:=aus pr hpn
 have e:n^3%p=(p-b)%p:=by
  obtain ⟨c,hc⟩:=hn
  have hc0:c≠0:=λe=>by rw [e] at hc;omega
  obtain ⟨d,rfl⟩:∃ d,c=d+1:=⟨c-1,by omega⟩
  have:n^3=(p-b)+p*d:=by
   rw [show n^3=n*n*n by rw [Nat.pow_succ,Nat.pow_succ,Nat.pow_one]]
   rw [Nat.mul_succ] at hc
   omega
  rw [this,Nat.add_mul_mod_self_left]
 have:(p-b)^m%p=1:=by
  rw [Nat.pow_mod,<-e,<-Nat.pow_mod,<-Nat.pow_mul,show 3*m=p-1 by omega]
  exact hf
 rw [this] at hk
 cases hk
theorem aCa {s:Int} (h:al s=true):Cur (pS s) (bS s).nat:=by
 rcases ck h with rfl|rfl|rfl|rfl
 ·have e:pS 0=16513537:=by decide+kernel
  have e2:(bS 0).nat=23:=by decide+kernel
  rw [e,e2]
  exact ⟨Kc,by decide,TF (m:=5504512) Kc (by decide) (by decide) (by decide) (by decide+kernel) (by decide+kernel)⟩
 ·have e:pS 1=16521217:=by decide+kernel
  have e2:(bS 1).nat=21:=by decide+kernel
  rw [e,e2]
  exact ⟨Kb,by decide,TF (m:=5507072) Kb (by decide) (by decide) (by decide) (by decide+kernel) (by decide+kernel)⟩
 ·have e:pS 2=28948022309329048855892746252171976963363056481941560715954676764349967630337:=by decide+kernel
  have e2:(bS 2).nat=5:=by decide+kernel
  rw [e,e2]
  exact ⟨bk,by decide,TF (m:=9649340769776349618630915417390658987787685493980520238651558921449989210112) bk (by decide) (by decide) (by decide) (by decide+kernel) (by decide+kernel)⟩
 ·have e:pS 3=28948022309329048855892746252171976963363056481941647379679742748393362948097:=by decide+kernel
  have e2:(bS 3).nat=5:=by decide+kernel
  rw [e,e2]
  exact ⟨bj,by decide,TF (m:=9649340769776349618630915417390658987787685493980549126559914249464454316032) bj (by decide) (by decide) (by decide) (by decide+kernel) (by decide+kernel)⟩
end Go.Proofs.YtohjofabochgfaaGreat

namespace Go.Proofs.YtohjofabochgfaaGreat
open Sx Go
theorem gT (a n p:Nat):(a%p)^n%p=a^n%p:=(Nat.pow_mod a n p).symm
theorem aJe {p a b c d:Nat} (h1:a%p=c%p) (h2:b%p=d%p):a*b%p=c*d%p:=by rw [Nat.mul_mod,h1,h2,<-Nat.mul_mod]
theorem aBD {p t:Nat} (pr:Pr p) (ht:t<p) (h:t*t%p=1):t=1\/t=p-1:=by
 have h2:=pr.1
 have hd:(p:Int)∣((t:Int)-1)*((t:Int)+1):=by
  have e:=Nat.div_add_mod (t*t) p
  rw [h] at e
  refine ⟨((t*t/p:Nat):Int),?_⟩
  have e:((p*(t*t/p)+1:Nat):Int)=((t*t:Nat):Int):=congrArg (λn:Nat=>(n:Int)) e
  rw [Int.natCast_add,Int.natCast_mul,Int.natCast_mul] at e
  have e2:((t:Int)-1)*((t:Int)+1)=(t:Int)*t-1:=by grind
  rw [e2,<-e]
  omega
 rcases pr.auI hd with h|h
 ·left
  exact abw ht (by omega) h
 ·right
  refine abw ht (by omega) ?_
  obtain ⟨k,hk⟩:=h
  have:((p-1:Nat):Int)=(p:Int)-1:=by omega
  rw [this]
  exact ⟨k-1,by rw [Int.mul_sub];omega⟩
theorem aHQ {p:Nat} (h2:2<=p):(p-1)*(p-1)%p=1:=by
 obtain ⟨q,rfl⟩:∃ q,p=q+2:=⟨p-2,by omega⟩
 have:(q+2-1)*(q+2-1)=1+(q+2)*q:=by
  rw [show q+2-1=q+1 by omega]
  grind
 rw [this,Nat.add_mul_mod_self_left]
 exact Nat.mod_eq_of_lt (by omega)
section
variable {p:Nat}
theorem xu (hp:Sm p) (a b:aa):(bO p a b).nat=a.nat*b.nat%p:=cZ hp
theorem kA (hp:Sm p) (h2:2<=p) (a k:aa):(gN p a k).nat=a.nat^k.nat%p:=by
 rw [auE (by omega)]
 exact cZ hp
theorem aD7 (hp:Sm p) {b:aa} (hb:b.nat<p):∀ n,(sqN p b n).nat=b.nat^2^n%p
 |0=>by
  show b.nat=_
  rw [Nat.pow_zero,Nat.pow_one,Nat.mod_eq_of_lt hb]
 |n+1=>by
  show (bO p (sqN p b n) (sqN p b n)).nat=_
  rw [xu hp,aD7 hp hb n,<-Nat.mul_mod,<-Nat.pow_add,<-Nat.two_mul,<-Nat.pow_succ']
theorem E6 (t:aa):eqE t eJ=Nat.beq t.nat 1:=by rw [auK];rfl
theorem yO {a b:Nat} (h:Nat.beq a b=false):a≠b:=λe=>by rw [e,Nat.beq_refl] at h;cases h
structure aBo (p a i:Nat) (w:Ton):Prop where
 x:w.1.nat<p
 b:w.2.1.nat<p
 z:w.2.2.nat<p
 sq:w.1.nat*w.1.nat%p=a*w.2.1.nat%p
 one:w.2.1.nat^2^i%p=1
 neg:w.2.2.nat^2^i%p=p-1
theorem ama (b i:Nat):b^2^(i+1)=b^2^i*b^2^i:=by rw [<-Nat.pow_add,<-Nat.two_mul,<-Nat.pow_succ']
theorem aqM (z i:Nat) (p:Nat):(z*z%p)^2^i%p=z^2^(i+1)%p:=by rw [gT,<-Nat.pow_two,<-Nat.pow_mul,<-Nat.pow_succ']
theorem Yt (pr:Pr p) {b i:Nat} (h:b^2^(i+1)%p=1):b^2^i%p=1\/b^2^i%p=p-1:=by
 rw [ama,Nat.mul_mod] at h
 exact aBD pr (Nat.mod_lt _ pr.pos) h
theorem aps (hp:Sm p) (pr:Pr p) {a i:Nat} {x b z u:aa} (hx:x.nat*x.nat%p=a*b.nat%p) (hb:b.nat^2^i%p=p-1) (hu:u.nat*u.nat%p=z.nat%p) (hz:z.nat^2^i%p=p-1):
 (bO p x u).nat*(bO p x u).nat%p=a*(bO p b z).nat%p/\(bO p b z).nat^2^i%p=1:=by
 constructor
 ·rw [xu hp,xu hp,<-Nat.mul_mod,Nat.mul_mod_mod,show x.nat*u.nat*(x.nat*u.nat)=x.nat*x.nat*(u.nat*u.nat) by ac_rfl,show a*(b.nat*z.nat)=a*b.nat*z.nat from (Nat.mul_assoc ..).symm]
  exact aJe hx hu
 ·rw [xu hp,gT,Nat.mul_pow,Nat.mul_mod,hb,hz]
  exact aHQ pr.1
theorem ak3 (hp:Sm p) (pr:Pr p) {a m k:Nat} {w:Ton} (hk:k<m) (h:aBo p a (m-k) w):aBo p a (m-(k+1)) (xZ p m k w):=by
 obtain ⟨x,b,z⟩:=w
 have e:m-k=(m-(k+1))+1:=by omega
 rw [e] at h
 obtain ⟨hx,hb,hz,h1,h2,h3⟩:=h
 dsimp only at*
 have ht:=aD7 hp hb (m-(k+1))
 have hz2:(bO p z z).nat^2^(m-(k+1))%p=p-1:=by rw [xu hp,aqM];exact h3
 unfold xZ
 dsimp only
 rw [show m-k-1=m-(k+1) by omega,E6]
 cases hq:Nat.beq (sqN p b (m-(k+1))).nat 1
 ·simp only [cond_false]
  have hn:=yO hq
  rw [ht] at hn
  have hb1:=(Yt pr h2).resolve_left hn
  obtain ⟨g1,g2⟩:=aps hp pr (u:=z) h1 hb1 (by rw [xu hp,Nat.mod_mod]) hz2
  exact ⟨td hp _ _,td hp _ _,td hp _ _,g1,g2,hz2⟩
 ·simp only [cond_true]
  have hb1:=Nat.eq_of_beq_eq_true hq
  rw [ht] at hb1
  exact ⟨hx,hb,td hp _ _,h1,hb1,hz2⟩
theorem aCK (hp:Sm p) (pr:Pr p) {a m:Nat} {w:Ton} (h:aBo p a m w):(awD p m w).1.nat<p/\(awD p m w).1.nat*(awD p m w).1.nat%p=a%p:=by
 have key:∀ n,n<=m->aBo p a (m-n) (upto (xZ p m) w n):=by
  intro n
  induction n with
  |zero=>intro _;exact h
  |succ n ih=>intro hn;exact ak3 hp pr (by omega) (ih (by omega))
 have hk:=key m (Nat.le_refl _)
 rw [Nat.sub_self] at hk
 obtain ⟨hx,hb,hz,h1,h2,h3⟩:=hk
 refine ⟨hx,?_⟩
 rw [Nat.pow_zero,Nat.pow_one,Nat.mod_eq_of_lt hb] at h2
 rw [h2,Nat.mul_one] at h1
 exact h1
end
def H4 (s:Int):aa:=dO (eg (aX s.toNat).1 eJ).1 (aX s.toNat).2.1.toNat
def adS (s:Int):Nat:=(aX s.toNat).2.1.toNat
structure akI (s:Int):Prop where
 od:(H4 s).nat*2^adS s=pS s-1
 up:2*(dj (p9 (H4 s) eJ).1).nat=(H4 s).nat+1
 hf:(dj (eg (aX s.toNat).1 eJ).1).nat=(pS s-1)/2
 ad:1<=adS s
 ai:(aX s.toNat).2.1=(adS s:Int)
 nr:pwm (pS s) 5 ((pS s-1)/2)=pS s-1
 pr:Pr (pS s)
 sm:Sm (pS s)
 o2:pS s%2=1
theorem IY {s:Int} (hs:al s=true):akI s:=by
 have pr:=(aCa hs).pr
 have sm:Sm (pS s):=ni hs
 rcases ck hs with rfl|rfl|rfl|rfl<;>
  exact ⟨by decide+kernel,by decide+kernel,by decide+kernel,by decide+kernel,by decide+kernel,by decide+kernel,pr,sm,by decide+kernel⟩
section
variable {s:Int} (k:akI s)
include k
theorem asI (a:Nat):(a^(H4 s).nat)^2^(adS s-1)=a^((pS s-1)/2):=by
 rw [<-Nat.pow_mul]
 congr 1
 have h:=k.od
 have ha:=k.ad
 obtain ⟨n,hn⟩:∃ n,adS s=n+1:=⟨adS s-1,by omega⟩
 rw [hn] at h⊢
 rw [Nat.pow_succ,<-Nat.mul_assoc] at h
 rw [show n+1-1=n by omega]
 omega
theorem ajH:(5^(H4 s).nat)^2^(adS s-1)%pS s=pS s-1:=by
 rw [asI k]
 have h:=k.nr
 have hp:=k.sm
 rw [aiB k.pr.1 (Nat.ble_eq_true_of_le (by have:=hp.2;omega))] at h
 exact h
omit k in
theorem ajI:(aa.mk 5 0 0 0).nat=5:=by decide
theorem aq9 {a:aa} (he:a.nat^((pS s-1)/2)%pS s=1):(sn s a).nat<pS s/\(sn s a).nat*(sn s a).nat%pS s=a.nat%pS s:=by
 have hp:=k.sm
 have pr:=k.pr
 have e:sn s a=(awD (pS s) (adS s-1) (gN (pS s) a (dj (p9 (H4 s) eJ).1),gN (pS s) a (H4 s),gN (pS s) ⟨5,0,0,0⟩ (H4 s))).1:=by
  show (awD (pS s) ((aX s.toNat).2.1-1).toNat _).1=_
  rw [k.ai,show ((adS s:Int)-1).toNat=adS s-1 by omega]
  rfl
 rw [e]
 refine aCK hp pr (a:=a.nat) ⟨?_,?_,?_,?_,?_,?_⟩
 ·rw [kA hp pr.1];exact Nat.mod_lt _ pr.pos
 ·rw [kA hp pr.1];exact Nat.mod_lt _ pr.pos
 ·rw [kA hp pr.1];exact Nat.mod_lt _ pr.pos
 ·show (gN (pS s) a (dj (p9 (H4 s) eJ).1)).nat*(gN (pS s) a (dj (p9 (H4 s) eJ).1)).nat%pS s=a.nat*(gN (pS s) a (H4 s)).nat%pS s
  rw [kA hp pr.1,kA hp pr.1,<-Nat.mul_mod,Nat.mul_mod_mod,<-Nat.pow_add,<-Nat.two_mul,k.up,Nat.pow_succ,Nat.mul_comm]
 ·show (gN (pS s) a (H4 s)).nat^_%pS s=1
  rw [kA hp pr.1,gT,asI k]
  exact he
 ·show (gN (pS s) ⟨5,0,0,0⟩ (H4 s)).nat^_%pS s=pS s-1
  rw [kA hp pr.1,gT,ajI]
  exact ajH k
end
theorem aei {p:Nat} (hp:Sm p) (ho:p%2=1) {x:aa} (hx:x.nat<p):(kR p x).nat<p/\(kR p x).nat%2=0/\(kR p x).nat*(kR p x).nat%p=x.nat*x.nat%p:=by
 have hb:(x.w0%2==1)=Nat.beq (x.nat%2) 1:=by
  have e:x.nat%2=x.w0.toNat%2:=by unfold Sx.aa.nat;omega
  rw [e]
  have h2:(x.w0%2).toNat=x.w0.toNat%2:=by rw [UInt64.toNat_mod];rfl
  rw [<-h2]
  by_cases h:x.w0%2=1
  ·rw [h];rfl
  ·have hn:¬(x.w0%2).toNat=1:=λe=>h (UInt64.toNat_inj.1 e)
   have:Nat.beq (x.w0%2).toNat 1=false:=by
    cases hb:Nat.beq (x.w0%2).toNat 1
    ·rfl
    ·exact absurd (Nat.eq_of_beq_eq_true hb) hn
   rw [this]
   simpa using h
 unfold kR
 rw [hb]
 cases hq:Nat.beq (x.nat%2) 1
 ·simp only [cond_false]
  have:=yO hq
  exact ⟨hx,by omega,trivial⟩
 ·simp only [cond_true]
  have h1:=Nat.eq_of_beq_eq_true hq
  have e:(zR p x).nat=p-x.nat:=by
   rw [show (zR p x).nat=(p-x.nat%p)%p from cZ hp,Nat.mod_eq_of_lt hx,Nat.mod_eq_of_lt (by omega)]
  rw [e]
  refine ⟨by omega,by omega,?_⟩
  obtain ⟨d,hd⟩:∃ d,p=x.nat+d:=⟨p-x.nat,by omega⟩
  have e2:p-x.nat=d:=by omega
  rw [e2]
  have e3:d*d+p*x.nat=x.nat*x.nat+p*d:=by rw [hd];grind
  have:=congrArg (· %p) e3
  simp only [Nat.add_mul_mod_self_left] at this
  exact this
theorem auG {p:Nat} (pr:Pr p) (ho:p%2=1) {x y:Nat} (hx:x<p) (hy:y<p) (ex:x%2=0) (ey:y%2=0) (h:x*x%p=y*y%p):x=y:=by
 have hd:(p:Int)∣((x:Int)-y)*((x:Int)+y):=by
  obtain ⟨a,ha⟩:=aIY (p:=p) (x*x)
  obtain ⟨b,hb⟩:=aIY (p:=p) (y*y)
  rw [h] at ha
  rw [Int.natCast_mul] at ha hb
  generalize (((y*y%p):Nat):Int)=r at*
  exact ⟨b-a,by grind⟩
 rcases pr.auI hd with h|h
 ·exact abw hx hy h
 ·have h:(p:Int)∣((x+y:Nat):Int):=by rw [Int.natCast_add];exact h
  have h:=Int.natCast_dvd_natCast.1 h
  obtain ⟨c,hc⟩:=h
  have hc2:c<2:=by
   apply Classical.byContradiction
   intro h2
   have:=Nat.mul_le_mul_left p (show 2<=c by omega)
   omega
  rcases (show c=0\/c=1 by omega) with rfl|rfl<;>omega
end Go.Proofs.YtohjofabochgfaaGreat

namespace Go.Proofs.YtohjofabochgfaaGreat
open Sx Go
def kF (p:Nat):Nat->aa->Nat->Nat
 |0,_,k=>k
 |n+1,s,k=>cond (eqE s eJ) k (kF p n (bO p s s) (k+1))
def tsB (p m k:Nat) (w:Ton):aa:=sqN p w.2.2 (m-k-1)
def tsW (p m k:Nat) (w:Ton):Ton:=(bO p w.1 (tsB p m k w),bO p w.2.1 (bO p (tsB p m k w) (tsB p m k w)),bO p (tsB p m k w) (tsB p m k w))
def tsF (p:Nat):Nat->Nat->Ton->Option aa
 |0,_,_=>none
 |f+1,m,w=>cond (eqE w.2.1 eJ) (some w.1) (cond (Nat.beq (kF p m w.2.1 0) m) none (tsF p f (kF p m w.2.1 0) (tsW p m (kF p m w.2.1 0) w)))
section
variable {p:Nat}
theorem adG (hp:Sm p):∀ (n:Nat) (s:aa) (k:Nat),s.nat<p->k<=kF p n s k/\kF p n s k<=k+n/\(kF p n s k<k+n->s.nat^2^(kF p n s k-k)%p=1)/\∀ j,k<=j->j<kF p n s k->s.nat^2^(j-k)%p≠1
 |0,s,k,_=>⟨Nat.le_refl _,Nat.le_refl _,λh=>absurd h (Nat.lt_irrefl _),λj h1 h2=>absurd h2 (by show ¬j<k;omega)⟩
 |n+1,s,k,hs=>by
  unfold kF
  rw [E6]
  cases hq:Nat.beq s.nat 1
  ·simp only [cond_false]
   obtain ⟨h1,h2,h3,h4⟩:=adG hp n (bO p s s) (k+1) (td hp _ _)
   have e:∀ j,(bO p s s).nat^2^j%p=s.nat^2^(j+1)%p:=λj=>by rw [xu hp,aqM]
   refine ⟨by omega,by omega,λh=> ?_,λj hj1 hj2=> ?_⟩
   ·have:=h3 (by omega)
    rw [e] at this
    rw [show kF p n (bO p s s) (k+1)-k=kF p n (bO p s s) (k+1)-(k+1)+1 by omega]
    exact this
   ·by_cases hj:j=k
    ·subst hj
     rw [Nat.sub_self,Nat.pow_zero,Nat.pow_one,Nat.mod_eq_of_lt hs]
     exact yO hq
    ·have:=h4 j (by omega) hj2
     rw [e] at this
     rw [show j-k=j-(k+1)+1 by omega]
     exact this
  ·simp only [cond_true]
   have h1:=Nat.eq_of_beq_eq_true hq
   refine ⟨Nat.le_refl _,by omega,λ_=> ?_,λj hj1 hj2=>by omega⟩
   rw [Nat.sub_self,Nat.pow_zero,Nat.pow_one,Nat.mod_eq_of_lt hs]
   exact h1
structure aIJ (p a m:Nat) (w:Ton):Prop where
 x:w.1.nat<p
 t:w.2.1.nat<p
 z:w.2.2.nat<p
 sq:w.1.nat*w.1.nat%p=a*w.2.1.nat%p
 m1:1<=m
 neg:w.2.2.nat^2^(m-1)%p=p-1
theorem aCF (hp:Sm p) (pr:Pr p) {a m k:Nat} {w:Ton} (h:aIJ p a m w) (hk0:1<=k) (hk:k<m) (h1:w.2.1.nat^2^k%p=1) (h2:w.2.1.nat^2^(k-1)%p≠1):
 aIJ p a k (tsW p m k w)/\(tsW p m k w).2.1.nat^2^(k-1)%p=1:=by
 have hb:=aD7 hp h.z (m-k-1)
 have hz':(bO p (tsB p m k w) (tsB p m k w)).nat^2^(k-1)%p=p-1:=by
  rw [xu hp,aqM]
  show (sqN p w.2.2 (m-k-1)).nat^_%p=_
  rw [hb,gT,<-Nat.pow_mul,<-Nat.pow_add,show m-k-1+(k-1+1)=m-1 by omega]
  exact h.neg
 have ht:w.2.1.nat^2^(k-1)%p=p-1:=by
  have e:k=(k-1)+1:=by omega
  rw [e] at h1
  exact (Yt pr h1).resolve_left h2
 obtain ⟨g1,g2⟩:=aps hp pr (u:=tsB p m k w) (z:=bO p (tsB p m k w) (tsB p m k w)) h.sq ht (by rw [xu hp,Nat.mod_mod]) hz'
 exact ⟨⟨td hp _ _,td hp _ _,td hp _ _,g1,hk0,hz'⟩,g2⟩
theorem apq (hp:Sm p) (pr:Pr p) {a:Nat}:∀ (f m:Nat) (w:Ton),m<f->aIJ p a m w->w.2.1.nat^2^(m-1)%p=1->∃ x,tsF p f m w=some x/\x.nat<p/\x.nat*x.nat%p=a%p
 |0,m,w,h,_,_=>absurd h (Nat.not_lt_zero _)
 |f+1,m,w,hf,h,hr=>by
  unfold tsF
  rw [E6]
  cases hq:Nat.beq w.2.1.nat 1
  ·simp only [cond_false]
   obtain ⟨k1,k2,k3,k4⟩:=adG hp m w.2.1 0 h.t
   have m1:=h.m1
   have hk:kF p m w.2.1 0<m:=by
    apply Classical.byContradiction
    intro hn
    exact k4 (m-1) (by omega) (by omega) hr
   have hk0:1<=kF p m w.2.1 0:=by
    apply Classical.byContradiction
    intro hn
    have e:kF p m w.2.1 0=0:=by omega
    have:=k3 (by omega)
    rw [e,Nat.sub_self,Nat.pow_zero,Nat.pow_one,Nat.mod_eq_of_lt h.t] at this
    exact yO hq this
   have e1:=k3 (by omega)
   have e2:=k4 (kF p m w.2.1 0-1) (by omega) (by omega)
   rw [Nat.sub_zero] at e1 e2
   have hb:Nat.beq (kF p m w.2.1 0) m=false:=by
    cases hb:Nat.beq (kF p m w.2.1 0) m
    ·rfl
    ·have:=Nat.eq_of_beq_eq_true hb;omega
   rw [hb]
   obtain ⟨g1,g2⟩:=aCF hp pr h hk0 hk e1 e2
   exact apq hp pr f _ _ (by omega) g1 g2
  ·simp only [cond_true]
   have h1:=Nat.eq_of_beq_eq_true hq
   have:=h.sq
   rw [h1,Nat.mul_one] at this
   exact ⟨w.1,rfl,h.x,this⟩
theorem aCH (hp:Sm p) (pr:Pr p) (h3:3<=p) {a f m:Nat} {w:Ton} (h:aIJ p a m w) (hr:w.2.1.nat^2^(m-1)%p=p-1):tsF p f m w=none:=by
 cases f with
 |zero=>rfl
 |succ f=>
  unfold tsF
  rw [E6]
  have m1:=h.m1
  have up:∀ j,j<=m-1->w.2.1.nat^2^j%p≠1:=λj hj e=>by
   have:w.2.1.nat^2^(m-1)%p=1:=by
    rw [show m-1=j+(m-1-j) by omega,Nat.pow_add,Nat.pow_mul,Nat.pow_mod,e,Nat.one_pow,Nat.mod_eq_of_lt (by omega)]
   omega
  have hq:Nat.beq w.2.1.nat 1=false:=by
   cases hq:Nat.beq w.2.1.nat 1
   ·rfl
   ·have:=up 0 (by omega)
    rw [Nat.pow_zero,Nat.pow_one,Nat.mod_eq_of_lt h.t] at this
    exact absurd (Nat.eq_of_beq_eq_true hq) this
  rw [hq]
  obtain ⟨k1,k2,k3,k4⟩:=adG hp m w.2.1 0 h.t
  have e:kF p m w.2.1 0=m:=by
   apply Classical.byContradiction
   intro hn
   have:=k3 (by omega)
   rw [Nat.sub_zero] at this
   exact up _ (by omega) this
  rw [e,Nat.beq_refl]
  rfl
end
section
variable {s:Int} (k:akI s)
include k
def fx (s:Int) (a:aa):Ton:=(gN (pS s) a (dj (p9 (H4 s) eJ).1),gN (pS s) a (H4 s),gN (pS s) ⟨5,0,0,0⟩ (H4 s))
theorem ak2 (a:aa):aIJ (pS s) a.nat (adS s) (fx s a):=by
 have hp:=k.sm
 have pr:=k.pr
 refine ⟨?_,?_,?_,?_,k.ad,?_⟩
 ·show (gN (pS s) a _).nat<_
  rw [kA hp pr.1];exact Nat.mod_lt _ pr.pos
 ·show (gN (pS s) a _).nat<_
  rw [kA hp pr.1];exact Nat.mod_lt _ pr.pos
 ·show (gN (pS s) _ _).nat<_
  rw [kA hp pr.1];exact Nat.mod_lt _ pr.pos
 ·show (gN (pS s) a (dj (p9 (H4 s) eJ).1)).nat*(gN (pS s) a (dj (p9 (H4 s) eJ).1)).nat%pS s=a.nat*(gN (pS s) a (H4 s)).nat%pS s
  rw [kA hp pr.1,kA hp pr.1,<-Nat.mul_mod,Nat.mul_mod_mod,<-Nat.pow_add,<-Nat.two_mul,k.up,Nat.pow_succ,Nat.mul_comm]
 ·show (gN (pS s) ⟨5,0,0,0⟩ (H4 s)).nat^_%pS s=pS s-1
  rw [kA hp pr.1,gT,ajI]
  exact ajH k
theorem abf (a:aa):(fx s a).2.1.nat^2^(adS s-1)%pS s=a.nat^((pS s-1)/2)%pS s:=by
 show (gN (pS s) a (H4 s)).nat^_%pS s=_
 rw [kA k.sm k.pr.1,gT,asI k]
theorem auH {a:Nat} (ha:¬pS s∣a):a^((pS s-1)/2)%pS s=1\/a^((pS s-1)/2)%pS s=pS s-1:=by
 have hf:=aus k.pr ha
 have ho:=k.o2
 have h2:=k.pr.1
 have e:pS s-1=(pS s-1)/2+(pS s-1)/2:=by omega
 rw [e,Nat.pow_add,Nat.mul_mod] at hf
 exact aBD k.pr (Nat.mod_lt _ k.pr.pos) hf
theorem aCG {a:aa} (ha:a.nat<pS s) (hz:bQ a=false):(tsF (pS s) (adS s+1) (adS s) (fx s a)).map (kR (pS s))=
 cond (eqE (gN (pS s) a (dj (eg (aX s.toNat).1 eJ).1)) eJ) (some (kR (pS s) (sn s a))) none:=by
 have hp:=k.sm
 have pr:=k.pr
 have h2:=pr.1
 have ho:=k.o2
 have h0:=ak2 k a
 have hpw:=abf k a
 rw [E6,kA hp h2,k.hf]
 have hn:¬pS s∣a.nat:=λhd=>by
  have:=Nat.eq_zero_of_dvd_of_lt hd ha
  rw [lc,this] at hz
  cases hz
 rcases auH k hn with h|h
 ·rw [h]
  obtain ⟨x,e1,e2,e3⟩:=apq hp pr (adS s+1) (adS s) _ (by omega) h0 (by rw [hpw];exact h)
  rw [e1]
  obtain ⟨r1,r2⟩:=aq9 k h
  obtain ⟨v1,v2,v3⟩:=aei hp ho e2
  obtain ⟨w1,w2,w3⟩:=aei hp ho r1
  show some _=some _
  rw [qL (auG pr ho v1 w1 v2 w2 (by rw [v3,w3,e3,r2]))]
 ·have h3:3<=pS s:=by omega
  rw [aCH hp pr h3 h0 (by rw [hpw];exact h),h]
  have:Nat.beq (pS s-1) 1=false:=by
   cases hb:Nat.beq (pS s-1) 1
   ·rfl
   ·have:=Nat.eq_of_beq_eq_true hb;omega
  rw [this]
  rfl
end
end Go.Proofs.YtohjofabochgfaaGreat

namespace Go.Proofs.YtohjofabochgfaaGreat
open Sx Go
theorem zero_eq {e:aa} (h:bQ e=true):e=⟨0,0,0,0⟩:=qL (by rw [lc] at h;rw [Nat.eq_of_beq_eq_true h];exact ams.symm)
def sqA (s:Int) (x:aa):aa:=ofP (pS s) (xl (pS s) x (bS s))
def sqB (s:Int) (x:aa):Bool:=eqE (gN (pS s) (sqA s x) (dj (eg (aX s.toNat).1 eJ).1)) eJ
def sqY (s:Int) (x:aa):aa:=kR (pS s) (sn s (sqA s x))
def ptD (s:Int) (x:aa) (odd:Bool):Pt:=(x,cond odd (zR (pS s) (sqY s x)) (sqY s x),false)
theorem aHq {s:Int} (hs:al s=true) (x:aa):(sqA s x).nat<pS s/\((pS s:Nat):Int)∣((sqA s x).nat:Int)-((x.nat:Int)*x.nat*x.nat+(bS s).nat):=by
 have hp:Sm (pS s):=ni hs
 have e:(sqA s x).nat=(xl (pS s) x (bS s)).nat%pS s:=cZ hp
 have hlt:(xl (pS s) x (bS s)).nat<pS s:=awf hp _ _
 rw [e,Nat.mod_eq_of_lt hlt]
 refine ⟨hlt,?_⟩
 have c2:=aBQ hp x x
 have c3:=aBQ hp (bO (pS s) x x) x
 have c4:=aII hp (bO (pS s) (bO (pS s) x x) x) (bS s)
 unfold xl
 generalize bO (pS s) (bO (pS s) x x) x=xxx at*
 generalize bO (pS s) x x=xx at*
 generalize Fy (pS s) xxx (bS s)=z at*
 have:(z.nat:Int)-((x.nat:Int)*x.nat*x.nat+(bS s).nat)=((z.nat:Int)-(xxx.nat+(bS s).nat))+(((xxx.nat:Int)-xx.nat*x.nat)+(((xx.nat:Int)-x.nat*x.nat)*x.nat)):=by grind
 rw [this]
 exact Int.dvd_add c4 (Int.dvd_add c3 (Int.dvd_trans c2 (Int.dvd_mul_right ..)))
theorem abm {s:Int} (hs:al s=true) (x:aa):bQ (sqA s x)=false:=by
 have h:=(aHq hs x).2
 cases hz:bQ (sqA s x)
 ·rfl
 ·exfalso
  rw [lc] at hz
  rw [Nat.eq_of_beq_eq_true hz] at h
  obtain ⟨k,hk⟩:=h
  exact (aCa hs).n2 (x.nat:Int) ⟨-k,by rw [Int.mul_neg,<-hk];simp⟩
theorem ayB {s:Int} (hs:al s=true):sqB s ⟨0,0,0,0⟩=false:=by
 rcases ck hs with rfl|rfl|rfl|rfl<;>decide+kernel
theorem aHo {s:Int} (hs:al s=true) {x:aa} (h:sqB s x=true):(sqY s x).nat<pS s/\(sqY s x).nat%2=0/\(sqY s x).nat*(sqY s x).nat%pS s=(sqA s x).nat%pS s:=by
 have k:=IY hs
 unfold sqB at h
 rw [E6,kA k.sm k.pr.1,k.hf] at h
 obtain ⟨r1,r2⟩:=aq9 k (Nat.eq_of_beq_eq_true h)
 obtain ⟨e1,e2,e3⟩:=aei k.sm k.o2 r1
 exact ⟨e1,e2,e3.trans r2⟩
section
variable {s:Int} (hs:al s=true)
include hs
theorem aBO {X Y:aa}:onB s (X,Y,false)=true ↔ X.nat<pS s/\Y.nat<pS s/\Y.nat*Y.nat%pS s=(sqA s X).nat:=by
 have hp:Sm (pS s):=ni hs
 have e1:(sqA s X).nat=(xl (pS s) X (bS s)).nat:=by
  show (ofN _).nat=_
  rw [cZ hp]
  exact Nat.mod_eq_of_lt (awf hp _ _)
 rw [e1,<-xu hp]
 unfold onB
 rw [hs]
 simp only [cond_true,cond_false]
 rw [auK]
 generalize (xl (pS s) X (bS s)).nat=A
 generalize (bO (pS s) Y Y).nat=M
 have b1:Nat.blt X.nat (pS s)=true ↔ X.nat<pS s:=⟨λh=>Nat.le_of_ble_eq_true h,λh=>Nat.ble_eq_true_of_le h⟩
 have b2:Nat.blt Y.nat (pS s)=true ↔ Y.nat<pS s:=⟨λh=>Nat.le_of_ble_eq_true h,λh=>Nat.ble_eq_true_of_le h⟩
 rw [<-b1,<-b2]
 generalize Nat.blt X.nat (pS s)=x
 generalize Nat.blt Y.nat (pS s)=y
 have b3:Nat.beq M A=true ↔ M=A:=⟨Nat.eq_of_beq_eq_true,λe=>by rw [e,Nat.beq_refl]⟩
 rw [<-b3]
 generalize Nat.beq M A=z
 cases x<;>cases y<;>cases z<;>simp
theorem aHR {y:aa} (hy:y.nat<pS s) (h0:y.nat≠0):(zR (pS s) y).nat=pS s-y.nat:=by
 have hp:Sm (pS s):=ni hs
 rw [show (zR (pS s) y).nat=(pS s-y.nat%pS s)%pS s from cZ hp,Nat.mod_eq_of_lt hy,Nat.mod_eq_of_lt (by omega)]
omit hs in
theorem amv {p y:Nat} (hy:y<p):(p-y)*(p-y)%p=y*y%p:=by
 obtain ⟨d,hd⟩:∃ d,p=y+d:=⟨p-y,by omega⟩
 have e2:p-y=d:=by omega
 rw [e2]
 have e3:d*d+p*y=y*y+p*d:=by rw [hd];grind
 have:=congrArg (· %p) e3
 simp only [Nat.add_mul_mod_self_left] at this
 exact this
theorem ayC (x:aa):(sqA s x).nat≠0:=λh=>by
 have:=abm hs x
 rw [lc,h] at this
 cases this
theorem aq8 {X:aa} (hx:X.nat<pS s) (hq:sqB s X=true) (o:Bool):onB s (ptD s X o)=true/\Nat.beq ((ptD s X o).2.1.nat%2) 1=o:=by
 have k:=IY hs
 have ho:=k.o2
 have hA:=(aHq hs X).1
 have hz:=ayC hs X
 obtain ⟨r1,r2,r3⟩:=aHo hs hq
 rw [Nat.mod_eq_of_lt hA] at r3
 have r0:(sqY s X).nat≠0:=λe=>hz (by rw [<-r3,e,Nat.zero_mul,Nat.zero_mod])
 unfold ptD
 cases o
 ·refine ⟨(aBO hs).2 ⟨hx,r1,r3⟩,?_⟩
  show Nat.beq ((sqY s X).nat%2) 1=false
  rw [r2]
  rfl
 ·have e:=aHR hs r1 r0
  refine ⟨(aBO hs).2 ⟨hx,?_,?_⟩,?_⟩
  ·show (zR (pS s) (sqY s X)).nat<pS s
   rw [e]
   omega
  ·show (zR (pS s) (sqY s X)).nat*(zR (pS s) (sqY s X)).nat%pS s=_
   rw [e,amv r1,r3]
  ·show Nat.beq ((zR (pS s) (sqY s X)).nat%2) 1=true
   rw [e,show (pS s-(sqY s X).nat)%2=1 by omega]
   rfl
end
end Go.Proofs.YtohjofabochgfaaGreat

namespace Go.Proofs.YtohjofabochgfaaGreat
open Sx Go
set_option maxRecDepth 100000
def kp:aw:=⟨[.val false .int,.val true .elem],[],true,0,false⟩
abbrev QH:Type:=((Int)×(aa)×Unit)×(Unit)
def Bz:Shape:=⟨126,[(4,.ptr 0 0 0),(6,.ptr 1 0 0),(8,.ptr 2 0 0),(12,.ptr 3 0 0),(13,.ptr 4 0 0),(16,.ptr 5 0 0),(17,.val false .int)],[(0,.row .u64),(1,.cells [.val false .u64,.val false .u64,.val false .u64,.val false .u64,.val false .int,.val false .u64,.val false .u64,.val false .u64,.val false .u64,.val false .u64,.val false .u64]),(2,.row .u64),(3,.row .u64),(4,.row .u64),(5,.row .u64)],0,true⟩
abbrev bn:Type:=((Unit)×(Unit)×(Unit)×(Unit)×(Unit)×(Unit)×(Int)×Unit)×((List (UInt64))×((UInt64)×(UInt64)×(UInt64)×(UInt64)×(Int)×(UInt64)×(UInt64)×(UInt64)×(UInt64)×(UInt64)×(UInt64)×Unit)×(List (UInt64))×(List (UInt64))×(List (UInt64))×(List (UInt64))×Unit)
def Bx:Shape:=⟨126,[(4,.ptr 0 0 0),(6,.ptr 1 0 0),(8,.ptr 2 0 0),(12,.ptr 3 0 0),(13,.ptr 4 0 0),(16,.ptr 5 0 0),(17,.val false .int),(18,.val false .int),(19,.ptr 6 0 0)],[(0,.row .u64),(1,.cells [.val false .u64,.val false .u64,.val false .u64,.val false .u64,.val false .int,.val false .u64,.val false .u64,.val false .u64,.val false .u64,.val false .u64,.val false .u64]),(2,.row .u64),(3,.row .u64),(4,.row .u64),(5,.row .u64),(6,.row .u64)],0,true⟩
abbrev bL:Type:=((Unit)×(Unit)×(Unit)×(Unit)×(Unit)×(Unit)×(Int)×(Int)×(Unit)×Unit)×((List (UInt64))×((UInt64)×(UInt64)×(UInt64)×(UInt64)×(Int)×(UInt64)×(UInt64)×(UInt64)×(UInt64)×(UInt64)×(UInt64)×Unit)×(List (UInt64))×(List (UInt64))×(List (UInt64))×(List (UInt64))×(List (UInt64))×Unit)
def pa:Shape:=⟨126,[(4,.ptr 0 0 0),(6,.ptr 1 0 0),(8,.ptr 2 0 0),(12,.ptr 3 0 0),(13,.ptr 4 0 0),(16,.ptr 5 0 0),(17,.val false .int),(18,.val false .int)],[(0,.row .u64),(1,.cells [.val false .u64,.val false .u64,.val false .u64,.val false .u64,.val false .int,.val false .u64,.val false .u64,.val false .u64,.val false .u64,.val false .u64,.val false .u64]),(2,.row .u64),(3,.row .u64),(4,.row .u64),(5,.row .u64)],0,true⟩
abbrev ee:Type:=((Unit)×(Unit)×(Unit)×(Unit)×(Unit)×(Unit)×(Int)×(Int)×Unit)×((List (UInt64))×((UInt64)×(UInt64)×(UInt64)×(UInt64)×(Int)×(UInt64)×(UInt64)×(UInt64)×(UInt64)×(UInt64)×(UInt64)×Unit)×(List (UInt64))×(List (UInt64))×(List (UInt64))×(List (UInt64))×Unit)
def ajo:SE->Option Shape:=fw [(2,pa)] none
def aAf (a17:Int) (a18:Int) (c0:List (UInt64)) (c1_0:UInt64) (c1_1:UInt64) (c1_2:UInt64) (c1_3:UInt64) (c1_4:Int) (c1_5:UInt64) (c1_6:UInt64) (c1_7:UInt64) (c1_8:UInt64) (c1_9:UInt64) (c1_10:UInt64) (c2:List (UInt64)) (c3:List (UInt64)) (c4:List (UInt64)) (c5:List (UInt64)) (c6:List (UInt64)):OT (Sum bL aE):=
 let z0:Nat:=List.length c6
 let z1:Bool:=decide (4<=z0)
 let z2:UInt64:=List.getD c6 0 0
 let z3:UInt64:=List.getD c6 1 0
 let z4:UInt64:=List.getD c6 2 0
 let z5:UInt64:=List.getD c6 3 0
 let z6:aa:= {w0:=c1_0,w1:=c1_1,w2:=c1_2,w3:=c1_3}
 let z7:aa:= {w0:=z2,w1:=z3,w2:=z4,w3:=z5}
 let z8:aa:=bO (aa.nat z6) z7 z7
 let z9:List UInt64:=List.set (List.set (List.set (List.set c6 0 z8.w0) 1 z8.w1) 2 z8.w2) 3 z8.w3
 (gd [z1,decide (4<=List.length c2)] (.br (!(z2==List.getD c2 0 0&&(z3==List.getD c2 1 0&&(z4==List.getD c2 2 0&&(z5==List.getD c2 3 0&&true)))))
 (.br (decide (a18<a17))
  (gd [z1,z1,fW (((z6,c1_4,c1_5,c1_6,{w0:=c1_7,w1:=c1_8,w2:=c1_9,w3:=c1_10}),z7,z7,()),()),decide ((4/1:Nat)+0<=z0),decide (4<=List.length z9),inR (a18+(1:Int))] (.ok (.inl (((),((),((),((),((),((),(a17,(a18+(1:Int),((),()))))))))),(c0,((c1_0,(c1_1,(c1_2,(c1_3,(c1_4,(c1_5,(c1_6,(c1_7,(c1_8,(c1_9,(c1_10,()))))))))))),(c2,(c3,(c4,(c5,([List.getD z9 0 0,List.getD z9 1 0,List.getD z9 2 0,List.getD z9 3 0],())))))))))))
  (.ok (.inr ⟨(.exit 2,pa),(((),((),((),((),((),((),(a17,(a18,())))))))),(c0,((c1_0,(c1_1,(c1_2,(c1_3,(c1_4,(c1_5,(c1_6,(c1_7,(c1_8,(c1_9,(c1_10,()))))))))))),(c2,(c3,(c4,(c5,())))))))⟩)))
 (.ok (.inr ⟨(.exit 2,pa),(((),((),((),((),((),((),(a17,(a18,())))))))),(c0,((c1_0,(c1_1,(c1_2,(c1_3,(c1_4,(c1_5,(c1_6,(c1_7,(c1_8,(c1_9,(c1_10,()))))))))))),(c2,(c3,(c4,(c5,())))))))⟩))))
def BC (s:bL):OT (Sum bL aE):=aAf (s.1.2.2.2.2.2.2.1) (s.1.2.2.2.2.2.2.2.1) (s.2.1) (s.2.2.1.1) (s.2.2.1.2.1) (s.2.2.1.2.2.1) (s.2.2.1.2.2.2.1) (s.2.2.1.2.2.2.2.1) (s.2.2.1.2.2.2.2.2.1) (s.2.2.1.2.2.2.2.2.2.1) (s.2.2.1.2.2.2.2.2.2.2.1) (s.2.2.1.2.2.2.2.2.2.2.2.1) (s.2.2.1.2.2.2.2.2.2.2.2.2.1) (s.2.2.1.2.2.2.2.2.2.2.2.2.2.1) (s.2.2.2.1) (s.2.2.2.2.1) (s.2.2.2.2.2.1) (s.2.2.2.2.2.2.1) (s.2.2.2.2.2.2.2.1)
theorem az8 (s:bL) (Q:Sum bL aE->Prop):wps te uS av 1000 (aU (aU (aj Tryz.f97) 0) 2) (Bx.inj s) (bX Bx ajo (Q:Sum Bx.T aE->Prop))=(BC s).wpR Q:=by kernel_rfl
def Ig (g2_2:bL->ee) (s:bL):OT aE:=(.ok ⟨(.exit 2,pa),g2_2 s⟩)
def Bw:Shape:=⟨126,[(4,.ptr 0 0 0),(6,.ptr 1 0 0),(8,.ptr 2 0 0),(12,.ptr 3 0 0),(13,.ptr 4 0 0),(16,.ptr 5 0 0),(18,.val false .int),(20,.ptr 6 0 0),(97,.val false .int),(98,.val false .int)],[(0,.row .u64),(1,.cells [.val false .u64,.val false .u64,.val false .u64,.val false .u64,.val false .int,.val false .u64,.val false .u64,.val false .u64,.val false .u64,.val false .u64,.val false .u64]),(2,.row .u64),(3,.row .u64),(4,.row .u64),(5,.row .u64),(6,.row .u64)],0,true⟩
abbrev bK:Type:=((Unit)×(Unit)×(Unit)×(Unit)×(Unit)×(Unit)×(Int)×(Unit)×(Int)×(Int)×Unit)×((List (UInt64))×((UInt64)×(UInt64)×(UInt64)×(UInt64)×(Int)×(UInt64)×(UInt64)×(UInt64)×(UInt64)×(UInt64)×(UInt64)×Unit)×(List (UInt64))×(List (UInt64))×(List (UInt64))×(List (UInt64))×(List (UInt64))×Unit)
def vY:Shape:=⟨126,[(4,.ptr 0 0 0),(6,.ptr 1 0 0),(8,.ptr 2 0 0),(12,.ptr 3 0 0),(13,.ptr 4 0 0),(16,.ptr 5 0 0),(18,.val false .int),(20,.ptr 6 0 0)],[(0,.row .u64),(1,.cells [.val false .u64,.val false .u64,.val false .u64,.val false .u64,.val false .int,.val false .u64,.val false .u64,.val false .u64,.val false .u64,.val false .u64,.val false .u64]),(2,.row .u64),(3,.row .u64),(4,.row .u64),(5,.row .u64),(6,.row .u64)],0,true⟩
abbrev ed:Type:=((Unit)×(Unit)×(Unit)×(Unit)×(Unit)×(Unit)×(Int)×(Unit)×Unit)×((List (UInt64))×((UInt64)×(UInt64)×(UInt64)×(UInt64)×(Int)×(UInt64)×(UInt64)×(UInt64)×(UInt64)×(UInt64)×(UInt64)×Unit)×(List (UInt64))×(List (UInt64))×(List (UInt64))×(List (UInt64))×(List (UInt64))×Unit)
def ajn:SE->Option Shape:=fw [(4,vY)] none
def aAe (a18:Int) (a97:Int) (a98:Int) (c0:List (UInt64)) (c1_0:UInt64) (c1_1:UInt64) (c1_2:UInt64) (c1_3:UInt64) (c1_4:Int) (c1_5:UInt64) (c1_6:UInt64) (c1_7:UInt64) (c1_8:UInt64) (c1_9:UInt64) (c1_10:UInt64) (c2:List (UInt64)) (c3:List (UInt64)) (c4:List (UInt64)) (c5:List (UInt64)) (c6:List (UInt64)):OT (Sum bK aE):=
 let z0:Nat:=List.length c6
 let z1:Bool:=decide (4<=z0)
 let z2:aa:= {w0:=c1_0,w1:=c1_1,w2:=c1_2,w3:=c1_3}
 let z3:aa:= {w0:=List.getD c6 0 0,w1:=List.getD c6 1 0,w2:=List.getD c6 2 0,w3:=List.getD c6 3 0}
 let z4:aa:=bO (aa.nat z2) z3 z3
 (.br (decide (a98<a97))
 (gd [z1,z1,fW (((z2,c1_4,c1_5,c1_6,{w0:=c1_7,w1:=c1_8,w2:=c1_9,w3:=c1_10}),z3,z3,()),()),decide ((4/1:Nat)+0<=z0),inR (a98+(1:Int))] (.ok (.inl (((),((),((),((),((),((),(a18,((),(a97,(a98+(1:Int),())))))))))),(c0,((c1_0,(c1_1,(c1_2,(c1_3,(c1_4,(c1_5,(c1_6,(c1_7,(c1_8,(c1_9,(c1_10,()))))))))))),(c2,(c3,(c4,(c5,(List.set (List.set (List.set (List.set c6 0 z4.w0) 1 z4.w1) 2 z4.w2) 3 z4.w3,())))))))))))
 (.ok (.inr ⟨(.exit 4,vY),(((),((),((),((),((),((),(a18,((),())))))))),(c0,((c1_0,(c1_1,(c1_2,(c1_3,(c1_4,(c1_5,(c1_6,(c1_7,(c1_8,(c1_9,(c1_10,()))))))))))),(c2,(c3,(c4,(c5,(c6,()))))))))⟩)))
def BB (s:bK):OT (Sum bK aE):=aAe (s.1.2.2.2.2.2.2.1) (s.1.2.2.2.2.2.2.2.2.1) (s.1.2.2.2.2.2.2.2.2.2.1) (s.2.1) (s.2.2.1.1) (s.2.2.1.2.1) (s.2.2.1.2.2.1) (s.2.2.1.2.2.2.1) (s.2.2.1.2.2.2.2.1) (s.2.2.1.2.2.2.2.2.1) (s.2.2.1.2.2.2.2.2.2.1) (s.2.2.1.2.2.2.2.2.2.2.1) (s.2.2.1.2.2.2.2.2.2.2.2.1) (s.2.2.1.2.2.2.2.2.2.2.2.2.1) (s.2.2.1.2.2.2.2.2.2.2.2.2.2.1) (s.2.2.2.1) (s.2.2.2.2.1) (s.2.2.2.2.2.1) (s.2.2.2.2.2.2.1) (s.2.2.2.2.2.2.2.1)
theorem az7 (s:bK) (Q:Sum bK aE->Prop):wps te uS av 1000 (aU (aU (aj Tryz.f97) 0) 4) (Bw.inj s) (bX Bw ajn (Q:Sum Bw.T aE->Prop))=(BB s).wpR Q:=by kernel_rfl
def Ie (g4_4:bK->ed) (s:bK):OT aE:=(.ok ⟨(.exit 4,vY),g4_4 s⟩)
def k7:Shape:=⟨126,[(4,.ptr 0 0 0),(5,.val false .int)],[(0,.row .u64)],0,true⟩
abbrev jE:Type:=((Unit)×(Int)×Unit)×((List (UInt64))×Unit)
def pb:Shape:=⟨126,[(4,.ptr 0 0 0),(6,.ptr 1 0 0),(16,.ptr 2 0 0)],[(0,.row .u64),(1,.cells [.val false .u64,.val false .u64,.val false .u64,.val false .u64,.val false .int,.val false .u64,.val false .u64,.val false .u64,.val false .u64,.val false .u64,.val false .u64]),(2,.row .u64)],0,true⟩
abbrev jF:Type:=((Unit)×(Unit)×(Unit)×Unit)×((List (UInt64))×((UInt64)×(UInt64)×(UInt64)×(UInt64)×(Int)×(UInt64)×(UInt64)×(UInt64)×(UInt64)×(UInt64)×(UInt64)×Unit)×(List (UInt64))×Unit)
def ajp:SE->Option Shape:=fw [(0,pb)] (some k7)
def Ud (ok2:bL->Bool) (g2_2:bL->ee) (ok4:bK->Bool) (g4_4:bK->ed) (a17:Int) (c0:List (UInt64)) (c1_0:UInt64) (c1_1:UInt64) (c1_2:UInt64) (c1_3:UInt64) (c1_4:Int) (c1_5:UInt64) (c1_6:UInt64) (c1_7:UInt64) (c1_8:UInt64) (c1_9:UInt64) (c1_10:UInt64) (c2:List (UInt64)) (c3:List (UInt64)) (c4:List (UInt64)) (c5:List (UInt64)):OT (Sum bn aE):=
 let z0:Bool:=decide (4<=List.length c4)
 let z1:UInt64:=List.getD c4 0 0
 let z2:UInt64:=List.getD c4 1 0
 let z3:UInt64:=List.getD c4 2 0
 let z4:UInt64:=List.getD c4 3 0
 let z5:(PUnit×PUnit×PUnit×PUnit×PUnit×PUnit×Int×Int×PUnit×PUnit)×List UInt64×(UInt64×UInt64×UInt64×UInt64×Int×UInt64×UInt64×UInt64×UInt64×UInt64×UInt64×PUnit)×List UInt64×List UInt64×List UInt64×List UInt64×List UInt64×PUnit:=(((),(),(),(),(),(),a17,(0:Int),(),()),c0,(c1_0,c1_1,c1_2,c1_3,c1_4,c1_5,c1_6,c1_7,c1_8,c1_9,c1_10,()),c2,c3,c4,c5,[z1,z2,z3,z4],())
 let z6:(PUnit×PUnit×PUnit×PUnit×PUnit×PUnit×Int×Int×PUnit)×List UInt64×(UInt64×UInt64×UInt64×UInt64×Int×UInt64×UInt64×UInt64×UInt64×UInt64×UInt64×PUnit)×List UInt64×List UInt64×List UInt64×List UInt64×PUnit:=g2_2 z5
 let z7:=z6.fst.snd.snd.snd.snd.snd.snd
 let z8:=z7.snd.fst
 let z9:=z7.fst
 let z10:=z6.snd
 let z11:=z10.fst
 let z12:=z10.snd
 let z13:=z12.snd
 let z14:=z13.snd
 let z15:=z14.fst
 let z16:Int:=z9-z8
 let z17:=z12.fst
 let z18:=z17.snd
 let z19:=z18.snd
 let z20:=z19.snd
 let z21:=z20.snd
 let z22:=z21.snd
 let z23:=z22.snd
 let z24:=z23.snd
 let z25:=z24.snd
 let z26:=z25.snd
 let z27:=z14.snd
 let z28:(PUnit×PUnit×PUnit×PUnit×PUnit×PUnit×Int×PUnit×Int×Int×PUnit)×List UInt64×(UInt64×UInt64×UInt64×UInt64×Int×UInt64×UInt64×UInt64×UInt64×UInt64×UInt64×PUnit)×List UInt64×List UInt64×List UInt64×List UInt64×List UInt64×PUnit:=(((),(),(),(),(),(),z8,(),z16-(1:Int),(0:Int),()),z11,(z17.fst,z18.fst,z19.fst,z20.fst,z21.fst,z22.fst,z23.fst,z24.fst,z25.fst,z26.fst,z26.snd.fst,()),z13.fst,z15,z27.fst,z27.snd.fst,[List.getD z15 0 0,List.getD z15 1 0,List.getD z15 2 0,List.getD z15 3 0],())
 let z29:(PUnit×PUnit×PUnit×PUnit×PUnit×PUnit×Int×PUnit×PUnit)×List UInt64×(UInt64×UInt64×UInt64×UInt64×Int×UInt64×UInt64×UInt64×UInt64×UInt64×UInt64×PUnit)×List UInt64×List UInt64×List UInt64×List UInt64×List UInt64×PUnit:=g4_4 z28
 let z30:=z29.snd
 let z31:=z30.snd
 let z32:=z31.snd
 let z33:=z32.snd
 let z34:=z33.snd
 let z35:=z34.snd
 let z36:=z35.snd.fst
 let z37:Bool:=decide (4<=List.length z36)
 let z38:=z31.fst
 let z39:=z38.fst
 let z40:=z38.snd
 let z41:=z40.fst
 let z42:=z40.snd
 let z43:=z42.fst
 let z44:=z42.snd
 let z45:=z44.fst
 let z46:aa:= {w0:=z39,w1:=z41,w2:=z43,w3:=z45}
 let z47:=z44.snd
 let z48:=z47.fst
 let z49:=z47.snd
 let z50:=z49.fst
 let z51:=z49.snd
 let z52:=z51.fst
 let z53:=z51.snd
 let z54:=z53.fst
 let z55:=z53.snd
 let z56:=z55.fst
 let z57:=z55.snd
 let z58:=z57.fst
 let z59:=z57.snd.fst
 let z60:aa×Int×UInt64×UInt64×aa:=(z46,z48,z50,z52,{w0:=z54,w1:=z56,w2:=z58,w3:=z59})
 let z61:aa:= {w0:=List.getD z36 0 0,w1:=List.getD z36 1 0,w2:=List.getD z36 2 0,w3:=List.getD z36 3 0}
 let z62:aa×PUnit:=(z61,())
 let z63:=z33.fst
 let z64:=z34.fst
 let z65:Nat:=List.length z64
 let z66:Nat:=aa.nat z46
 let z67:aa:=bO z66 z61 z61
 let z68:List UInt64:=List.set (List.set (List.set (List.set z63 0 z67.w0) 1 z67.w1) 2 z67.w2) 3 z67.w3
 let z69:aa:= {w0:=List.getD z64 0 0,w1:=List.getD z64 1 0,w2:=List.getD z64 2 0,w3:=List.getD z64 3 0}
 let z70:aa:= {w0:=List.getD z68 0 0,w1:=List.getD z68 1 0,w2:=List.getD z68 2 0,w3:=List.getD z68 3 0}
 let z71:=z35.fst
 let z72:Nat:=List.length z71
 let z73:aa:= {w0:=List.getD z71 0 0,w1:=List.getD z71 1 0,w2:=List.getD z71 2 0,w3:=List.getD z71 3 0}
 let z74:aa:=bO z66 z69 z70
 let z75:aa:=bO z66 z73 z61
 (gd [z0,decide (4<=List.length c2)] (.br (!(z1==List.getD c2 0 0&&(z2==List.getD c2 1 0&&(z3==List.getD c2 2 0&&(z4==List.getD c2 3 0&&true)))))
 (gd [z0,ok2 z5] (.br (z8==z9)
  (gd [decide (4<=List.length z11)] (.ok (.inr ⟨(.ret,k7),(((),((22:Int),())),(List.set (List.set (List.set (List.set z11 0 (0:UInt64)) 1 (0:UInt64)) 2 (0:UInt64)) 3 (0:UInt64),()))⟩)))
  (gd [decide (4<=List.length z15),inR z16,inR (z16-(1:Int)),ok4 z28,z37,z37,fW ((z60,z61,z62),()),decide ((4/1:Nat)+0<=List.length z63),decide (4<=z65),decide (4<=List.length z68),fW ((z60,z69,z70,()),()),decide ((4/1:Nat)+0<=z65),decide (4<=z72),z37,fW ((z60,z73,z62),()),decide ((4/1:Nat)+0<=z72)] (.ok (.inl (((),((),((),((),((),((),(z29.fst.snd.snd.snd.snd.snd.snd.fst,()))))))),(z30.fst,((z39,(z41,(z43,(z45,(z48,(z50,(z52,(z54,(z56,(z58,(z59,()))))))))))),(z32.fst,(z68,(List.set (List.set (List.set (List.set z64 0 z74.w0) 1 z74.w1) 2 z74.w2) 3 z74.w3,(List.set (List.set (List.set (List.set z71 0 z75.w0) 1 z75.w1) 2 z75.w2) 3 z75.w3,()))))))))))))
 (.ok (.inr ⟨(.exit 0,pb),(((),((),((),()))),(c0,((c1_0,(c1_1,(c1_2,(c1_3,(c1_4,(c1_5,(c1_6,(c1_7,(c1_8,(c1_9,(c1_10,()))))))))))),(c5,()))))⟩))))
def vZ (ok2:bL->Bool) (g2_2:bL->ee) (ok4:bK->Bool) (g4_4:bK->ed) (s:bn):OT (Sum bn aE):=Ud ok2 g2_2 ok4 g4_4 (s.1.2.2.2.2.2.2.1) (s.2.1) (s.2.2.1.1) (s.2.2.1.2.1) (s.2.2.1.2.2.1) (s.2.2.1.2.2.2.1) (s.2.2.1.2.2.2.2.1) (s.2.2.1.2.2.2.2.2.1) (s.2.2.1.2.2.2.2.2.2.1) (s.2.2.1.2.2.2.2.2.2.2.1) (s.2.2.1.2.2.2.2.2.2.2.2.1) (s.2.2.1.2.2.2.2.2.2.2.2.2.1) (s.2.2.1.2.2.2.2.2.2.2.2.2.2.1) (s.2.2.2.1) (s.2.2.2.2.1) (s.2.2.2.2.2.1) (s.2.2.2.2.2.2.1)
theorem az9 (ok2:bL->Bool) (g2_2:bL->ee) (ok4:bK->Bool) (g4_4:bK->ed) (s:bn) (Q:Sum bn aE->Prop):wps te uS (aO 4 (cg Bw 4 ok4 (Ie g4_4)) (aO 2 (cg Bx 2 ok2 (Ig g2_2)) av)) 1000 (aU (aj Tryz.f97) 0) (Bz.inj s) (bX Bz ajp (Q:Sum Bz.T aE->Prop))=(vZ ok2 g2_2 ok4 g4_4 s).wpR Q:=by kernel_rfl
def Ih (g0_r:bn->jE) (c0_r:bn->Bool) (g0_0:bn->jF) (s:bn):OT aE:=(.br (c0_r s) (.ok ⟨(.ret,k7),g0_r s⟩) (.ok ⟨(.exit 0,pb),g0_0 s⟩))
def eo:az:=⟨[.val true .elem,.val false .int],[],false⟩
def YA:SV->Option az:=λ_=>some eo
def EV (ok2:bL->Bool) (g2_2:bL->ee) (ok4:bK->Bool) (g4_4:bK->ed) (ok0:bn->Bool) (g0_r:bn->jE) (c0_r:bn->Bool) (g0_0:bn->jF) (a0:Int) (a1:aa):OT kp.Y:=
 let z0:aa×Int×UInt64×UInt64×aa:=aX (Int.toNat a0)
 let z1:=z0.fst
 let z2:aa:=ofN (aa.nat a1%aa.nat z1)
 let z3:aa:= {w0:=1,w1:=0,w2:=0,w3:=0}
 let z4:=(eg z1 z3).fst
 let z5:=z0.snd
 let z6:=z5.fst
 let z7:aa:= {w0:=5,w1:=0,w2:=0,w3:=0}
 let z8:aa:=dO z4 (Int.toNat z6)
 let z9:aa×PUnit:=(z8,())
 let z10:aa:=dj (p9 z8 z3).fst
 let z11:=z5.snd
 let z12:=z11.snd
 let z13:=z12.snd
 let z14:Nat:=pS a0
 let z15:aa:=gN z14 z7 z8
 let z16:aa:=gN z14 z2 z8
 let z17:aa:=gN z14 z2 z10
 let z18:(PUnit×PUnit×PUnit×PUnit×PUnit×PUnit×Int×PUnit)×List UInt64×(UInt64×UInt64×UInt64×UInt64×Int×UInt64×UInt64×UInt64×UInt64×UInt64×UInt64×PUnit)×List UInt64×List UInt64×List UInt64×List UInt64×PUnit:=(((),(),(),(),(),(),z6,()),[(0:UInt64),(0:UInt64),(0:UInt64),(0:UInt64)],(z1.w0,z1.w1,z1.w2,z1.w3,z6,z11.fst,z12.fst,z13.w0,z13.w1,z13.w2,z13.w3,()),[(1:UInt64),(0:UInt64),(0:UInt64),(0:UInt64)],[z15.w0,z15.w1,z15.w2,z15.w3],[z16.w0,z16.w1,z16.w2,z16.w3],[z17.w0,z17.w1,z17.w2,z17.w3],())
 let z19:(PUnit×Int×PUnit)×List UInt64×PUnit:=g0_r z18
 let z20:=z19.snd.fst
 let z21:=(g0_0 z18).snd
 let z22:=z21.snd
 let z23:=z22.snd.fst
 let z24:Nat:=List.length z23
 let z25:UInt64:=List.getD z23 0 0
 let z26:Bool:=decide (4<=z24)
 let z27:=z22.fst
 let z28:=z27.snd
 let z29:=z28.snd
 let z30:=z29.snd
 let z31:aa:= {w0:=z27.fst,w1:=z28.fst,w2:=z29.fst,w3:=z30.fst}
 let z32:=z30.snd
 let z33:=z32.snd
 let z34:=z33.snd
 let z35:=z34.snd
 let z36:=z35.snd
 let z37:=z36.snd
 let z38:aa:= {w0:=z25,w1:=List.getD z23 1 0,w2:=List.getD z23 2 0,w3:=List.getD z23 3 0}
 let z39:aa:=zR (aa.nat z31) z38
 let z40:List UInt64:=List.set (List.set (List.set (List.set z23 0 z39.w0) 1 z39.w1) 2 z39.w2) 3 z39.w3
 let z41:=z21.fst
 let z42:Nat:=List.length z41
 let z43:List UInt64:=lay z41 z40 4 (0:UInt64)
 let z44:List UInt64:=lay z41 z23 4 (0:UInt64)
 (.br (al a0)
 (gd [gv ((z0,a1,()),())] (.br (z2.w0==(0:UInt64)&&(z2.w1==(0:UInt64)&&(z2.w2==(0:UInt64)&&(z2.w3==(0:UInt64)&&true))))
  (.ok ⟨eo,((z2,((0:Int),())),())⟩)
  (gd [rb ((z4,z6,()),()),tP ((a0,z7,z9),()),tP ((a0,z2,z9),()),tP ((a0,z2,z10,()),()),ok0 z18] (.br (c0_r z18)
   (gd [decide (4<=List.length z20)] (.ok ⟨eo,(({w0:=List.getD z20 0 0,w1:=List.getD z20 1 0,w2:=List.getD z20 2 0,w3:=List.getD z20 3 0},(z19.fst.snd.fst,())),())⟩))
   (gd [decide (0<z24)] (.br (z25&&&(1:UInt64)==(1:UInt64))
    (gd [z26,BJ (((z31,z32.fst,z33.fst,z34.fst,{w0:=z35.fst,w1:=z36.fst,w2:=z37.fst,w3:=z37.snd.fst}),z38,()),()),decide ((4/1:Nat)+0<=z24),decide (4<=List.length z40),decide ((4/1:Nat)+0<=z42),decide (4<=List.length z43)] (.ok ⟨eo,(({w0:=List.getD z43 0 0,w1:=List.getD z43 1 0,w2:=List.getD z43 2 0,w3:=List.getD z43 3 0},((0:Int),())),())⟩))
    (gd [z26,decide ((4/1:Nat)+0<=z42),decide (4<=List.length z44)] (.ok ⟨eo,(({w0:=List.getD z44 0 0,w1:=List.getD z44 1 0,w2:=List.getD z44 2 0,w3:=List.getD z44 3 0},((0:Int),())),())⟩))))))))
 (.ok ⟨eo,(({w0:=0,w1:=0,w2:=0,w3:=0},((20:Int),())),())⟩))
theorem aFt (ok2:bL->Bool) (g2_2:bL->ee) (ok4:bK->Bool) (g4_4:bK->ed) (ok0:bn->Bool) (g0_r:bn->jE) (c0_r:bn->Bool) (g0_0:bn->jF) (x:QH) (Q:kp.Y->Prop):wpf te uS (aO 0 (cg Bz 0 ok0 (Ih g0_r c0_r g0_0)) av) 1000 Tryz.f97 (kp.inp.inj x).tm (kp.inp.inj x).hp (fnK kp YA Q) (λ_ _=>False)=(EV ok2 g2_2 ok4 g4_4 ok0 g0_r c0_r g0_0 (x.1.1) (x.1.2.1)).wpR Q:=by kernel_rfl
theorem am3 (ok2:bL->Bool) (g2_2:bL->ee) (ok4:bK->Bool) (g4_4:bK->ed) (ok0:bn->Bool) (g0_r:bn->jE) (c0_r:bn->Bool) (g0_0:bn->jF) (h2:∀ s:bL,ok2 s=true->∃ m e,ao (BC) m s=some e/\(Ig g2_2 s).run=some e) (h4:∀ s:bK,ok4 s=true->∃ m e,ao (BB) m s=some e/\(Ie g4_4 s).run=some e) (h0:∀ s:bn,ok0 s=true->∃ m e,ao (vZ ok2 g2_2 ok4 g4_4) m s=some e/\(Ih g0_r c0_r g0_0 s).run=some e) (pre:QH->Bool) (F:QH->OT kp.Y) (hF:∀ (x:QH) oy,pre x=true->(F x).run=some oy->(EV ok2 g2_2 ok4 g4_4 ok0 g0_r c0_r g0_0 (x.1.1) (x.1.2.1)).run=some oy):ac Tryz.prog 97 (kp.aI pre F):=
 aD aq lb rH (f:=97) (fn:=Tryz.f97) (c:=aj Tryz.f97) (by kernel_rfl) (by kernel_rfl) (by kernel_rfl) (S:=kp) (k:=0) (by kernel_rfl) (λR hR=>(aB (c:=(aj Tryz.f97)) (by kernel_rfl) (id:=0) (by kernel_rfl) (aQ aq lb rH (sh:=Bz) hR (xs:=ajp) (aC (by kernel_rfl) (by kernel_rfl) hR) aL (aB (c:=(aU (aj Tryz.f97) 0)) (by kernel_rfl) (id:=4) (by kernel_rfl) (aQ aq lb rH (sh:=Bw) hR (xs:=ajn) (aC (by kernel_rfl) (by kernel_rfl) hR) aL af (n:=1000) (T:=BB) (λs Q=>az7 s Q) (ok:=ok4) (f:=Ie g4_4) h4) (aB (c:=(aU (aj Tryz.f97) 0)) (by kernel_rfl) (id:=2) (by kernel_rfl) (aQ aq lb rH (sh:=Bx) hR (xs:=ajo) (aC (by kernel_rfl) (by kernel_rfl) hR) aL af (n:=1000) (T:=BC) (λs Q=>az8 s Q) (ok:=ok2) (f:=Ig g2_2) h2) af)) (n:=1000) (T:=vZ ok2 g2_2 ok4 g4_4) (λs Q=>az9 ok2 g2_2 ok4 g4_4 s Q) (ok:=ok0) (f:=Ih g0_r c0_r g0_0) h0) af)) (n:=1000) (sel:=YA) (λv o h=>by cases h;rfl) (pre:=pre) (F:=F) (T:=λx=>EV ok2 g2_2 ok4 g4_4 ok0 g0_r c0_r g0_0 (x.1.1) (x.1.2.1)) (λx Q=>aFt ok2 g2_2 ok4 g4_4 ok0 g0_r c0_r g0_0 x Q) hF
abbrev C11:Type:=UInt64×UInt64×UInt64×UInt64×Int×UInt64×UInt64×UInt64×UInt64×UInt64×UInt64×Unit
def pZ (c:C11):OR:=(⟨c.1,c.2.1,c.2.2.1,c.2.2.2.1⟩,c.2.2.2.2.1,c.2.2.2.2.2.1,c.2.2.2.2.2.2.1,⟨c.2.2.2.2.2.2.2.1,c.2.2.2.2.2.2.2.2.1,c.2.2.2.2.2.2.2.2.2.1,c.2.2.2.2.2.2.2.2.2.2.1⟩)
def ka (s:bL):Bool:=kk (pZ s.2.2.1)&&decide ((0<=s.1.2.2.2.2.2.2.1/\s.1.2.2.2.2.2.2.1<=1000)/\s.1.2.2.2.2.2.2.2.1=0/\s.2.2.2.1= [1,0,0,0]/\s.2.2.2.2.2.2.2.1.length=4)
def qZ (s:bL):ee:=(((),(),(),(),(),(),s.1.2.2.2.2.2.2.1,(kF (pZ s.2.2.1).1.nat s.1.2.2.2.2.2.2.1.toNat (elemOf s.2.2.2.2.2.2.2.1) 0:Int),()),(s.2.1,s.2.2.1,s.2.2.2.1,s.2.2.2.2.1,s.2.2.2.2.2.1,s.2.2.2.2.2.2.1,()))
def abl (c0:List UInt64) (C:C11) (z t x:List UInt64) (m k:Int) (u:aa):bL:=(((),(),(),(),(),(),m,k,(),()),(c0,C,lst eJ,z,t,x,lst u,()))
theorem ahR (c0:List UInt64) (C:C11) (z t x:List UInt64) (m:Nat) (hC:kk (pZ C)=true) (hm:m<=1000):∀ (n k:Nat) (u:aa),k+n=m->
 ∃ j,ao BC j (abl c0 C z t x (m:Int) (k:Int) u)=some ⟨(.exit 2,pa),(((),(),(),(),(),(),(m:Int),(kF (pZ C).1.nat n u k:Int),()),(c0,C,lst eJ,z,t,x,()))⟩
 |0,k,u,h=>by
  refine ⟨1,aM ?_⟩
  refine (ah rfl).trans ?_
  rcases (Bool.eq_false_or_eq_true (eqE u eJ)).symm with hq|hq
  ·exact (OT.ap (b:= !eqE u eJ) (by rw [hq];rfl)).trans (OT.ar (decide_eq_false (by dsimp only [abl];omega)))
  ·exact OT.ar (b:= !eqE u eJ) (by rw [hq];rfl)
 |n+1,k,u,h=>by
  unfold kF
  rcases (Bool.eq_false_or_eq_true (eqE u eJ)).symm with hq|hq
  ·rw [hq]
   obtain ⟨j,hj⟩:=ahR c0 C z t x m hC hm n (k+1) (bO (pZ C).1.nat u u) (by omega)
   refine ⟨j+1,aF ?_ hj⟩
   refine (ah rfl).trans ((OT.ap (b:= !eqE u eJ) (by rw [hq];rfl)).trans ((OT.ap (decide_eq_true (by dsimp only [abl];omega))).trans ((ah ?_).trans rfl)))
   simp only [List.all_cons,List.all_nil,Bool.and_true,Bool.and_eq_true]
   exact ⟨rfl,rfl,hC,rfl,rfl,aH (by dsimp only [abl];omega)⟩
  ·rw [hq]
   refine ⟨1,aM ?_⟩
   exact (ah rfl).trans (OT.ar (b:= !eqE u eJ) (by rw [hq];rfl))
theorem aAc:∀ s:bL,ka s=true->∃ m e,ao BC m s=some e/\(Ig qZ s).run=some e:=by
 rintro ⟨⟨⟨⟩,⟨⟩,⟨⟩,⟨⟩,⟨⟩,⟨⟩,m,k,⟨⟩,⟨⟩⟩,⟨c0,C,one,z,t,x,u,⟨⟩⟩⟩ h
 simp only [ka,Bool.and_eq_true,decide_eq_true_eq] at h
 obtain ⟨hC,⟨h0,h1⟩,rfl,rfl,hu⟩:=h
 obtain ⟨v,rfl⟩:∃ a,u=lst a:=⟨elemOf u,(aS hu).symm⟩
 obtain ⟨n,rfl⟩:∃ n:Nat,m=(n:Int):=⟨m.toNat,by omega⟩
 obtain ⟨j,hj⟩:=ahR c0 C z t x n hC (by omega) n 0 v (by omega)
 exact ⟨j,_,hj,rfl⟩
def j9 (s:bK):Bool:=kk (pZ s.2.2.1)&&decide ((0<=s.1.2.2.2.2.2.2.2.2.1/\s.1.2.2.2.2.2.2.2.2.1<=1000)/\s.1.2.2.2.2.2.2.2.2.2.1=0/\s.2.2.2.2.2.2.2.1.length=4)
def qY (s:bK):ed:=(((),(),(),(),(),(),s.1.2.2.2.2.2.2.1,(),()),(s.2.1,s.2.2.1,s.2.2.2.1,s.2.2.2.2.1,s.2.2.2.2.2.1,s.2.2.2.2.2.2.1,lst (sqN (pZ s.2.2.1).1.nat (elemOf s.2.2.2.2.2.2.2.1) s.1.2.2.2.2.2.2.2.2.1.toNat),()))
theorem aAb:∀ s:bK,j9 s=true->∃ m e,ao BB m s=some e/\(Ie qY s).run=some e:=by
 rintro ⟨⟨⟨⟩,⟨⟩,⟨⟩,⟨⟩,⟨⟩,⟨⟩,k,⟨⟩,n,i,⟨⟩⟩,⟨c0,C,one,z,t,x,u,⟨⟩⟩⟩ h
 simp only [j9,Bool.and_eq_true,decide_eq_true_eq] at h
 obtain ⟨hC,⟨h0,h1⟩,rfl,hu⟩:=h
 obtain ⟨v,rfl⟩:∃ a,u=lst a:=⟨elemOf u,(aS hu).symm⟩
 obtain ⟨d,rfl⟩:∃ d:Nat,n=(d:Int):=⟨n.toNat,by omega⟩
 have:=(aP (T:=BB) (λi u=>((((),(),(),(),(),(),k,(),(d:Int),(i:Int),()),(c0,C,one,z,t,x,lst u,())):bK)) (λ_ e=>bO (pZ C).1.nat e e)
  (λu=>(⟨(.exit 4,vY),(((),(),(),(),(),(),k,(),()),(c0,C,one,z,t,x,lst u,()))⟩:aE)) d v (λ_ _=>True) trivial (λi u hi _=>⟨?_,trivial⟩) (λu _=> ?_)).1
 ·obtain ⟨m,hm⟩:=this
  exact ⟨m,_,hm,rfl⟩
 ·refine (OT.ap (decide_eq_true (by dsimp only;omega))).trans ((ah ?_).trans rfl)
  simp only [List.all_cons,List.all_nil,Bool.and_true,Bool.and_eq_true]
  exact ⟨rfl,rfl,hC,rfl,aH (by omega)⟩
 ·exact OT.ar (decide_eq_false (by dsimp only;omega))
def aD6 (c0:aa) (C:C11) (m:Int) (w:Ton):bn:=(((),(),(),(),(),(),m,()),(lst c0,C,lst eJ,lst w.2.2,lst w.2.1,lst w.1,()))
theorem aD5 {ok2:bL->Bool} {g2:bL->ee} {ok4:bK->Bool} {g4:bK->ed} {c0:aa} {C:C11} {m k:Nat} {w:Ton} {b:aa} (hC:kk (pZ C)=true) (hm:m<=1000) (hq:eqE w.2.1 eJ=false)
 (h2:ok2 (abl (lst c0) C (lst w.2.2) (lst w.2.1) (lst w.1) (m:Int) 0 w.2.1)=true)
 (e2:g2 (abl (lst c0) C (lst w.2.2) (lst w.2.1) (lst w.1) (m:Int) 0 w.2.1)=(((),(),(),(),(),(),(m:Int),(k:Int),()),(lst c0,C,lst eJ,lst w.2.2,lst w.2.1,lst w.1,()))) (hk:k<=m)
 (h4:k<m->ok4 (((),(),(),(),(),(),(k:Int),(),(m:Int)-(k:Int)-1,0,()),(lst c0,C,lst eJ,lst w.2.2,lst w.2.1,lst w.1,lst w.2.2,()))=true)
 (e4:g4 (((),(),(),(),(),(),(k:Int),(),(m:Int)-(k:Int)-1,0,()),(lst c0,C,lst eJ,lst w.2.2,lst w.2.1,lst w.1,lst w.2.2,()))=(((),(),(),(),(),(),(k:Int),(),()),(lst c0,C,lst eJ,lst w.2.2,lst w.2.1,lst w.1,lst b,()))):
 (vZ ok2 g2 ok4 g4 (aD6 c0 C (m:Int) w)).run=cond (Nat.beq k m) (some (.inr ⟨(.ret,k7),(((),(22:Int),()),(lst ⟨0,0,0,0⟩,()))⟩))
  (some (.inl (aD6 c0 C (k:Int) (bO (pZ C).1.nat w.1 b,bO (pZ C).1.nat w.2.1 (bO (pZ C).1.nat b b),bO (pZ C).1.nat b b)))):=by
 obtain ⟨x,t,z⟩:=w
 unfold abl at h2 e2
 have hb:∀ e:aa,[List.getD (lst e) 0 0,List.getD (lst e) 1 0,List.getD (lst e) 2 0,List.getD (lst e) 3 0]=lst e:=λ_=>rfl
 have hpre:∀ a c:aa,fW ((pZ C,a,c,()),())=true:=λ_ _=>hC
 have e2':g2 (((),(),(),(),(),(),(m:Int),0,(),()),(lst c0,(C.1,C.2.1,C.2.2.1,C.2.2.2.1,C.2.2.2.2.1,C.2.2.2.2.2.1,C.2.2.2.2.2.2.1,C.2.2.2.2.2.2.2.1,C.2.2.2.2.2.2.2.2.1,C.2.2.2.2.2.2.2.2.2.1,C.2.2.2.2.2.2.2.2.2.2.1,()),lst eJ,lst z,lst t,lst x,lst t,()))=(((),(),(),(),(),(),(m:Int),(k:Int),()),(lst c0,C,lst eJ,lst z,lst t,lst x,())):=e2
 have e4':g4 (((),(),(),(),(),(),(k:Int),(),(m:Int)-(k:Int)-1,0,()),(lst c0,(C.1,C.2.1,C.2.2.1,C.2.2.2.1,C.2.2.2.2.1,C.2.2.2.2.2.1,C.2.2.2.2.2.2.1,C.2.2.2.2.2.2.2.1,C.2.2.2.2.2.2.2.2.1,C.2.2.2.2.2.2.2.2.2.1,C.2.2.2.2.2.2.2.2.2.2.1,()),lst eJ,lst z,lst t,lst x,lst z,()))=(((),(),(),(),(),(),(k:Int),(),()),(lst c0,C,lst eJ,lst z,lst t,lst x,lst b,())):=e4
 show (Ud ok2 g2 ok4 g4 (m:Int) (lst c0) C.1 C.2.1 C.2.2.1 C.2.2.2.1 C.2.2.2.2.1 C.2.2.2.2.2.1 C.2.2.2.2.2.2.1 C.2.2.2.2.2.2.2.1 C.2.2.2.2.2.2.2.2.1 C.2.2.2.2.2.2.2.2.2.1 C.2.2.2.2.2.2.2.2.2.2.1 (lst eJ) (lst z) (lst t) (lst x)).run=_
 unfold Ud
 simp only [hb,e2',e4']
 refine (ah rfl).trans ((OT.ap (b:= !eqE t eJ) (by rw [hq];rfl)).trans ((ah ?_).trans ?_))
 ·simp only [List.all_cons,List.all_nil,Bool.and_true,Bool.and_eq_true]
  exact ⟨rfl,h2⟩
 ·by_cases h:k=m
  ·subst h
   rw [Nat.beq_refl]
   refine (OT.ap (beq_self_eq_true _)).trans ((ah rfl).trans rfl)
  ·have hn:Nat.beq k m=false:=by
    cases hb:Nat.beq k m
    ·rfl
    ·exact absurd (Nat.eq_of_beq_eq_true hb) h
   rw [hn]
   refine (OT.ar ?_).trans ((ah ?_).trans rfl)
   ·exact beq_false_of_ne (λe=>h (by omega))
   ·simp only [List.all_cons,List.all_nil,Bool.and_true,Bool.and_eq_true]
    exact ⟨rfl,aH (by omega),aH (by omega),h4 (by omega),rfl,rfl,hC,rfl,rfl,rfl,hC,rfl,rfl,rfl,hC,rfl⟩
def aHp (c0:aa) (C:C11):Option aa->aE
 |some x=>⟨(.exit 0,pb),(((),(),(),()),(lst c0,C,lst x,()))⟩
 |none=>⟨(.ret,k7),(((),(22:Int),()),(lst ⟨0,0,0,0⟩,()))⟩
theorem ahS (c0:aa) (C:C11) (hC:kk (pZ C)=true):∀ (f m:Nat) (w:Ton),m<f->m<=1000->
 ∃ j,ao (vZ ka qZ j9 qY) j (aD6 c0 C (m:Int) w)=some (aHp c0 C (tsF (pZ C).1.nat f m w))
 |0,m,w,h,_=>absurd h (Nat.not_lt_zero _)
 |f+1,m,w,hf,hm=>by
  unfold tsF
  rcases (Bool.eq_false_or_eq_true (eqE w.2.1 eJ)).symm with hq|hq
  ·rw [hq]
   simp only [cond_false]
   have hk:kF (pZ C).1.nat m w.2.1 0<=m:=by
    have key:∀ (n:Nat) (s:aa) (k:Nat),kF (pZ C).1.nat n s k<=k+n:=by
     intro n
     induction n with
     |zero=>intro s k;exact Nat.le_refl _
     |succ n ih=>
      intro s k
      unfold kF
      cases eqE s eJ
      ·have:=ih (bO (pZ C).1.nat s s) (k+1)
       simp only [cond_false]
       omega
      ·simp only [cond_true]
       omega
    have:=key m w.2.1 0
    omega
   have hst:=aD5 (ok2:=ka) (g2:=qZ) (ok4:=j9) (g4:=qY) (c0:=c0) (C:=C) (m:=m) (k:=kF (pZ C).1.nat m w.2.1 0) (w:=w) (b:=tsB (pZ C).1.nat m (kF (pZ C).1.nat m w.2.1 0) w) hC hm hq
    (by
     refine (Bool.and_eq_true _ _).mpr ⟨hC,decide_eq_true ⟨⟨?_,?_⟩,rfl,rfl,rfl⟩⟩
     ·show (0:Int)<=(m:Int);omega
     ·show (m:Int)<=1000;omega) rfl hk
    (λhlt=>by
     refine (Bool.and_eq_true _ _).mpr ⟨hC,decide_eq_true ⟨⟨?_,?_⟩,rfl,rfl⟩⟩
     ·show (0:Int)<=(m:Int)-(kF (pZ C).1.nat m w.2.1 0:Int)-1;omega
     ·show (m:Int)-(kF (pZ C).1.nat m w.2.1 0:Int)-1<=1000;omega)
    (by
     have e:((m:Int)-(kF (pZ C).1.nat m w.2.1 0:Int)-1).toNat=m-kF (pZ C).1.nat m w.2.1 0-1:=by omega
     show (((),(),(),(),(),(),(kF (pZ C).1.nat m w.2.1 0:Int),(),()),(lst c0,C,lst eJ,lst w.2.2,lst w.2.1,lst w.1,lst (sqN (pZ C).1.nat w.2.2 ((m:Int)-(kF (pZ C).1.nat m w.2.1 0:Int)-1).toNat),()))=_
     rw [e]
     rfl)
   cases hb:Nat.beq (kF (pZ C).1.nat m w.2.1 0) m
   ·rw [hb] at hst
    have hne:=yO hb
    obtain ⟨j,hj⟩:=ahS c0 C hC f (kF (pZ C).1.nat m w.2.1 0) (tsW (pZ C).1.nat m (kF (pZ C).1.nat m w.2.1 0) w) (by omega) (by omega)
    exact ⟨j+1,aF hst hj⟩
   ·rw [hb] at hst
    exact ⟨1,aM hst⟩
  ·rw [hq]
   simp only [cond_true]
   refine ⟨1,aM ?_⟩
   exact (ah rfl).trans (OT.ar (b:= !eqE w.2.1 eJ) (by rw [hq];rfl))
def tz (s:bn):Option aa:=tsF (pZ s.2.2.1).1.nat (s.1.2.2.2.2.2.2.1.toNat+1) s.1.2.2.2.2.2.2.1.toNat (elemOf s.2.2.2.2.2.2.1,elemOf s.2.2.2.2.2.1,elemOf s.2.2.2.2.1)
def o9 (s:bn):Bool:=kk (pZ s.2.2.1)&&decide ((0<=s.1.2.2.2.2.2.2.1/\s.1.2.2.2.2.2.2.1<=1000)/\s.2.1.length=4/\s.2.2.2.1= [1,0,0,0]/\s.2.2.2.2.1.length=4/\s.2.2.2.2.2.1.length=4/\s.2.2.2.2.2.2.1.length=4)
def Ii (s:bn):Bool:=(tz s).isNone
def BA (_:bn):jE:=(((),(22:Int),()),(lst ⟨0,0,0,0⟩,()))
def Ic (s:bn):jF:=(((),(),(),()),(s.2.1,s.2.2.1,lst ((tz s).getD ⟨0,0,0,0⟩),()))
theorem aAd:∀ s:bn,o9 s=true->∃ m e,ao (vZ ka qZ j9 qY) m s=some e/\(Ih BA Ii Ic s).run=some e:=by
 rintro ⟨⟨⟨⟩,⟨⟩,⟨⟩,⟨⟩,⟨⟩,⟨⟩,m,⟨⟩⟩,⟨c0,C,one,z,t,x,⟨⟩⟩⟩ h
 simp only [o9,Bool.and_eq_true,decide_eq_true_eq] at h
 obtain ⟨hC,⟨h0,h1⟩,hc,rfl,hz,ht,hx⟩:=h
 obtain ⟨c,rfl⟩:∃ a,c0=lst a:=⟨elemOf c0,(aS hc).symm⟩
 obtain ⟨Z,rfl⟩:∃ a,z=lst a:=⟨elemOf z,(aS hz).symm⟩
 obtain ⟨T,rfl⟩:∃ a,t=lst a:=⟨elemOf t,(aS ht).symm⟩
 obtain ⟨X,rfl⟩:∃ a,x=lst a:=⟨elemOf x,(aS hx).symm⟩
 obtain ⟨n,rfl⟩:∃ n:Nat,m=(n:Int):=⟨m.toNat,by omega⟩
 obtain ⟨j,hj⟩:=ahS c C hC (n+1) n (X,T,Z) (by omega) (by omega)
 refine ⟨j,_,hj,?_⟩
 show (OT.br (tsF (pZ C).1.nat (n+1) n (X,T,Z)).isNone (.ok ⟨(.ret,k7),_⟩) (.ok ⟨(.exit 0,pb),(((),(),(),()),(lst c,C,lst ((tsF (pZ C).1.nat (n+1) n (X,T,Z)).getD ⟨0,0,0,0⟩),()))⟩):OT aE).run=some (aHp c C (tsF (pZ C).1.nat (n+1) n (X,T,Z)))
 cases tsF (pZ C).1.nat (n+1) n (X,T,Z)<;>rfl
def YB (_:QH):Bool:=true
def atY (x:QH):OT kp.Y:=.br (al x.1.1) (.br (bQ (ofP (pS x.1.1) x.1.2.1)) (.ok ⟨eo,((⟨0,0,0,0⟩,((0:Int),())),())⟩)
 (.br (eqE (gN (pS x.1.1) (ofP (pS x.1.1) x.1.2.1) (dj (eg (aX x.1.1.toNat).1 eJ).1)) eJ) (.ok ⟨eo,((kR (pS x.1.1) (sn x.1.1 (ofP (pS x.1.1) x.1.2.1)),((0:Int),())),())⟩) (.ok ⟨eo,((⟨0,0,0,0⟩,((22:Int),())),())⟩)))
 (.ok ⟨eo,((⟨0,0,0,0⟩,((20:Int),())),())⟩)
def aJA (n:OR):C11:=(n.1.w0,n.1.w1,n.1.w2,n.1.w3,n.2.1,n.2.2.1,n.2.2.2.1,n.2.2.2.2.w0,n.2.2.2.2.w1,n.2.2.2.2.w2,n.2.2.2.2.w3,())
abbrev V7 (n:OR) (z t x:aa):bn:=(((),(),(),(),(),(),n.2.1,()),[0,0,0,0],(n.1.w0,n.1.w1,n.1.w2,n.1.w3,n.2.1,n.2.2.1,n.2.2.2.1,n.2.2.2.2.w0,n.2.2.2.2.w1,n.2.2.2.2.w2,n.2.2.2.2.w3,()),[1,0,0,0],[z.w0,z.w1,z.w2,z.w3],[t.w0,t.w1,t.w2,t.w3],[x.w0,x.w1,x.w2,x.w3],())
theorem am4 {ok2:bL->Bool} {g2:bL->ee} {ok4:bK->Bool} {g4:bK->ed} {ok0:bn->Bool} {g0r:bn->jE} {c0:bn->Bool} {g0:bn->jF} {s:Int} {a A z t x X:aa} {c:Bool}
 (hs:al s=true) (k:akI s) (hA:ofN (a.nat%(aX s.toNat).1.nat)=A) (hz:bQ A=false) (ez:gN (pS s) ⟨5,0,0,0⟩ (H4 s)=z) (et:gN (pS s) A (H4 s)=t) (ex:gN (pS s) A (dj (p9 (H4 s) eJ).1)=x)
 (h0:ok0 (V7 (aX s.toNat) z t x)=true) (hc:c0 (V7 (aX s.toNat) z t x)=c) (er:g0r (V7 (aX s.toNat) z t x)=(((),(22:Int),()),(lst ⟨0,0,0,0⟩,())))
 (e0:g0 (V7 (aX s.toNat) z t x)=(((),(),(),()),(lst ⟨0,0,0,0⟩,aJA (aX s.toNat),lst X,()))):
 (EV ok2 g2 ok4 g4 ok0 g0r c0 g0 s a).run=cond c (some ⟨eo,((⟨0,0,0,0⟩,((22:Int),())),())⟩) (some ⟨eo,((kR (pS s) X,((0:Int),())),())⟩):=by
 have ez':gN (pS s) ⟨5,0,0,0⟩ (dO (eg (aX s.toNat).1 ⟨1,0,0,0⟩).1 (aX s.toNat).2.1.toNat)=z:=ez
 have et':gN (pS s) A (dO (eg (aX s.toNat).1 ⟨1,0,0,0⟩).1 (aX s.toNat).2.1.toNat)=t:=et
 have ex':gN (pS s) A (dj (p9 (dO (eg (aX s.toNat).1 ⟨1,0,0,0⟩).1 (aX s.toNat).2.1.toNat) ⟨1,0,0,0⟩).1)=x:=ex
 have hp1:rb (((eg (aX s.toNat).1 ⟨1,0,0,0⟩).1,(aX s.toNat).2.1,()),())=true:=by
  refine decide_eq_true ?_
  show 0<=(aX s.toNat).2.1/\(aX s.toNat).2.1<=1000000
  have h:=awe hs
  omega
 unfold EV
 simp only [hA,ez',et',ex',er,e0,hc]
 refine (OT.ap hs).trans ((ah ?_).trans ((OT.ar (b:=bQ A) hz).trans ((ah ?_).trans ?_)))
 ·simp only [List.all_cons,List.all_nil,Bool.and_true]
  exact iQ hs
 ·simp only [List.all_cons,List.all_nil,Bool.and_true,Bool.and_eq_true]
  exact ⟨hp1,hs,hs,hs,h0⟩
 ·cases c
  ·have hn:kk (pZ (aJA (aX s.toNat)))=true:=iQ hs
   refine (OT.ar rfl).trans ((ah rfl).trans ?_)
   have ho:=azH X
   unfold kR
   rcases (Bool.eq_false_or_eq_true (X.w0%2==1)).symm with h|h
   ·rw [h] at ho⊢
    exact (OT.ar ho).trans ((ah rfl).trans rfl)
   ·rw [h] at ho⊢
    refine (OT.ap ho).trans ((ah ?_).trans rfl)
    simp only [List.all_cons,List.all_nil,Bool.and_true,Bool.and_eq_true]
    exact ⟨rfl,hn,rfl,rfl,rfl,rfl⟩
  ·exact (OT.ap rfl).trans ((ah rfl).trans rfl)
theorem aAa:ac Tryz.prog 97 (kp.aI YB atY):=am3 ka qZ j9 qY o9 BA Ii Ic aAc aAb aAd _ _ λx oy hp ho=>by
 rw [<-ho]
 clear ho
 obtain ⟨⟨s,a,⟨⟩⟩,⟨⟩⟩:=x
 show (EV ka qZ j9 qY o9 BA Ii Ic s a).run=(OT.br (al s) (.br (bQ (ofP (pS s) a)) (.ok ⟨eo,((⟨0,0,0,0⟩,((0:Int),())),())⟩)
  (.br (eqE (gN (pS s) (ofP (pS s) a) (dj (eg (aX s.toNat).1 eJ).1)) eJ) (.ok ⟨eo,((kR (pS s) (sn s (ofP (pS s) a)),((0:Int),())),())⟩) (.ok ⟨eo,((⟨0,0,0,0⟩,((22:Int),())),())⟩)))
  (.ok ⟨eo,((⟨0,0,0,0⟩,((20:Int),())),())⟩):OT kp.Y).run
 rcases (Bool.eq_false_or_eq_true (al s)).symm with hs|hs
 ·exact (OT.ar hs).trans (OT.ar (b:=al s) hs).symm
 ·have k:=IY hs
  refine Eq.trans ?_ (OT.ap (b:=al s) hs).symm
  have hA:ofN (a.nat%(aX s.toNat).1.nat)=ofP (pS s) a:=rfl
  have hlt:(ofP (pS s) a).nat<pS s:=by
   rw [show (ofP (pS s) a).nat=a.nat%pS s from cZ k.sm]
   exact Nat.mod_lt _ k.pr.pos
  generalize ofP (pS s) a=A at*
  rcases (Bool.eq_false_or_eq_true (bQ A)).symm with hz|hz
  ·refine Eq.trans ?_ (OT.ar (b:=bQ A) hz).symm
   have hsame:=aCG k hlt hz
   have hres:tz (V7 (aX s.toNat) (fx s A).2.2 (fx s A).2.1 (fx s A).1)=tsF (pS s) (adS s+1) (adS s) (fx s A):=rfl
   have hbd:=awe hs
   have h0:o9 (V7 (aX s.toNat) (fx s A).2.2 (fx s A).2.1 (fx s A).1)=true:=by
    refine (Bool.and_eq_true _ _).mpr ⟨iQ hs,decide_eq_true ⟨⟨?_,?_⟩,rfl,rfl,rfl,rfl,rfl⟩⟩
    ·show 0<=(aX s.toNat).2.1;omega
    ·show (aX s.toNat).2.1<=1000;omega
   have main:=am4 (ok2:=ka) (g2:=qZ) (ok4:=j9) (g4:=qY) (ok0:=o9) (g0r:=BA) (c0:=Ii) (g0:=Ic) (X:=(tz (V7 (aX s.toNat) (fx s A).2.2 (fx s A).2.1 (fx s A).1)).getD ⟨0,0,0,0⟩) hs k hA hz rfl rfl rfl h0 rfl rfl rfl
   refine main.trans ?_
   show cond (tz (V7 (aX s.toNat) (fx s A).2.2 (fx s A).2.1 (fx s A).1)).isNone _ _=_
   rw [hres]
   rcases (Bool.eq_false_or_eq_true (eqE (gN (pS s) A (dj (eg (aX s.toNat).1 eJ).1)) eJ)).symm with h|h
   ·rw [h] at hsame
    refine Eq.trans ?_ (OT.ar h).symm
    cases ht:tsF (pS s) (adS s+1) (adS s) (fx s A) with
    |none=>rfl
    |some x=>rw [ht] at hsame;cases hsame
   ·rw [h] at hsame
    refine Eq.trans ?_ (OT.ap h).symm
    cases ht:tsF (pS s) (adS s+1) (adS s) (fx s A) with
    |none=>rw [ht] at hsame;cases hsame
    |some x=>
     rw [ht] at hsame
     have hsame:some (kR (pS s) x)=some (kR (pS s) (sn s A)):=hsame
     rw [<-Option.some.inj hsame]
     rfl
  ·refine Eq.trans ?_ (OT.ap (b:=bQ A) hz).symm
   rw [zero_eq hz] at hA
   refine (OT.ap hs).trans ((ah ?_).trans ?_)
   ·simp only [List.all_cons,List.all_nil,Bool.and_true]
    exact iQ hs
   ·rw [hA]
    rfl
def EU:cj:=(kp.aI YB atY)
theorem adR:ac Tryz.prog 97 EU:=aAa
theorem adQ:aG EU:=aA
def FX:Env:=ay 97 EU uS
theorem xf:aR Tryz.prog FX:=ag adR lb
theorem Hg:ax FX:=ae adQ Hl
theorem Np:aW Tryz.prog te FX:=aK follows aq xf Hg
def fb:aw:=⟨[.val false .int,.val true .elem],[],true,0,false⟩
abbrev wm:Type:=((Int)×(aa)×Unit)×(Unit)
def pn:Shape:=⟨39,[(3,.ptr 0 0 0),(7,.own 1),(21,.val false .int),(22,.val false .int)],[(0,.row .u64),(1,.row .u8)],0,true⟩
abbrev ca:Type:=((Unit)×(Unit)×(Int)×(Int)×Unit)×((List (UInt64))×(List (UInt8))×Unit)
def nx:Shape:=⟨39,[(7,.own 0)],[(0,.row .u8)],0,true⟩
abbrev iZ:Type:=((Unit)×Unit)×((List (UInt8))×Unit)
def QV:SE->Option Shape:=fw [(0,nx)] none
def anG (a21:Int) (a22:Int) (c0:List (UInt64)) (c1:List (UInt8)):OT (Sum ca aE):=
 let z0:Int:=Int.tdiv a22 (8:Int)
 let z1:Int:=(8:Int)*Int.tmod a22 (8:Int)
 let z2:Nat:=List.length c1
 let z3:Nat:=Int.toNat a22
 (.br (decide (a22<a21))
 (gd [true&&inR z0,inB z0 4,decide (Int.toNat z0+0<List.length c0),inR z1,decide ((0:Int)<=z1),inB a22 z2,decide (z3<z2),inR (a22+(1:Int))] (.ok (.inl (((),((),(a21,(a22+(1:Int),())))),(c0,(List.set c1 z3 (UInt64.toUInt8 (bf (List.getD c0 (Int.toNat z0+0) (0:UInt64)) z1)),()))))))
 (.ok (.inr ⟨(.exit 0,nx),(((),()),(c1,()))⟩)))
def po (s:ca):OT (Sum ca aE):=anG (s.1.2.2.1) (s.1.2.2.2.1) (s.2.1) (s.2.2.1)
theorem anD (s:ca) (Q:Sum ca aE->Prop):wps te FX av 1000 (aU (aj Tryz.f53) 0) (pn.inj s) (bX pn QV (Q:Sum pn.T aE->Prop))=(po s).wpR Q:=by kernel_rfl
def wl (g0_0:ca->iZ) (s:ca):OT aE:=(.ok ⟨(.exit 0,nx),g0_0 s⟩)
def jI:az:=⟨[.own 0],[(0,.row .u8)],false⟩
def LM:SV->Option az:=λ_=>some jI
def LO (ok0:ca->Bool) (g0_0:ca->iZ) (a0:Int) (a1:aa):OT fb.Y:=
 let z0:aa×Int×UInt64×UInt64×aa:=aX (Int.toNat a0)
 let z1:aa:=ofN (aa.nat a1%aa.nat z0.fst)
 let z2:(PUnit×PUnit×Int×Int×PUnit)×List UInt64×List UInt8×PUnit:=(((),(),(32:Int),(0:Int),()),[z1.w0,z1.w1,z1.w2,z1.w3],List.replicate 32 (0:UInt8),())
 (.br (al a0)
 (gd [gv ((z0,a1,()),()),ok0 z2] (.ok ⟨jI,(((),()),((g0_0 z2).snd.fst,()))⟩))
 (.ok ⟨jI,(((),()),([],()))⟩))
theorem aut (ok0:ca->Bool) (g0_0:ca->iZ) (x:wm) (Q:fb.Y->Prop):wpf te FX (aO 0 (cg pn 0 ok0 (wl g0_0)) av) 1000 Tryz.f53 (fb.inp.inj x).tm (fb.inp.inj x).hp (fnK fb LM Q) (λ_ _=>False)=(LO ok0 g0_0 (x.1.1) (x.1.2.1)).wpR Q:=by kernel_rfl
theorem Y3 (ok0:ca->Bool) (g0_0:ca->iZ) (h0:∀ s:ca,ok0 s=true->∃ m e,ao (po) m s=some e/\(wl g0_0 s).run=some e) (pre:wm->Bool) (F:wm->OT fb.Y) (hF:∀ (x:wm) oy,pre x=true->(F x).run=some oy->(LO ok0 g0_0 (x.1.1) (x.1.2.1)).run=some oy):ac Tryz.prog 53 (fb.aI pre F):=
 aD aq xf Np (f:=53) (fn:=Tryz.f53) (c:=aj Tryz.f53) (by kernel_rfl) (by kernel_rfl) (by kernel_rfl) (S:=fb) (k:=0) (by kernel_rfl) (λR hR=>(aB (c:=(aj Tryz.f53)) (by kernel_rfl) (id:=0) (by kernel_rfl) (aQ aq xf Np (sh:=pn) hR (xs:=QV) (aC (by kernel_rfl) (by kernel_rfl) hR) aL af (n:=1000) (T:=po) (λs Q=>anD s Q) (ok:=ok0) (f:=wl g0_0) h0) af)) (n:=1000) (sel:=LM) (λv o h=>by cases h;rfl) (pre:=pre) (F:=F) (T:=λx=>LO ok0 g0_0 (x.1.1) (x.1.2.1)) (λx Q=>aut ok0 g0_0 x Q) hF
def VO (e:aa):List UInt8:=upto (λk o=>o.set k (UInt64.toUInt8 (bf ((lst e).getD (k/8) 0) (8*((k%8:Nat):Int))))) (List.replicate 32 0) 32
def y6 (s:ca):Bool:=decide (s.1.2.2.1=32/\s.1.2.2.2.1=0/\s.2.1.length=4/\s.2.2.1=List.replicate 32 0)
def wk (s:ca):iZ:=(((),()),(VO (elemOf s.2.1),()))
theorem anF:∀ s:ca,y6 s=true->∃ m e,ao po m s=some e/\(wl wk s).run=some e:=by
 rintro ⟨⟨⟨⟩,⟨⟩,n,i,⟨⟩⟩,⟨h,o,⟨⟩⟩⟩ hh
 have h':=of_decide_eq_true hh
 dsimp only at h'
 obtain ⟨rfl,rfl,hl,rfl⟩:=h'
 obtain ⟨e,rfl⟩:∃ e,h=lst e:=⟨elemOf h,(aS hl).symm⟩
 have:=(aP (T:=po) (λi o=>((((),(),(32:Int),(i:Int),()),(lst e,o,())):ca)) (λk o=>o.set k (UInt64.toUInt8 (bf ((lst e).getD (k/8) 0) (8*((k%8:Nat):Int)))))
  (λo=>(⟨(.exit 0,nx),(((),()),(o,()))⟩:aE)) 32 (List.replicate 32 0) (λ_ o=>o.length=32) (by simp) (λi o hi ho=>⟨?_,by rw [List.length_set];exact ho⟩) (λo ho=> ?_)).1
 ·obtain ⟨m,hm⟩:=this
  exact ⟨m,_,hm,rfl⟩
 ·have t1:Int.tdiv (i:Int) 8=((i/8:Nat):Int):=by rw [Int.tdiv_eq_ediv_of_nonneg (by omega)];omega
  have t2:Int.tmod (i:Int) 8=((i%8:Nat):Int):=by rw [Int.tmod_eq_emod_of_nonneg (by omega)];omega
  refine (OT.ap (decide_eq_true (by dsimp only;omega))).trans ((ah ?_).trans ?_)
  ·simp only [t1,t2,cG,ho,Int.toNat_natCast,List.all_cons,List.all_nil,Bool.and_true,Bool.and_eq_true]
   exact ⟨⟨trivial,aH (by omega)⟩,aN (by omega),decide_eq_true (by omega),aH (by omega),decide_eq_true (by omega),aN (by omega),decide_eq_true (by omega),aH (by omega)⟩
  ·simp only [OT.cL,t1,t2,Int.toNat_natCast,Nat.add_zero]
   rfl
 ·exact OT.ar (decide_eq_false (by dsimp only;omega))
theorem OE (e:aa):y6 (((),(),32,0,()),(lst e,List.replicate 32 0,()))=true:=decide_eq_true ⟨rfl,rfl,rfl,rfl⟩
theorem aeb (z:aa):(OT.ok ⟨jI,(((),()),((wk (((),(),32,0,()),([z.w0,z.w1,z.w2,z.w3],List.replicate 32 0,()))).2.1,()))⟩:OT fb.Y)=.ok ⟨jI,(((),()),(VO z,()))⟩:=by
 have e:elemOf [z.w0,z.w1,z.w2,z.w3]=z:=rfl
 simp only [wk,e]
def LN (_:wm):Bool:=true
def Y4 (x:wm):OT fb.Y:=.br (al x.1.1) (.ok ⟨jI,(((),()),(VO (ofN (x.1.2.1.nat%(aX x.1.1.toNat).1.nat)),()))⟩) (.ok ⟨jI,(((),()),([],()))⟩)
theorem anE:ac Tryz.prog 53 (fb.aI LN Y4):=Y3 y6 wk anF _ _ λx oy hp ho=>by
 rw [<-ho]
 clear ho
 obtain ⟨⟨s,a,⟨⟩⟩,⟨⟩⟩:=x
 cases hs:al s
 ·exact (OT.ar hs).trans (OT.ar (b:=al s) hs).symm
 ·refine (OT.ap hs).trans ((ah ?_).trans ?_)
  ·simp only [List.all_cons,List.all_nil,Bool.and_true,Bool.and_eq_true]
   exact ⟨iQ hs,OE _⟩
  ·refine Eq.trans ?_ (OT.ap (b:=al s) hs).symm
   exact congrArg OT.run (aeb (ofN (a.nat%(aX s.toNat).1.nat)))
def tQ:cj:=(fb.aI LN Y4)
theorem Uw:ac Tryz.prog 53 tQ:=anE
theorem Uv:aG tQ:=aA
def uU:Env:=ay 53 tQ FX
theorem uT:aR Tryz.prog uU:=ag Uw xf
theorem xU:ax uU:=ae Uv Hg
theorem VE:aW Tryz.prog te uU:=aK follows aq uT xU
end Go.Proofs.YtohjofabochgfaaGreat

namespace Go.Proofs.YtohjofabochgfaaGreat
open Sx Go
abbrev dk:Pt:=(⟨0,0,0,0⟩,⟨0,0,0,0⟩,false)
end Go.Proofs.YtohjofabochgfaaGreat

namespace Go.Proofs.YtohjofabochgfaaGreat
open Sx Go
set_option maxRecDepth 100000
def dc:aw:=⟨[.val false .int,.val false (.list .u8)],[],true,0,false⟩
abbrev ny:Type:=((Int)×(List (UInt8))×Unit)×(Unit)
def bu:az:=⟨[.val true (.prod .elem (.prod .elem .bool)),.val false .int],[],false⟩
def Me:SV->Option az:=λ_=>some bu
def uh (a0:Int) (a1:List (UInt8)):OT dc.Y:=
 let z0:Bool:=al a0
 let z1:Nat:=List.length a1
 let z2:aa:= {w0:=0,w1:=0,w2:=0,w3:=0}
 let z3:aa×Bool:=(z2,false)
 let z4:aa×aa×Bool:=(z2,z3)
 let z5:Bool:=inB (31:Int) z1
 let z6:Bool:=decide (31<z1)
 let z7:UInt8:=List.getD a1 31 (0:UInt8)
 let z8:List UInt8:=List.set a1 31 (z7&&&(127:UInt8))
 let z9:aa:=HB z8
 let z10:Nat:=pS a0
 let z11:aa:=bS a0
 let z12:Bool:=ui ((a0,z9,z11,()),())
 let z13:aa:=ofP z10 (xl z10 z9 z11)
 let z14:Bool:=bQ z13
 let z15:Bool:= !(0:UInt8)==z7>>>(7:UInt8)
 let z16:aa×aa×Bool:=(z9,zR z10 z2,false)
 let z17:aa×aa×Bool:=(z9,z3)
 let z18:Bool:=eqE (gN z10 z13 (dj (eg (aX (Int.toNat a0)).fst eJ).fst)) eJ
 let z19:aa:=kR z10 (sn a0 z13)
 let z20:Bool:= !UInt64.toUInt8 (z19.w0&&&(1:UInt64))==z7>>>(7:UInt8)
 let z21:aa×aa×Bool:=(z9,zR z10 z19,false)
 let z22:aa×aa×Bool:=(z9,z19,false)
 (.br (z0)
 (.br (!(↑z1:Int)==(32:Int))
  (.ok ⟨bu,((z4,((41:Int),())),())⟩)
  (gd [k9 ((a1,()),()),z5,z6,z5,z6,z5,z6] (.br (z0)
   (.br (fA z8)
    (.br (Nat.blt (aa.nat z9) z10)
     (.br (z9.w0==(0:UInt64)&&(z9.w1==(0:UInt64)&&(z9.w2==(0:UInt64)&&(z9.w3==(0:UInt64)&&true))))
      (.br (z7>>>(7:UInt8)==(0:UInt8))
       (.ok ⟨bu,(((z2,z2,true),((0:Int),())),())⟩)
       (gd [z12] (.br (z0)
        (.br (z14)
         (.br (z15)
          (.br (z0)
           (.ok ⟨bu,((z16,((0:Int),())),())⟩)
           (.ok ⟨bu,((z17,((0:Int),())),())⟩))
          (.ok ⟨bu,((z17,((0:Int),())),())⟩))
         (.br (z18)
          (.br (z20)
           (.br (z0)
            (.ok ⟨bu,((z21,((0:Int),())),())⟩)
            (.ok ⟨bu,((z17,((0:Int),())),())⟩))
           (.ok ⟨bu,((z22,((0:Int),())),())⟩))
          (.ok ⟨bu,((z4,((41:Int),())),())⟩)))
        (.ok ⟨bu,((z4,((41:Int),())),())⟩))))
      (gd [z12] (.br (z0)
       (.br (z14)
        (.br (z15)
         (.br (z0)
          (.ok ⟨bu,((z16,((0:Int),())),())⟩)
          (.ok ⟨bu,((z17,((0:Int),())),())⟩))
         (.ok ⟨bu,((z17,((0:Int),())),())⟩))
        (.br (z18)
         (.br (z20)
          (.br (z0)
           (.ok ⟨bu,((z21,((0:Int),())),())⟩)
           (.ok ⟨bu,((z17,((0:Int),())),())⟩))
          (.ok ⟨bu,((z22,((0:Int),())),())⟩))
         (.ok ⟨bu,((z4,((41:Int),())),())⟩)))
       (.ok ⟨bu,((z4,((41:Int),())),())⟩))))
     (.ok ⟨bu,((z4,((41:Int),())),())⟩))
    (.ok ⟨bu,((z4,((41:Int),())),())⟩))
   (.ok ⟨bu,((z4,((41:Int),())),())⟩))))
 (.ok ⟨bu,((z4,((40:Int),())),())⟩))
theorem avk (x:ny) (Q:dc.Y->Prop):wpf te uU av 1000 Tryz.f58 (dc.inp.inj x).tm (dc.inp.inj x).hp (fnK dc Me Q) (λ_ _=>False)=(uh (x.1.1) (x.1.2.1)).wpR Q:=by kernel_rfl
theorem Zv (pre:ny->Bool) (F:ny->OT dc.Y) (hF:∀ (x:ny) oy,pre x=true->(F x).run=some oy->(uh (x.1.1) (x.1.2.1)).run=some oy):ac Tryz.prog 58 (dc.aI pre F):=
 aD aq uT VE (f:=58) (fn:=Tryz.f58) (c:=aj Tryz.f58) (by kernel_rfl) (by kernel_rfl) (by kernel_rfl) (S:=dc) (k:=0) (by kernel_rfl) (λR hR=>af) (n:=1000) (sel:=Me) (λv o h=>by cases h;rfl) (pre:=pre) (F:=F) (T:=λx=>uh (x.1.1) (x.1.2.1)) (λx Q=>avk x Q) hF
def Oy (b:List UInt8):aa:=HB (b.set 31 (b.getD 31 0&&&127))
def Gu (b:List UInt8):Bool:= !(b.getD 31 0>>>7==0)
theorem aAs {y:aa} (h:y.nat%2=0):UInt64.toUInt8 (y.w0&&&1)=0:=by
 have e:y.nat%2=y.w0.toNat%2:=by unfold Sx.aa.nat;omega
 have h2:(y.w0&&&1).toNat=y.w0.toNat%2:=by
  rw [UInt64.toNat_and]
  exact Nat.and_two_pow_sub_one_eq_mod y.w0.toNat 1
 have:y.w0&&&1=0:=UInt64.toNat_inj.1 (by rw [h2,<-e,h];rfl)
 rw [this]
 rfl
def Mf (_:ny):Bool:=true
def aB8 {S:aw} (f:Pt->Int->OT S.Y) (s:Int) (b:List UInt8):OT S.Y:=.br (al s) (.br (fA b) (.br (Nat.blt (Oy b).nat (pS s)) (.br (bQ (Oy b)) (.br (Gu b) (f dk 41) (f cB 0)) (.br (sqB s (Oy b)) (f (ptD s (Oy b) (Gu b)) 0) (f dk 41))) (f dk 41)) (f dk 41)) (f dk 40)
def Zx (x:ny):OT dc.Y:=aB8 (S:=dc) (λP e=>.ok ⟨bu,((P,(e,())),())⟩) x.1.1 x.1.2.1
theorem Zw {s:Int} {b:List UInt8} {N:aa} (hN:Oy b=N):(uh s b).run=(aB8 (S:=dc) (λP e=>.ok ⟨bu,((P,(e,())),())⟩) s b).run:=by
 have hN':HB (List.set b 31 (List.getD b 31 0&&&127))=N:=hN
 unfold uh aB8
 rw [hN]
 simp only [hN']
 rcases (Bool.eq_false_or_eq_true (al s)).symm with hs|hs
 ·exact (OT.ar hs).trans (OT.ar (b:=al s) hs).symm
 ·refine (OT.ap hs).trans (Eq.trans ?_ (OT.ap (b:=al s) hs).symm)
  rcases (Bool.eq_false_or_eq_true (fA b)).symm with hl|hl
  ·exact (OT.ap (b:= !fA b) (by rw [hl];rfl)).trans (OT.ar (b:=fA b) hl).symm
  ·have hlen:=o6.1 hl
   have i1:inB 31 b.length=true:=aN (by omega)
   have i2:decide (31<b.length)=true:=decide_eq_true (by omega)
   have i3:k9 ((b,()),())=true:=decide_eq_true (by show b.length<=_;omega)
   have i4:fA (List.set b 31 (List.getD b 31 0&&&127))=true:=o6.2 (by rw [List.length_set];exact hlen)
   have hg:∀ z:aa,ui ((s,z,bS s,()),())=true:=λ_=>hs
   refine (OT.ar (b:= !fA b) (by rw [hl];rfl)).trans (Eq.trans ((ah ?_).trans ((OT.ap hs).trans ((OT.ap i4).trans ?_))) (OT.ap (b:=fA b) hl).symm)
   ·simp only [i1,i2,i3,List.all_cons,List.all_nil,Bool.and_self]
   ·rcases (Bool.eq_false_or_eq_true (Nat.blt N.nat (pS s))).symm with hb|hb
    ·exact (OT.ar hb).trans (OT.ar (b:=Nat.blt N.nat (pS s)) hb).symm
    ·refine (OT.ap hb).trans (Eq.trans ?_ (OT.ap (b:=Nat.blt N.nat (pS s)) hb).symm)
     have hA:=abm hs N
     have sg:(List.getD b 31 0>>>7==0)= !Gu b:=by unfold Gu;rw [Bool.not_not]
     rcases (Bool.eq_false_or_eq_true (bQ N)).symm with hz|hz
     ·refine (OT.ar (b:=bQ N) hz).trans (Eq.trans ?_ (OT.ar (b:=bQ N) hz).symm)
      refine (ah (by rw [hg];rfl)).trans ((OT.ap hs).trans ((OT.ar (b:=bQ (sqA s N)) hA).trans ?_))
      rcases (Bool.eq_false_or_eq_true (sqB s N)).symm with hq|hq
      ·exact (OT.ar (b:=sqB s N) hq).trans (OT.ar (b:=sqB s N) hq).symm
      ·refine (OT.ap (b:=sqB s N) hq).trans (Eq.trans ?_ (OT.ap (b:=sqB s N) hq).symm)
       have hy:=aAs (aHo hs hq).2.1
       have hc:(!UInt64.toUInt8 ((sqY s N).w0&&&1)==List.getD b 31 0>>>7)=Gu b:=by
        rw [hy]
        unfold Gu
        rw [Bool.beq_comm]
       unfold ptD
       rcases (Bool.eq_false_or_eq_true (Gu b)).symm with ho|ho
       ·rw [ho] at hc⊢
        exact (OT.ar hc).trans rfl
       ·rw [ho] at hc⊢
        exact (OT.ap hc).trans ((OT.ap hs).trans rfl)
     ·refine (OT.ap (b:=bQ N) hz).trans (Eq.trans ?_ (OT.ap (b:=bQ N) hz).symm)
      have hN0:=zero_eq hz
      rcases (Bool.eq_false_or_eq_true (Gu b)).symm with ho|ho
      ·exact (OT.ap (by rw [sg,ho];rfl)).trans (OT.ar (b:=Gu b) ho).symm
      ·refine (OT.ar (by rw [sg,ho];rfl)).trans (Eq.trans ?_ (OT.ap (b:=Gu b) ho).symm)
       have hq:sqB s N=false:=by rw [hN0];exact ayB hs
       exact (ah (by rw [hg];rfl)).trans ((OT.ap hs).trans ((OT.ar (b:=bQ (sqA s N)) hA).trans (OT.ar (b:=sqB s N) hq)))
theorem Q9:ac Tryz.prog 58 (dc.aI Mf Zx):=Zv _ _ λx oy hp ho=>by
 rw [<-ho]
 clear ho
 obtain ⟨⟨s,b,⟨⟩⟩,⟨⟩⟩:=x
 exact Zw rfl
def ug:cj:=(dc.aI Mf Zx)
theorem US:ac Tryz.prog 58 ug:=Q9
theorem UR:aG ug:=aA
def pV:Env:=ay 58 ug uU
theorem nK:aR Tryz.prog pV:=ag US uT
theorem xX:ax pV:=ae UR xU
theorem C6:aW Tryz.prog te pV:=aK follows aq nK xX
def eA:aw:=⟨[.val false (.list .u8)],[],true,0,false⟩
abbrev om:Type:=((List (UInt8))×Unit)×(Unit)
def lG:Shape:=⟨27,[(0,.val false (.list .u8)),(2,.ptr 0 0 0),(3,.ptr 1 0 0),(4,.val false .int)],[(0,.row .u64),(1,.row .u64)],0,true⟩
abbrev bt:Type:=((List (UInt8))×(Unit)×(Unit)×(Int)×Unit)×((List (UInt64))×(List (UInt64))×Unit)
def kE:Shape:=⟨27,[(2,.ptr 0 0 0),(3,.ptr 1 0 0)],[(0,.row .u64),(1,.row .u64)],0,true⟩
abbrev fk:Type:=((Unit)×(Unit)×Unit)×((List (UInt64))×(List (UInt64))×Unit)
def JA:SE->Option Shape:=fw [(0,kE)] none
def ab9 (a0:List (UInt8)) (a4:Int) (c0:List (UInt64)) (c1:List (UInt64)):OT (Sum bt aE):=
 let z0:Int:=Int.tdiv a4 (8:Int)
 let z1:Bool:=inB z0 4
 let z2:Bool:=decide (Int.toNat z0+0<List.length c1)
 let z3:Int:=(8:Int)*Int.tmod a4 (8:Int)
 (.br (decide (a4<(32:Int)))
 (gd [true&&inR z0,z1,z2,inB a4 (List.length a0),inR z3,z1,z2,inR (a4+(1:Int))] (.ok (.inl ((a0,((),((),(a4+(1:Int),())))),(c0,(List.set c1 (Int.toNat z0+0) (List.getD c1 (Int.toNat z0+0) (0:UInt64)|||bR (UInt8.toUInt64 (List.getD a0 (Int.toNat a4) (0:UInt8))) (↑(UInt64.toNat (i2u z3)):Int)),()))))))
 (.ok (.inr ⟨(.exit 0,kE),(((),((),())),(c0,(c1,())))⟩)))
def lH (s:bt):OT (Sum bt aE):=ab9 (s.1.1) (s.1.2.2.2.1) (s.2.1) (s.2.2.1)
theorem ab6 (s:bt) (Q:Sum bt aE->Prop):wps te pV av 1000 (aU (aj Tryz.f100) 0) (lG.inj s) (bX lG JA (Q:Sum lG.T aE->Prop))=(lH s).wpR Q:=by kernel_rfl
def qv (g0_0:bt->fk) (s:bt):OT aE:=(.ok ⟨(.exit 0,kE),g0_0 s⟩)
def qu:az:=⟨[.val true .elem],[],false⟩
def Gg:SV->Option az:=λ_=>some qu
def ol (ok0:bt->Bool) (g0_0:bt->fk) (a0:List (UInt8)):OT eA.Y:=
 let z0:(List UInt8×PUnit×PUnit×Int×PUnit)×List UInt64×List UInt64×PUnit:=((a0,(),(),(0:Int),()),[(0:UInt64),(0:UInt64),(0:UInt64),(0:UInt64)],[(0:UInt64),(0:UInt64),(0:UInt64),(0:UInt64)],())
 let z1:=(g0_0 z0).snd
 let z2:=z1.snd.fst
 let z3:=z1.fst
 let z4:List UInt64:=lay z3 z2 4 (0:UInt64)
 (gd [ok0 z0,decide (4<=List.length z2),decide ((4/1:Nat)+0<=List.length z3),decide (4<=List.length z4)] (.ok ⟨qu,(({w0:=List.getD z4 0 0,w1:=List.getD z4 1 0,w2:=List.getD z4 2 0,w3:=List.getD z4 3 0},()),())⟩))
theorem alt (ok0:bt->Bool) (g0_0:bt->fk) (x:om) (Q:eA.Y->Prop):wpf te pV (aO 0 (cg lG 0 ok0 (qv g0_0)) av) 1000 Tryz.f100 (eA.inp.inj x).tm (eA.inp.inj x).hp (fnK eA Gg Q) (λ_ _=>False)=(ol ok0 g0_0 (x.1.1)).wpR Q:=by kernel_rfl
theorem SP (ok0:bt->Bool) (g0_0:bt->fk) (h0:∀ s:bt,ok0 s=true->∃ m e,ao (lH) m s=some e/\(qv g0_0 s).run=some e) (pre:om->Bool) (F:om->OT eA.Y) (hF:∀ (x:om) oy,pre x=true->(F x).run=some oy->(ol ok0 g0_0 (x.1.1)).run=some oy):ac Tryz.prog 100 (eA.aI pre F):=
 aD aq nK C6 (f:=100) (fn:=Tryz.f100) (c:=aj Tryz.f100) (by kernel_rfl) (by kernel_rfl) (by kernel_rfl) (S:=eA) (k:=0) (by kernel_rfl) (λR hR=>(aB (c:=(aj Tryz.f100)) (by kernel_rfl) (id:=0) (by kernel_rfl) (aQ aq nK C6 (sh:=lG) hR (xs:=JA) (aC (by kernel_rfl) (by kernel_rfl) hR) aL af (n:=1000) (T:=lH) (λs Q=>ab6 s Q) (ok:=ok0) (f:=qv g0_0) h0) af)) (n:=1000) (sel:=Gg) (λv o h=>by cases h;rfl) (pre:=pre) (F:=F) (T:=λx=>ol ok0 g0_0 (x.1.1)) (λx Q=>alt ok0 g0_0 x Q) hF
def Gh (s:bt):Bool:=decide (s.1.1.length=32/\s.1.2.2.2.1=0/\s.2.2.1= [0,0,0,0])
def JB (s:bt):fk:=(((),(),()),(s.2.1,aGK s.1.1 32,()))
theorem ab8:∀ s:bt,Gh s=true->∃ m e,ao lH m s=some e/\(qv JB s).run=some e:=by
 rintro ⟨⟨b,⟨⟩,⟨⟩,i,⟨⟩⟩,⟨c0,c1,⟨⟩⟩⟩ h
 have h':=of_decide_eq_true h
 dsimp only at h'
 obtain ⟨hb,rfl,rfl⟩:=h'
 have:=(aP (T:=lH) (λi o=>(((b,(),(),(i:Int),()),(c0,o,())):bt)) (TB b)
  (λo=>(⟨(.exit 0,kE),(((),(),()),(c0,o,()))⟩:aE)) 32 [0,0,0,0] (λ_ o=>o.length=4) rfl (λi o hi ho=>⟨?_,(List.length_set ..).trans ho⟩) (λo ho=> ?_)).1
 ·obtain ⟨m,hm⟩:=this
  exact ⟨m,_,hm,rfl⟩
 ·have t1:=aE2 i
  have t2:=aE3 i
  have t3:(8:Int)*((i%8:Nat):Int)=((8*(i%8):Nat):Int):=by omega
  have t4:=Lc (k:=8*(i%8)) (by omega)
  refine (OT.ap (decide_eq_true (by dsimp only;omega))).trans ((ah ?_).trans ?_)
  ·simp only [t1,t2,ho,hb,Int.toNat_natCast,List.all_cons,List.all_nil,Bool.and_true,Bool.true_and,Bool.and_eq_true]
   exact ⟨aH (by omega),aN (by omega),decide_eq_true (by omega),aN (by omega),aH (by omega),aN (by omega),decide_eq_true (by omega),aH (by omega)⟩
  ·simp only [OT.cL,t1,t2,Int.toNat_natCast,Nat.add_zero]
   unfold TB
   rw [t3,t4]
   rfl
 ·exact OT.ar (decide_eq_false (by dsimp only;omega))
def gY (x:om):Bool:=decide (x.1.1.length=32)
def PB (x:om):OT eA.Y:=.ok ⟨qu,((HB x.1.1,()),())⟩
abbrev PA (b:List UInt8):bt:=((b,(),(),0,()),([0,0,0,0],[0,0,0,0],()))
theorem SQ {ok0:bt->Bool} {g0:bt->fk} {b:List UInt8} {L:List UInt64} (hok:ok0 (PA b)=true)
 (hg:g0 (PA b)=(((),(),()),([0,0,0,0],L,()))) (hL:L.length=4):(ol ok0 g0 b).run=some ⟨qu,((elemOf L,()),())⟩:=by
 have e:lay [0,0,0,0] L 4 0=L:=xv rfl hL
 unfold ol
 simp only [hg]
 refine (ah ?_).trans ?_
 ·simp only [e,hL,List.all_cons,List.all_nil,Bool.and_true,Bool.and_eq_true]
  exact ⟨hok,rfl,rfl,rfl⟩
 ·rw [e]
  rfl
theorem ab7:ac Tryz.prog 100 (eA.aI gY PB):=SP Gh JB ab8 _ _ λx oy hp ho=>by
 rw [<-ho]
 clear ho
 obtain ⟨⟨b,⟨⟩⟩,⟨⟩⟩:=x
 have hb:b.length=32:=of_decide_eq_true hp
 exact SQ (b:=b) (L:=aGK b 32) (decide_eq_true ⟨hb,rfl,rfl⟩) rfl (yN b 32)
def qt:cj:=(eA.aI gY PB)
theorem Ok:ac Tryz.prog 100 qt:=ab7
theorem Oj:aG qt:=aA
def pH:Env:=ay 100 qt pV
theorem rA:aR Tryz.prog pH:=ag Ok nK
theorem uD:ax pH:=ae Oj xX
theorem OS:aW Tryz.prog te pH:=aK follows aq rA uD
def dQ:aw:=⟨[.val false .int,.val false (.list .u8)],[],true,0,false⟩
abbrev oA:Type:=((Int)×(List (UInt8))×Unit)×(Unit)
def dZ:az:=⟨[.val true .elem,.val false .int],[],false⟩
def Gn:SV->Option az:=λ_=>some dZ
def oz (a0:Int) (a1:List (UInt8)):OT dQ.Y:=
 let z0:aa:= {w0:=0,w1:=0,w2:=0,w3:=0}
 let z1:Bool:=gY ((a1,()),())
 let z2:aa:=HB a1
 (gd [kV ((a0,()),())] (.br (!(↑(List.length a1):Int)==(32:Int))
 (.ok ⟨dZ,((z0,((21:Int),())),())⟩)
 (gd [z1] (.br (!Nat.blt (aa.nat z2) (aa.nat (aX (Int.toNat a0)).fst))
  (.ok ⟨dZ,((z0,((21:Int),())),())⟩)
  (gd [z1] (.ok ⟨dZ,((z2,((0:Int),())),())⟩))))))
theorem alG (x:oA) (Q:dQ.Y->Prop):wpf te pH av 1000 Tryz.f59 (dQ.inp.inj x).tm (dQ.inp.inj x).hp (fnK dQ Gn Q) (λ_ _=>False)=(oz (x.1.1) (x.1.2.1)).wpR Q:=by kernel_rfl
theorem S2 (pre:oA->Bool) (F:oA->OT dQ.Y) (hF:∀ (x:oA) oy,pre x=true->(F x).run=some oy->(oz (x.1.1) (x.1.2.1)).run=some oy):ac Tryz.prog 59 (dQ.aI pre F):=
 aD aq rA OS (f:=59) (fn:=Tryz.f59) (c:=aj Tryz.f59) (by kernel_rfl) (by kernel_rfl) (by kernel_rfl) (S:=dQ) (k:=0) (by kernel_rfl) (λR hR=>af) (n:=1000) (sel:=Gn) (λv o h=>by cases h;rfl) (pre:=pre) (F:=F) (T:=λx=>oz (x.1.1) (x.1.2.1)) (λx Q=>alG x Q) hF
def mV (x:oA):Bool:=al x.1.1
def PO (x:oA):OT dQ.Y:=.br (fA x.1.2.1) (.br (Nat.blt (HB x.1.2.1).nat (pS x.1.1)) (.ok ⟨dZ,((HB x.1.2.1,((0:Int),())),())⟩) (.ok ⟨dZ,((⟨0,0,0,0⟩,((21:Int),())),())⟩))
 (.ok ⟨dZ,((⟨0,0,0,0⟩,((21:Int),())),())⟩)
theorem S3 {s:Int} {b:List UInt8} {N:aa} (hs:al s=true) (hN:HB b=N):(oz s b).run=(OT.br (fA b) (.br (Nat.blt N.nat (pS s)) (.ok ⟨dZ,((N,((0:Int),())),())⟩) (.ok ⟨dZ,((⟨0,0,0,0⟩,((21:Int),())),())⟩))
 (.ok ⟨dZ,((⟨0,0,0,0⟩,((21:Int),())),())⟩):OT dQ.Y).run:=by
 unfold oz
 simp only [hN]
 refine (ah (by simp only [List.all_cons,List.all_nil,Bool.and_true];exact hs)).trans ?_
 rcases (Bool.eq_false_or_eq_true (fA b)).symm with hl|hl
 ·exact (OT.ap (b:= !fA b) (by rw [hl];rfl)).trans (OT.ar (b:=fA b) hl).symm
 ·have hp:gY ((b,()),())=true:=decide_eq_true (o6.1 hl)
  refine (OT.ar (b:= !fA b) (by rw [hl];rfl)).trans (Eq.trans ?_ (OT.ap (b:=fA b) hl).symm)
  rw [hp]
  refine (ah rfl).trans ?_
  rcases (Bool.eq_false_or_eq_true (Nat.blt N.nat (pS s))).symm with h|h
  ·exact (OT.ap (b:= !Nat.blt N.nat (pS s)) (by rw [h];rfl)).trans (OT.ar (b:=Nat.blt N.nat (pS s)) h).symm
  ·exact (OT.ar (b:= !Nat.blt N.nat (pS s)) (by rw [h];rfl)).trans ((ah rfl).trans (OT.ap (b:=Nat.blt N.nat (pS s)) h).symm)
theorem acE:ac Tryz.prog 59 (dQ.aI mV PO):=S2 _ _ λx oy hp ho=>by
 rw [<-ho]
 clear ho
 obtain ⟨⟨s,b,⟨⟩⟩,⟨⟩⟩:=x
 exact S3 hp rfl
def qD:cj:=(dQ.aI mV PO)
theorem Ot:ac Tryz.prog 59 qD:=acE
theorem Oq:aG qD:=aA
def la:Env:=ay 59 qD pH
theorem kT:aR Tryz.prog la:=ag Ot rA
theorem uF:ax la:=ae Oq uD
theorem xH:aW Tryz.prog te la:=aK follows aq kT uF
def eB:aw:=⟨[.val false .int,.val true .elem],[],true,0,false⟩
abbrev ox:Type:=((Int)×(aa)×Unit)×(Unit)
def lP:Shape:=⟨38,[(3,.ptr 0 0 0),(7,.own 1),(8,.val false .int)],[(0,.row .u64),(1,.row .u8)],0,true⟩
abbrev bx:Type:=((Unit)×(Unit)×(Int)×Unit)×((List (UInt64))×(List (UInt8))×Unit)
def iy:Shape:=⟨38,[(7,.own 0)],[(0,.row .u8)],0,true⟩
abbrev fm:Type:=((Unit)×Unit)×((List (UInt8))×Unit)
def JL:SE->Option Shape:=fw [(0,iy)] none
def acD (a8:Int) (c0:List (UInt64)) (c1:List (UInt8)):OT (Sum bx aE):=
 let z0:Int:=Int.tdiv a8 (8:Int)
 let z1:Int:=(8:Int)*Int.tmod a8 (8:Int)
 (.br (decide (a8<(32:Int)))
 (gd [true&&inR z0,inB z0 4,decide (Int.toNat z0+0<List.length c0),inR z1,decide ((List.length c1+1)*1<=140737488355328),inR (a8+(1:Int))] (.ok (.inl (((),((),(a8+(1:Int),()))),(c0,(c1++ [UInt64.toUInt8 (bf (List.getD c0 (Int.toNat z0+0) (0:UInt64)) (↑(UInt64.toNat (i2u z1)):Int))],()))))))
 (.ok (.inr ⟨(.exit 0,iy),(((),()),(c1,()))⟩)))
def lQ (s:bx):OT (Sum bx aE):=acD (s.1.2.2.1) (s.2.1) (s.2.2.1)
theorem acA (s:bx) (Q:Sum bx aE->Prop):wps te la av 1000 (aU (aj Tryz.f55) 0) (lP.inj s) (bX lP JL (Q:Sum lP.T aE->Prop))=(lQ s).wpR Q:=by kernel_rfl
def qC (g0_0:bx->fm) (s:bx):OT aE:=(.ok ⟨(.exit 0,iy),g0_0 s⟩)
def qB:az:=⟨[.own 0],[(0,.row .u8)],false⟩
def Gl:SV->Option az:=λ_=>some qB
def ow (ok0:bx->Bool) (g0_0:bx->fm) (a0:Int) (a1:aa):OT eB.Y:=
 let z0:aa:=ofP (pS a0) a1
 let z1:(PUnit×PUnit×Int×PUnit)×List UInt64×List UInt8×PUnit:=(((),(),(0:Int),()),[z0.w0,z0.w1,z0.w2,z0.w3],[],())
 (gd [kV ((a0,()),()),sL ((a0,a1,()),()),ok0 z1] (.ok ⟨qB,(((),()),((g0_0 z1).snd.fst,()))⟩))
theorem alF (ok0:bx->Bool) (g0_0:bx->fm) (x:ox) (Q:eB.Y->Prop):wpf te la (aO 0 (cg lP 0 ok0 (qC g0_0)) av) 1000 Tryz.f55 (eB.inp.inj x).tm (eB.inp.inj x).hp (fnK eB Gl Q) (λ_ _=>False)=(ow ok0 g0_0 (x.1.1) (x.1.2.1)).wpR Q:=by kernel_rfl
theorem SZ (ok0:bx->Bool) (g0_0:bx->fm) (h0:∀ s:bx,ok0 s=true->∃ m e,ao (lQ) m s=some e/\(qC g0_0 s).run=some e) (pre:ox->Bool) (F:ox->OT eB.Y) (hF:∀ (x:ox) oy,pre x=true->(F x).run=some oy->(ow ok0 g0_0 (x.1.1) (x.1.2.1)).run=some oy):ac Tryz.prog 55 (eB.aI pre F):=
 aD aq kT xH (f:=55) (fn:=Tryz.f55) (c:=aj Tryz.f55) (by kernel_rfl) (by kernel_rfl) (by kernel_rfl) (S:=eB) (k:=0) (by kernel_rfl) (λR hR=>(aB (c:=(aj Tryz.f55)) (by kernel_rfl) (id:=0) (by kernel_rfl) (aQ aq kT xH (sh:=lP) hR (xs:=JL) (aC (by kernel_rfl) (by kernel_rfl) hR) aL af (n:=1000) (T:=lQ) (λs Q=>acA s Q) (ok:=ok0) (f:=qC g0_0) h0) af)) (n:=1000) (sel:=Gl) (λv o h=>by cases h;rfl) (pre:=pre) (F:=F) (T:=λx=>ow ok0 g0_0 (x.1.1) (x.1.2.1)) (λx Q=>alF ok0 g0_0 x Q) hF
def aB6 (e:aa) (k:Nat):UInt8:=UInt64.toUInt8 (bf ((lst e).getD (k/8) 0) (8*((k%8:Nat):Int)))
theorem awc {α:Type} (f:Nat->α):∀ n,upto (λk (o:List α)=>o++ [f k]) [] n=(List.range n).map f
 |0=>rfl
 |n+1=>by
  show upto (λk (o:List α)=>o++ [f k]) [] n++ [f n]=_
  rw [awc f n,List.range_succ,List.map_append]
  rfl
theorem Wf {α:Type} (f:Nat->α) (l:List α):∀ n,n<=l.length->upto (λk (o:List α)=>o.set k (f k)) l n=(List.range n).map f++l.drop n
 |0,_=>rfl
 |n+1,h=>by
  have hl:((List.range n).map f).length=n:=by rw [List.length_map,List.length_range]
  show (upto (λk (o:List α)=>o.set k (f k)) l n).set n (f n)=_
  rw [Wf f l n (by omega),List.set_append_right _ _ (by omega),hl,Nat.sub_self,List.drop_eq_getElem_cons (by omega),List.set_cons_zero,List.range_succ,List.map_append,List.append_assoc]
  rfl
theorem ajZ (e:aa):VO e=(List.range 32).map (aB6 e):=by
 have h:=Wf (aB6 e) (List.replicate 32 0) 32 (by rw [List.length_replicate];omega)
 rw [List.drop_eq_nil_of_le (by rw [List.length_replicate];omega),List.append_nil] at h
 exact h
def Gm (s:bx):Bool:=decide (s.1.2.2.1=0/\s.2.1.length=4/\s.2.2.1= [])
def JM (s:bx):fm:=(((),()),(VO (elemOf s.2.1),()))
theorem acC:∀ s:bx,Gm s=true->∃ m e,ao lQ m s=some e/\(qC JM s).run=some e:=by
 rintro ⟨⟨⟨⟩,⟨⟩,i,⟨⟩⟩,⟨h,o,⟨⟩⟩⟩ hh
 have h':=of_decide_eq_true hh
 dsimp only at h'
 obtain ⟨rfl,hl,rfl⟩:=h'
 obtain ⟨e,rfl⟩:∃ e,h=lst e:=⟨elemOf h,(aS hl).symm⟩
 have:=(aP (T:=lQ) (λi o=>((((),(),(i:Int),()),(lst e,o,())):bx)) (λk o=>o++ [aB6 e k])
  (λo=>(⟨(.exit 0,iy),(((),()),(o,()))⟩:aE)) 32 [] (λn o=>o.length=n) rfl (λi o hi ho=>⟨?_,by rw [List.length_append,ho];rfl⟩) (λo ho=> ?_)).1
 ·obtain ⟨m,hm⟩:=this
  refine ⟨m,_,hm,?_⟩
  have hE:VO (elemOf (lst e))=upto (λk (o:List UInt8)=>o++ [aB6 e k]) [] 32:=by rw [awc];exact ajZ e
  show some (⟨(.exit 0,iy),(((),()),(VO (elemOf (lst e)),()))⟩:aE)=_
  rw [hE]
 ·have t1:=aE2 i
  have t2:=aE3 i
  have t3:(8:Int)*((i%8:Nat):Int)=((8*(i%8):Nat):Int):=by omega
  have t4:=Lc (k:=8*(i%8)) (by omega)
  refine (OT.ap (decide_eq_true (by dsimp only;omega))).trans ((ah ?_).trans ?_)
  ·simp only [t1,t2,ho,cG,Int.toNat_natCast,List.all_cons,List.all_nil,Bool.and_true,Bool.true_and,Bool.and_eq_true]
   exact ⟨aH (by omega),aN (by omega),decide_eq_true (by omega),aH (by omega),decide_eq_true (by omega),aH (by omega)⟩
  ·simp only [OT.cL,t1,t2,Int.toNat_natCast,Nat.add_zero]
   unfold aB6
   rw [t3,t4]
   rfl
 ·exact OT.ar (decide_eq_false (by dsimp only;omega))
def mU (x:ox):Bool:=al x.1.1
def PN (x:ox):OT eB.Y:=.ok ⟨qB,(((),()),(VO (ofP (pS x.1.1) x.1.2.1),()))⟩
theorem S1 {ok0:bx->Bool} {g0:bx->fm} {s:Int} {a A:aa} {B:List UInt8} (hs:al s=true) (hA:ofP (pS s) a=A) (h0:ok0 (((),(),0,()),([A.w0,A.w1,A.w2,A.w3],[],()))=true)
 (e0:g0 (((),(),0,()),([A.w0,A.w1,A.w2,A.w3],[],()))=(((),()),(B,()))):(ow ok0 g0 s a).run=some ⟨qB,(((),()),(B,()))⟩:=by
 unfold ow
 simp only [hA,e0]
 refine (ah ?_).trans rfl
 simp only [List.all_cons,List.all_nil,Bool.and_true,Bool.and_eq_true]
 exact ⟨hs,hs,h0⟩
theorem acB:ac Tryz.prog 55 (eB.aI mU PN):=SZ Gm JM acC _ _ λx oy hp ho=>by
 rw [<-ho]
 clear ho
 obtain ⟨⟨s,a,⟨⟩⟩,⟨⟩⟩:=x
 exact S1 (A:=ofP (pS s) a) hp rfl (decide_eq_true ⟨rfl,rfl,rfl⟩) rfl
def qA:cj:=(eB.aI mU PN)
theorem Oo:ac Tryz.prog 55 qA:=acB
theorem On:aG qA:=aA
def pK:Env:=ay 55 qA la
theorem rC:aR Tryz.prog pK:=ag Oo kT
theorem uE:ax pK:=ae On uF
theorem OU:aW Tryz.prog te pK:=aK follows aq rC uE
def cD:aw:=⟨[.val false .int,.val false (.list .u8)],[],true,0,false⟩
abbrev jY:Type:=((Int)×(List (UInt8))×Unit)×(Unit)
def bw:az:=⟨[.val true (.prod .elem (.prod .elem .bool)),.val false .int],[],false⟩
def Ge:SV->Option az:=λ_=>some bw
def ob (a0:Int) (a1:List (UInt8)):OT cD.Y:=
 let z0:aa:= {w0:=0,w1:=0,w2:=0,w3:=0}
 let z1:aa×Bool:=(z0,false)
 let z2:aa×aa×Bool:=(z0,z1)
 let z3:Nat:=List.length a1
 let z4:Bool:=inB (31:Int) z3
 let z5:Bool:=decide (31<z3)
 let z6:UInt8:=List.getD a1 31 (0:UInt8)
 let z7:List UInt8:=List.set a1 31 (z6&&&(127:UInt8))
 let z8:aa:=HB z7
 let z9:Nat:=pS a0
 let z10:Bool:=z8.w0==(0:UInt64)&&(z8.w1==(0:UInt64)&&(z8.w2==(0:UInt64)&&(z8.w3==(0:UInt64)&&true)))
 let z11:Bool:=decide ((128:UInt8)<=z6)
 let z12:aa×aa×Bool:=(z0,z0,true)
 let z13:Bool:=oc ((a0,z8,()),())
 let z14:aa:=xl z9 z8 (bS a0)
 let z15:Bool:=og ((a0,z14,()),())
 let z16:aa:=ofP z9 z14
 let z17:Bool:=bQ z16
 let z18:Bool:=lI ((a0,z0,()),())
 let z19:aa×aa×Bool:=(z8,zR z9 z0,false)
 let z20:aa×aa×Bool:=(z8,z1)
 let z21:Bool:=eqE (gN z9 z16 (dj (eg (aX (Int.toNat a0)).fst eJ).fst)) eJ
 let z22:aa:=kR z9 (sn a0 z16)
 let z23:Bool:=lI ((a0,z22,()),())
 let z24:aa×aa×Bool:=(z8,zR z9 z22,false)
 let z25:aa×aa×Bool:=(z8,z22,false)
 (.br (decide (a0<(0:Int)))
 (.ok ⟨bw,((z2,((40:Int),())),())⟩)
 (.br (decide ((3:Int)<a0))
  (.ok ⟨bw,((z2,((40:Int),())),())⟩)
  (.br (!(↑z3:Int)==(32:Int))
   (.ok ⟨bw,((z2,((41:Int),())),())⟩)
   (gd [lm ((a1,()),()),z4,z5,z4,z5,z4,z5,mV ((a0,z7,()),())] (.br (fA z7)
    (.br (Nat.blt (aa.nat z8) z9)
     (.br (z10)
      (.br (z11)
       (.ok ⟨bw,((z2,((41:Int),())),())⟩)
       (.br (z10)
        (.ok ⟨bw,((z12,((0:Int),())),())⟩)
        (gd [z13,z15] (.br (z17)
         (.br (z11)
          (gd [z18] (.ok ⟨bw,((z19,((0:Int),())),())⟩))
          (.ok ⟨bw,((z20,((0:Int),())),())⟩))
         (.br (z21)
          (.br (z11)
           (gd [z23] (.ok ⟨bw,((z24,((0:Int),())),())⟩))
           (.ok ⟨bw,((z25,((0:Int),())),())⟩))
          (.ok ⟨bw,((z2,((41:Int),())),())⟩))))))
      (.br (z10)
       (.ok ⟨bw,((z12,((0:Int),())),())⟩)
       (gd [z13,z15] (.br (z17)
        (.br (z11)
         (gd [z18] (.ok ⟨bw,((z19,((0:Int),())),())⟩))
         (.ok ⟨bw,((z20,((0:Int),())),())⟩))
        (.br (z21)
         (.br (z11)
          (gd [z23] (.ok ⟨bw,((z24,((0:Int),())),())⟩))
          (.ok ⟨bw,((z25,((0:Int),())),())⟩))
         (.ok ⟨bw,((z2,((41:Int),())),())⟩))))))
     (.ok ⟨bw,((z2,((41:Int),())),())⟩))
    (.ok ⟨bw,((z2,((41:Int),())),())⟩))))))
theorem alp (x:jY) (Q:cD.Y->Prop):wpf te pK av 1000 Tryz.f56 (cD.inp.inj x).tm (cD.inp.inj x).hp (fnK cD Ge Q) (λ_ _=>False)=(ob (x.1.1) (x.1.2.1)).wpR Q:=by kernel_rfl
theorem SF (pre:jY->Bool) (F:jY->OT cD.Y) (hF:∀ (x:jY) oy,pre x=true->(F x).run=some oy->(ob (x.1.1) (x.1.2.1)).run=some oy):ac Tryz.prog 56 (cD.aI pre F):=
 aD aq rC OU (f:=56) (fn:=Tryz.f56) (c:=aj Tryz.f56) (by kernel_rfl) (by kernel_rfl) (by kernel_rfl) (S:=cD) (k:=0) (by kernel_rfl) (λR hR=>af) (n:=1000) (sel:=Ge) (λv o h=>by cases h;rfl) (pre:=pre) (F:=F) (T:=λx=>ob (x.1.1) (x.1.2.1)) (λx Q=>alp x Q) hF
theorem aCI (x:UInt8):decide (128<=x)= !(x>>>7==0):=by
 have h:∀ n,n<256->decide (128<=UInt8.ofNat n)= !(UInt8.ofNat n>>>7==0):=by decide+kernel
 have:=h x.toNat x.toNat_lt
 rwa [UInt8.ofNat_toNat] at this
def Gf (_:jY):Bool:=true
def Ps (x:jY):OT cD.Y:=aB8 (S:=cD) (λP e=>.ok ⟨bw,((P,(e,())),())⟩) x.1.1 x.1.2.1
theorem SG {s:Int} {b:List UInt8} {N:aa} (hN:Oy b=N):(ob s b).run=(aB8 (S:=cD) (λP e=>.ok ⟨bw,((P,(e,())),())⟩) s b).run:=by
 have hN':HB (List.set b 31 (List.getD b 31 0&&&127))=N:=hN
 unfold ob aB8
 rw [hN]
 have hodd:decide (128<=List.getD b 31 0)=Gu b:=aCI _
 simp only [hN',hodd]
 rcases (Bool.eq_false_or_eq_true (al s)).symm with hs|hs
 ·refine Eq.trans ?_ (OT.ar (b:=al s) hs).symm
  by_cases h0:s<0
  ·exact OT.ap (decide_eq_true h0)
  ·refine (OT.ar (decide_eq_false h0)).trans (OT.ap (decide_eq_true ?_))
   simp only [al,Bool.and_eq_false_iff,decide_eq_false_iff_not] at hs
   omega
 ·have hc:0<=s/\s<4:=by simpa [al] using hs
  refine (OT.ar (decide_eq_false (by omega))).trans ((OT.ar (decide_eq_false (by omega))).trans (Eq.trans ?_ (OT.ap (b:=al s) hs).symm))
  rcases (Bool.eq_false_or_eq_true (fA b)).symm with hl|hl
  ·exact (OT.ap (b:= !fA b) (by rw [hl];rfl)).trans (OT.ar (b:=fA b) hl).symm
  ·have hlen:=o6.1 hl
   have i1:inB 31 b.length=true:=aN (by omega)
   have i2:decide (31<b.length)=true:=decide_eq_true (by omega)
   have i3:lm ((b,()),())=true:=decide_eq_true (by show b.length<=_;omega)
   have i4:fA (List.set b 31 (List.getD b 31 0&&&127))=true:=o6.2 (by rw [List.length_set];exact hlen)
   have i5:mV ((s,List.set b 31 (List.getD b 31 0&&&127),()),())=true:=hs
   have hg1:∀ z:aa,oc ((s,z,()),())=true:=λ_=>hs
   have hg2:∀ z:aa,og ((s,z,()),())=true:=λ_=>hs
   have hg3:∀ z:aa,lI ((s,z,()),())=true:=λ_=>hs
   refine (OT.ar (b:= !fA b) (by rw [hl];rfl)).trans (Eq.trans ((ah ?_).trans ((OT.ap i4).trans ?_)) (OT.ap (b:=fA b) hl).symm)
   ·simp only [i1,i2,i3,i5,List.all_cons,List.all_nil,Bool.and_self]
   ·rcases (Bool.eq_false_or_eq_true (Nat.blt N.nat (pS s))).symm with hb|hb
    ·exact (OT.ar hb).trans (OT.ar (b:=Nat.blt N.nat (pS s)) hb).symm
    ·refine (OT.ap hb).trans (Eq.trans ?_ (OT.ap (b:=Nat.blt N.nat (pS s)) hb).symm)
     have hA:=abm hs N
     rcases (Bool.eq_false_or_eq_true (bQ N)).symm with hz|hz
     ·refine (OT.ar (b:=bQ N) hz).trans (Eq.trans ((OT.ar (b:=bQ N) hz).trans ?_) (OT.ar (b:=bQ N) hz).symm)
      refine (ah (by rw [hg1,hg2];rfl)).trans ((OT.ar (b:=bQ (sqA s N)) hA).trans ?_)
      rcases (Bool.eq_false_or_eq_true (sqB s N)).symm with hq|hq
      ·exact (OT.ar (b:=sqB s N) hq).trans (OT.ar (b:=sqB s N) hq).symm
      ·refine (OT.ap (b:=sqB s N) hq).trans (Eq.trans ?_ (OT.ap (b:=sqB s N) hq).symm)
       unfold ptD
       rcases (Bool.eq_false_or_eq_true (Gu b)).symm with ho|ho
       ·rw [ho]
        exact (OT.ar rfl).trans rfl
       ·rw [ho]
        exact (OT.ap rfl).trans ((ah (by rw [hg3];rfl)).trans rfl)
     ·refine (OT.ap (b:=bQ N) hz).trans (Eq.trans ?_ (OT.ap (b:=bQ N) hz).symm)
      rcases (Bool.eq_false_or_eq_true (Gu b)).symm with ho|ho
      ·exact (OT.ar ho).trans ((OT.ap (b:=bQ N) hz).trans (OT.ar (b:=Gu b) ho).symm)
      ·exact (OT.ap ho).trans (OT.ap (b:=Gu b) ho).symm
theorem Jq:ac Tryz.prog 56 (cD.aI Gf Ps):=SF _ _ λx oy hp ho=>by
 rw [<-ho]
 clear ho
 obtain ⟨⟨s,b,⟨⟩⟩,⟨⟩⟩:=x
 exact SG rfl
def qo:cj:=(cD.aI Gf Ps)
theorem Oi:ac Tryz.prog 56 qo:=Jq
theorem Oh:aG qo:=aA
def FG:Env:=ay 56 qo pK
theorem Vr:aR Tryz.prog FG:=ag Oi rC
theorem MY:ax FG:=ae Oh uE
abbrev Q7:aw:=dc
def Oa (s:Int) (b:List UInt8):Pt×Int:=cond (al s) (cond (fA b) (cond (Nat.blt (Oy b).nat (pS s)) (cond (bQ (Oy b)) (cond (Gu b) (dk,41) (cB,0)) (cond (sqB s (Oy b)) (ptD s (Oy b) (Gu b),0) (dk,41))) (dk,41)) (dk,41)) (dk,40)
theorem aj1 {S:aw} (f:Pt->Int->OT S.Y) (s:Int) (b:List UInt8):(aB8 f s b).run=(f (Oa s b).1 (Oa s b).2).run:=by
 unfold aB8 Oa
 generalize Oy b=N
 rcases (Bool.eq_false_or_eq_true (al s)).symm with h|h
 ·rw [h];rfl
 ·rcases (Bool.eq_false_or_eq_true (fA b)).symm with h1|h1
  ·rw [h,h1];rfl
  ·rcases (Bool.eq_false_or_eq_true (Nat.blt N.nat (pS s))).symm with h2|h2
   ·rw [h,h1,h2];rfl
   ·rcases (Bool.eq_false_or_eq_true (bQ N)).symm with h3|h3
    ·rcases (Bool.eq_false_or_eq_true (sqB s N)).symm with h4|h4
     ·rw [h,h1,h2,h3,h4];rfl
     ·rw [h,h1,h2,h3,h4];rfl
    ·rcases (Bool.eq_false_or_eq_true (Gu b)).symm with h4|h4
     ·rw [h,h1,h2,h3,h4];rfl
     ·rw [h,h1,h2,h3,h4];rfl
def GG (_:ny):Bool:=true
def Q8 (x:ny):OT dc.Y:=.ok ⟨bu,(((Oa x.1.1 x.1.2.1).1,((Oa x.1.1 x.1.2.1).2,())),())⟩
theorem aeu:ac Tryz.prog 58 (Q7.aI GG Q8):=js (S:=dc) Q9 λx oy hp ho=>⟨rfl,(aj1 (S:=dc) (λP e=>.ok ⟨bu,((P,(e,())),())⟩) x.1.1 x.1.2.1).trans ho⟩
def rh:cj:=(Q7.aI GG Q8)
theorem OJ:ac Tryz.prog 58 rh:=aeu
theorem OI:aG rh:=aA
def F5:Env:=ay 58 rh FG
theorem VI:aR Tryz.prog F5:=ag OJ Vr
theorem NS:ax F5:=ae OI MY
abbrev Jo:aw:=cD
def AL (_:jY):Bool:=true
def Jp (x:jY):OT cD.Y:=.ok ⟨bw,(((Oa x.1.1 x.1.2.1).1,((Oa x.1.1 x.1.2.1).2,())),())⟩
theorem WJ:ac Tryz.prog 56 (Jo.aI AL Jp):=js (S:=cD) Jq λx oy hp ho=>⟨rfl,(aj1 (S:=cD) (λP e=>.ok ⟨bw,((P,(e,())),())⟩) x.1.1 x.1.2.1).trans ho⟩
def nO:cj:=(Jo.aI AL Jp)
theorem Jn:ac Tryz.prog 56 nO:=WJ
theorem Jm:aG nO:=aA
def mF:Env:=ay 56 nO F5
theorem nT:aR Tryz.prog mF:=ag Jn VI
theorem rU:ax mF:=ae Jm NS
theorem MX:aW Tryz.prog te mF:=aK follows aq nT rU
def rP:aw:=⟨[.val false .int],[],true,0,false⟩
def TV:az:=⟨[.qK,.val false .int],[],false⟩
def adk:az:=⟨[.ptr 0 0 0,.val false .int],[(0,.cells [.val false .int,.own 1]),(1,.row Hx)],false⟩
abbrev amN:Type:=((Int)×Unit)×(Unit)
def Yd:List az:= [TV,adk]
def ai0 (a0:Int):OT rP.Y:=
 (.br (decide (a0<(0:Int)))
 (.ok ⟨TV,(((),((40:Int),())),())⟩)
 (.br (decide ((3:Int)<a0))
  (.ok ⟨TV,(((),((40:Int),())),())⟩)
  (.ok ⟨adk,(((),((0:Int),())),((a0,((),())),([],())))⟩)))
theorem aHW (x:amN) (Q:rP.Y->Prop):wpf te mF av 1000 Tryz.f114 (rP.inp.inj x).tm (rP.inp.inj x).hp (aFI rP Yd Q) (λ_ _=>False)=(ai0 (x.1.1)).wpR Q:=by kernel_rfl
theorem atm (pre:amN->Bool) (F:amN->OT rP.Y) (hF:∀ (x:amN) oy,pre x=true->(F x).run=some oy->(ai0 (x.1.1)).run=some oy):ac Tryz.prog 114 (rP.aI pre F):=
 ajz aq nT MX (f:=114) (fn:=Tryz.f114) (c:=aj Tryz.f114) (by kernel_rfl) (by kernel_rfl) (by kernel_rfl) (S:=rP) (k:=0) (by kernel_rfl) (λR hR=>af) (n:=1000) (outs:=Yd) (by kernel_rfl) (pre:=pre) (F:=F) (T:=λx=>ai0 (x.1.1)) (λx Q=>aHW x Q) hF
def aiZ (_:amN):Bool:=true
def aBT (x:amN):OT rP.Y:=.br (al x.1.1) (.ok ⟨adk,(((),((0:Int),())),((x.1.1,((),())),([],())))⟩) (.ok ⟨TV,(((),((40:Int),())),())⟩)
theorem aFk:ac Tryz.prog 114 (rP.aI aiZ aBT):=atm _ _ λx oy _ ho=>by
 rw [<-ho]
 clear ho
 obtain ⟨⟨s,⟨⟩⟩,⟨⟩⟩:=x
 show (ai0 s).run=(OT.br (al s) _ _:OT rP.Y).run
 by_cases h0:s<0
 ·refine (OT.ap (decide_eq_true h0)).trans (OT.ar (b:=al s) ?_).symm
  simp only [al,decide_eq_false (show ¬(0:Int)<=s by omega),Bool.false_and]
 ·refine (OT.ar (decide_eq_false h0)).trans ?_
  by_cases h3:3<s
  ·refine (OT.ap (decide_eq_true h3)).trans (OT.ar (b:=al s) ?_).symm
   simp only [al,decide_eq_false (show ¬s<4 by omega),Bool.and_false]
  ·refine (OT.ar (decide_eq_false h3)).trans (OT.ap (b:=al s) ?_).symm
   simp only [al,decide_eq_true (show (0:Int)<=s by omega),decide_eq_true (show s<4 by omega),Bool.and_self]
def KF:cj:=(rP.aI aiZ aBT)
theorem amM:ac Tryz.prog 114 KF:=aFk
theorem amL:aG KF:=aA
def aaB:Env:=ay 114 KF mF
theorem Ni:aR Tryz.prog aaB:=ag amM nT
theorem Nj:ax aaB:=ae amL rU
theorem aoK:aW Tryz.prog te aaB:=aK follows aq Ni Nj
def aJC (w:Sh):CSh:=.cells [.val false .int,w]
def rQ:aw:=⟨[.ptr 0 0 0,.val true .elem,.val true (.prod .elem (.prod .elem .bool))],[(0,aJC (.own 1)),(1,.row Hx)],false,1,true⟩
abbrev amW:Type:=((Unit)×(aa)×((aa×(aa×Bool)))×Unit)×(((Int)×(Unit)×Unit)×(List ((aa×(aa×(aa×Bool)))))×Unit)
def tl:az:=⟨[.val false .int],[(0,.cells [.val false .int,.own 1]),(1,.row (.prod .elem (.prod .elem (.prod .elem .bool))))],false⟩
def ai7:SV->Option az:=λ_=>some tl
def ai9 (a1:aa) (a2:(aa×(aa×Bool))) (c0_0:Int) (c1:List ((aa×(aa×(aa×Bool))))):OT rQ.Y:=
 let z0:Int:=aHY c0_0 (1:Int)
 let z1:aa:= {w0:=0,w1:=0,w2:=0,w3:=0}
 (.br (!onB c0_0 a2)
 (.ok ⟨tl,(((41:Int),()),((c0_0,((),())),(c1,())))⟩)
 (.br (decide ((100000:Int)<=(↑(List.length c1):Int)))
  (.ok ⟨tl,(((50:Int),()),((c0_0,((),())),(c1,())))⟩)
  (.br (al z0)
   (gd [decide ((List.length c1+1)*104<=140737488355328)] (.ok ⟨tl,(((0:Int),()),((c0_0,((),())),(c1++ [(Fy (pS z0) a1 z1,a2)],())))⟩))
   (gd [decide ((List.length c1+1)*104<=140737488355328)] (.ok ⟨tl,(((0:Int),()),((c0_0,((),())),(c1++ [(z1,a2)],())))⟩)))))
theorem aHX (x:amW) (Q:rQ.Y->Prop):wpf te aaB av 1000 Tryz.f115 (rQ.inp.inj x).tm (rQ.inp.inj x).hp (fnK rQ ai7 Q) (λ_ _=>False)=(ai9 (x.1.2.1) (x.1.2.2.1) (x.2.1.1) (x.2.2.1)).wpR Q:=by kernel_rfl
theorem att (pre:amW->Bool) (F:amW->OT rQ.Y) (hF:∀ (x:amW) oy,pre x=true->(F x).run=some oy->(ai9 (x.1.2.1) (x.1.2.2.1) (x.2.1.1) (x.2.2.1)).run=some oy):ac Tryz.prog 115 (rQ.aI pre F):=
 aD aq Ni aoK (f:=115) (fn:=Tryz.f115) (c:=aj Tryz.f115) (by kernel_rfl) (by kernel_rfl) (by kernel_rfl) (S:=rQ) (k:=2) (by kernel_rfl) (λR hR=>af) (n:=1000) (sel:=ai7) (λv o h=>by cases h;rfl) (pre:=pre) (F:=F) (T:=λx=>ai9 (x.1.2.1) (x.1.2.2.1) (x.2.1.1) (x.2.2.1)) (λx Q=>aHX x Q) hF
abbrev Tm:Type:=Hx.T
def yP:Tm:=(⟨0,0,0,0⟩,⟨0,0,0,0⟩,⟨0,0,0,0⟩,false)
def Wt (l:List Tm):Bool:=decide (l.length<100000)
def ai8 (_:amW):Bool:=true
def aBU (x:amW):OT rQ.Y:=.br (onB x.2.1.1 x.1.2.2.1) (.br (Wt x.2.2.1) (.ok ⟨tl,(((0:Int),()),((x.2.1.1,((),())),(x.2.2.1++ [(abv x.2.1.1 x.1.2.1,x.1.2.2.1)],())))⟩)
 (.ok ⟨tl,(((50:Int),()),((x.2.1.1,((),())),(x.2.2.1,())))⟩)) (.ok ⟨tl,(((41:Int),()),((x.2.1.1,((),())),(x.2.2.1,())))⟩)
theorem aFl:ac Tryz.prog 115 (rQ.aI ai8 aBU):=att _ _ λx oy _ ho=>by
 rw [<-ho]
 clear ho
 obtain ⟨⟨⟨⟩,k,P,⟨⟩⟩,⟨⟨c,⟨⟩,⟨⟩⟩,l,⟨⟩⟩⟩:=x
 show (ai9 k P c l).run=(OT.br (onB c P) (.br (Wt l) _ _) _:OT rQ.Y).run
 rcases (Bool.eq_false_or_eq_true (onB c P)).symm with h|h
 ·exact (OT.ap (b:= !onB c P) (by rw [h];rfl)).trans (OT.ar (b:=onB c P) h).symm
 ·refine (OT.ar (b:= !onB c P) (by rw [h];rfl)).trans (Eq.trans ?_ (OT.ap (b:=onB c P) h).symm)
  rcases (Bool.eq_false_or_eq_true (Wt l)).symm with h2|h2
  ·have h3:=of_decide_eq_false h2
   exact (OT.ap (decide_eq_true (by omega))).trans (OT.ar (b:=Wt l) h2).symm
  ·have h3:=of_decide_eq_true h2
   refine (OT.ar (decide_eq_false (by omega))).trans (Eq.trans ?_ (OT.ap (b:=Wt l) h2).symm)
   refine (OT.ap (O8 (Tz h))).trans ((ah ?_).trans rfl)
   simp only [List.all_cons,List.all_nil,Bool.and_true]
   exact decide_eq_true (by omega)
def KX:cj:=(rQ.aI ai8 aBU)
theorem amV:ac Tryz.prog 115 KX:=aFl
theorem amU:aG KX:=aA
def RK:Env:=ay 115 KX aaB
theorem CW:aR Tryz.prog RK:=ag amV Ni
theorem Nk:ax RK:=ae amU Nj
theorem RJ:aW Tryz.prog te RK:=aK follows aq CW Nk
def fR:aw:=⟨[.val false .int,.val false (.list Hx)],[],true,0,false⟩
abbrev vT:Type:=((Int)×(List ((aa×(aa×(aa×Bool)))))×Unit)×(Unit)
def oZ:Shape:=⟨26,[(0,.val false .int),(4,.ptr 0 0 0),(5,.ptr 1 0 0),(9,.val false (.list (.prod .elem (.prod .elem (.prod .elem .bool))))),(10,.val false .int),(11,.val false .int)],[(0,.cells [.val false .u64,.val false .u64,.val false .u64,.val false .u64,.val false .u64,.val false .u64,.val false .u64,.val false .u64,.val false .bool]),(1,.cells [.val false .u64,.val false .u64,.val false .u64,.val false .u64,.val false .u64,.val false .u64,.val false .u64,.val false .u64,.val false .bool])],0,true⟩
abbrev b8:Type:=((Int)×(Unit)×(Unit)×(List ((aa×(aa×(aa×Bool)))))×(Int)×(Int)×Unit)×(((UInt64)×(UInt64)×(UInt64)×(UInt64)×(UInt64)×(UInt64)×(UInt64)×(UInt64)×(Bool)×Unit)×((UInt64)×(UInt64)×(UInt64)×(UInt64)×(UInt64)×(UInt64)×(UInt64)×(UInt64)×(Bool)×Unit)×Unit)
def nk:Shape:=⟨26,[(4,.ptr 0 0 0),(5,.ptr 1 0 0)],[(0,.cells [.val false .u64,.val false .u64,.val false .u64,.val false .u64,.val false .u64,.val false .u64,.val false .u64,.val false .u64,.val false .bool]),(1,.cells [.val false .u64,.val false .u64,.val false .u64,.val false .u64,.val false .u64,.val false .u64,.val false .u64,.val false .u64,.val false .bool])],0,true⟩
abbrev iS:Type:=((Unit)×(Unit)×Unit)×(((UInt64)×(UInt64)×(UInt64)×(UInt64)×(UInt64)×(UInt64)×(UInt64)×(UInt64)×(Bool)×Unit)×((UInt64)×(UInt64)×(UInt64)×(UInt64)×(UInt64)×(UInt64)×(UInt64)×(UInt64)×(Bool)×Unit)×Unit)
def Qs:SE->Option Shape:=fw [(0,nk)] none
def amJ (a0:Int) (a9:List ((aa×(aa×(aa×Bool))))) (a10:Int) (a11:Int) (c0_0:UInt64) (c0_1:UInt64) (c0_2:UInt64) (c0_3:UInt64) (c0_4:UInt64) (c0_5:UInt64) (c0_6:UInt64) (c0_7:UInt64) (c0_8:Bool) (c1_0:UInt64) (c1_1:UInt64) (c1_2:UInt64) (c1_3:UInt64) (c1_4:UInt64) (c1_5:UInt64) (c1_6:UInt64) (c1_7:UInt64) (c1_8:Bool):OT (Sum b8 aE):=
 let z0:aa:= {w0:=0,w1:=0,w2:=0,w3:=0}
 let z1:aa×aa×aa×Bool:=List.getD a9 (Int.toNat a11) (z0,z0,z0,false)
 let z2:aa×aa×Bool:=kS a0 ({w0:=c1_0,w1:=c1_1,w2:=c1_2,w3:=c1_3},{w0:=c1_4,w1:=c1_5,w2:=c1_6,w3:=c1_7},c1_8) (X7 a0 z1.fst z1.snd)
 let z3:=z2.fst
 let z4:=z2.snd
 let z5:=z4.fst
 (.br (decide (a11<a10))
 (gd [inB a11 (List.length a9),inR (a11+(1:Int))] (.ok (.inl ((a0,((),((),(a9,(a10,(a11+(1:Int),())))))),((c0_0,(c0_1,(c0_2,(c0_3,(c0_4,(c0_5,(c0_6,(c0_7,(c0_8,()))))))))),((z3.w0,(z3.w1,(z3.w2,(z3.w3,(z5.w0,(z5.w1,(z5.w2,(z5.w3,(z4.snd,()))))))))),()))))))
 (.ok (.inr ⟨(.exit 0,nk),(((),((),())),((c0_0,(c0_1,(c0_2,(c0_3,(c0_4,(c0_5,(c0_6,(c0_7,(c0_8,()))))))))),((c1_0,(c1_1,(c1_2,(c1_3,(c1_4,(c1_5,(c1_6,(c1_7,(c1_8,()))))))))),())))⟩)))
def o0 (s:b8):OT (Sum b8 aE):=amJ (s.1.1) (s.1.2.2.2.1) (s.1.2.2.2.2.1) (s.1.2.2.2.2.2.1) (s.2.1.1) (s.2.1.2.1) (s.2.1.2.2.1) (s.2.1.2.2.2.1) (s.2.1.2.2.2.2.1) (s.2.1.2.2.2.2.2.1) (s.2.1.2.2.2.2.2.2.1) (s.2.1.2.2.2.2.2.2.2.1) (s.2.1.2.2.2.2.2.2.2.2.1) (s.2.2.1.1) (s.2.2.1.2.1) (s.2.2.1.2.2.1) (s.2.2.1.2.2.2.1) (s.2.2.1.2.2.2.2.1) (s.2.2.1.2.2.2.2.2.1) (s.2.2.1.2.2.2.2.2.2.1) (s.2.2.1.2.2.2.2.2.2.2.1) (s.2.2.1.2.2.2.2.2.2.2.2.1)
theorem amG (s:b8) (Q:Sum b8 aE->Prop):wps te RK av 1000 (aU (aj Tryz.f160) 0) (oZ.inj s) (bX oZ Qs (Q:Sum oZ.T aE->Prop))=(o0 s).wpR Q:=by kernel_rfl
def vS (g0_0:b8->iS) (s:b8):OT aE:=(.ok ⟨(.exit 0,nk),g0_0 s⟩)
def EI:az:=⟨[.val true (.prod .elem (.prod .elem .bool))],[],false⟩
def KC:SV->Option az:=λ_=>some EI
def KE (ok0:b8->Bool) (g0_0:b8->iS) (a0:Int) (a1:List ((aa×(aa×(aa×Bool))))):OT fR.Y:=
 let z0:(Int×PUnit×PUnit×List (aa×aa×aa×Bool)×Int×Int×PUnit)×(UInt64×UInt64×UInt64×UInt64×UInt64×UInt64×UInt64×UInt64×Bool×PUnit)×(UInt64×UInt64×UInt64×UInt64×UInt64×UInt64×UInt64×UInt64×Bool×PUnit)×PUnit:=((a0,(),(),a1,(↑(List.length a1):Int),(0:Int),()),((0:UInt64),(0:UInt64),(0:UInt64),(0:UInt64),(0:UInt64),(0:UInt64),(0:UInt64),(0:UInt64),false,()),((0:UInt64),(0:UInt64),(0:UInt64),(0:UInt64),(0:UInt64),(0:UInt64),(0:UInt64),(0:UInt64),true,()),())
 let z1:=(g0_0 z0).snd.snd.fst
 let z2:=z1.snd
 let z3:=z2.snd
 let z4:=z3.snd
 let z5:=z4.snd
 let z6:=z5.snd
 let z7:=z6.snd
 let z8:=z7.snd
 (gd [ok0 z0] (.ok ⟨EI,((({w0:=z1.fst,w1:=z2.fst,w2:=z3.fst,w3:=z4.fst},{w0:=z5.fst,w1:=z6.fst,w2:=z7.fst,w3:=z8.fst},z8.snd.fst),()),())⟩))
theorem atj (ok0:b8->Bool) (g0_0:b8->iS) (x:vT) (Q:fR.Y->Prop):wpf te RK (aO 0 (cg oZ 0 ok0 (vS g0_0)) av) 1000 Tryz.f160 (fR.inp.inj x).tm (fR.inp.inj x).hp (fnK fR KC Q) (λ_ _=>False)=(KE ok0 g0_0 (x.1.1) (x.1.2.1)).wpR Q:=by kernel_rfl
theorem Yb (ok0:b8->Bool) (g0_0:b8->iS) (h0:∀ s:b8,ok0 s=true->∃ m e,ao (o0) m s=some e/\(vS g0_0 s).run=some e) (pre:vT->Bool) (F:vT->OT fR.Y) (hF:∀ (x:vT) oy,pre x=true->(F x).run=some oy->(KE ok0 g0_0 (x.1.1) (x.1.2.1)).run=some oy):ac Tryz.prog 160 (fR.aI pre F):=
 aD aq CW RJ (f:=160) (fn:=Tryz.f160) (c:=aj Tryz.f160) (by kernel_rfl) (by kernel_rfl) (by kernel_rfl) (S:=fR) (k:=0) (by kernel_rfl) (λR hR=>(aB (c:=(aj Tryz.f160)) (by kernel_rfl) (id:=0) (by kernel_rfl) (aQ aq CW RJ (sh:=oZ) hR (xs:=Qs) (aC (by kernel_rfl) (by kernel_rfl) hR) aL af (n:=1000) (T:=o0) (λs Q=>amG s Q) (ok:=ok0) (f:=vS g0_0) h0) af)) (n:=1000) (sel:=KC) (λv o h=>by cases h;rfl) (pre:=pre) (F:=F) (T:=λx=>KE ok0 g0_0 (x.1.1) (x.1.2.1)) (λx Q=>atj ok0 g0_0 x Q) hF
def O9 (c:Int) (l:List Tm) (k:Nat) (O:Pt):Pt:=kS c O (X7 c (l.getD k yP).1 (l.getD k yP).2)
def Ah (c:Int) (l:List Tm):Pt:=upto (O9 c l) cB l.length
def KD (s:b8):Bool:=decide (s.1.2.2.2.2.1=(s.1.2.2.2.1.length:Int)/\s.1.2.2.2.2.2.1=0/\Mb s.2.2.1=cB/\s.1.2.2.2.1.length<=140737488355328)
def Qt (s:b8):iS:=(((),(),()),(s.2.1,bP (Ah s.1.1 s.1.2.2.2.1),()))
theorem amI:∀ s:b8,KD s=true->∃ m e,ao o0 m s=some e/\(vS Qt s).run=some e:=by
 rintro ⟨⟨c,⟨⟩,⟨⟩,l,n,i,⟨⟩⟩,⟨c0,c1,⟨⟩⟩⟩ h
 have h':=of_decide_eq_true h
 dsimp only at h'
 obtain ⟨rfl,rfl,hO,hl⟩:=h'
 have hO2:c1=bP cB:=by rw [<-hO];rfl
 subst hO2
 have:=(aP (T:=o0) (λi O=>(((c,(),(),l,(l.length:Int),(i:Int),()),(c0,bP O,())):b8)) (O9 c l)
  (λO=>(⟨(.exit 0,nk),(((),(),()),(c0,bP O,()))⟩:aE)) l.length cB (λ_ _=>True) trivial (λk O hk _=>⟨?_,trivial⟩) (λO _=> ?_)).1
 ·obtain ⟨m,hm⟩:=this
  exact ⟨m,_,hm,rfl⟩
 ·refine (OT.ap (decide_eq_true (by dsimp only;omega))).trans ((ah ?_).trans ?_)
  ·simp only [List.all_cons,List.all_nil,Bool.and_true,Bool.and_eq_true]
   exact ⟨aN (by omega),aH (by omega)⟩
  ·simp only [OT.cL,Int.toNat_natCast]
   rfl
 ·exact OT.ar (decide_eq_false (by dsimp only;omega))
def yT (x:vT):Bool:=decide (x.1.2.1.length<=140737488355328)
def Yc (x:vT):OT fR.Y:=.ok ⟨EI,((Ah x.1.1 x.1.2.1,()),())⟩
theorem amH:ac Tryz.prog 160 (fR.aI yT Yc):=Yb KD Qt amI _ _ λx oy hp ho=>by
 rw [<-ho]
 clear ho
 obtain ⟨⟨c,l,⟨⟩⟩,⟨⟩⟩:=x
 have hl:l.length<=140737488355328:=of_decide_eq_true hp
 refine (ah ?_).trans rfl
 simp only [List.all_cons,List.all_nil,Bool.and_true]
 exact decide_eq_true ⟨rfl,rfl,rfl,hl⟩
def tg:cj:=(fR.aI yT Yc)
theorem TS:ac Tryz.prog 160 tg:=amH
theorem TR:aG tg:=aA
def uL:Env:=ay 160 tg RK
theorem uK:aR Tryz.prog uL:=ag TS CW
theorem xQ:ax uL:=ae TR Nk
theorem VA:aW Tryz.prog te uL:=aK follows aq uK xQ
def lV:aw:=⟨[.val true Hx,.ptr 0 0 0],[(0,.cells [.val false .int])],false,1,true⟩
abbrev Qq:Type:=(((aa×(aa×(aa×Bool))))×(Unit)×Unit)×(((Int)×Unit)×Unit)
def TM:az:=⟨[.val false .bool],[(0,.cells [.val false .int])],false⟩
def X8:SV->Option az:=λ_=>some TM
def adf (a0:(aa×(aa×(aa×Bool)))) (c0_0:Int):OT lV.Y:=
 (.ok ⟨TM,((xC a0.fst c0_0,()),((c0_0,()),()))⟩)
theorem aFb (x:Qq) (Q:lV.Y->Prop):wpf te uL av 1000 Tryz.f169 (lV.inp.inj x).tm (lV.inp.inj x).hp (fnK lV X8 Q) (λ_ _=>False)=(adf (x.1.1) (x.2.1.1)).wpR Q:=by kernel_rfl
theorem amA (pre:Qq->Bool) (F:Qq->OT lV.Y) (hF:∀ (x:Qq) oy,pre x=true->(F x).run=some oy->(adf (x.1.1) (x.2.1.1)).run=some oy):ac Tryz.prog 169 (lV.aI pre F):=
 aD aq uK VA (f:=169) (fn:=Tryz.f169) (c:=aj Tryz.f169) (by kernel_rfl) (by kernel_rfl) (by kernel_rfl) (S:=lV) (k:=1) (by kernel_rfl) (λR hR=>af) (n:=1000) (sel:=X8) (λv o h=>by cases h;rfl) (pre:=pre) (F:=F) (T:=λx=>adf (x.1.1) (x.2.1.1)) (λx Q=>aFb x Q) hF
def X9 (_:Qq):Bool:=true
def atf (x:Qq):OT lV.Y:=.ok ⟨TM,((xC x.1.1.1 x.2.1.1,()),((x.2.1.1,()),()))⟩
theorem azO:ac Tryz.prog 169 (lV.aI X9 atf):=amA _ _ λx oy hp ho=>by
 rw [<-ho]
 rfl
def EE:cj:=(lV.aI X9 atf)
theorem ade:ac Tryz.prog 169 EE:=azO
theorem adb:aG EE:=aA
def FT:Env:=ay 169 EE uL
theorem xd:aR Tryz.prog FT:=ag ade uK
theorem Hc:ax FT:=ae adb xQ
theorem Nd:aW Tryz.prog te FT:=aK follows aq xd Hc
def e9:aw:=⟨[.val false (.list Hx),.fn 169 [0]],[(0,.cells [.val false .int])],true,1,true⟩
abbrev vV:Type:=((List ((aa×(aa×(aa×Bool)))))×(Unit)×Unit)×(((Int)×Unit)×Unit)
def o1:Shape:=⟨19,[(0,.val false (.list (.prod .elem (.prod .elem (.prod .elem .bool))))),(1,.fn 169 [0]),(7,.val false .int),(8,.val false .int)],[(0,.cells [.val false .int])],1,true⟩
abbrev be:Type:=((List ((aa×(aa×(aa×Bool)))))×(Unit)×(Int)×(Int)×Unit)×(((Int)×Unit)×Unit)
def nl:Shape:=⟨19,[(4,.val false .int)],[(0,.cells [.val false .int])],1,true⟩
abbrev iT:Type:=((Int)×Unit)×(((Int)×Unit)×Unit)
def nn:Shape:=⟨19,[],[(0,.cells [.val false .int])],1,true⟩
abbrev iU:Type:=(Unit)×(((Int)×Unit)×Unit)
def Qv:SE->Option Shape:=fw [(0,nn)] (some nl)
def amR (a0:List ((aa×(aa×(aa×Bool))))) (a7:Int) (a8:Int) (c0_0:Int):OT (Sum be aE):=
 let z0:aa:= {w0:=0,w1:=0,w2:=0,w3:=0}
 (.br (decide (a8<a7))
 (gd [inB a8 (List.length a0)] (.br (xC (List.getD a0 (Int.toNat a8) (z0,z0,z0,false)).fst c0_0)
  (.ok (.inr ⟨(.ret,nl),((a8,()),((c0_0,()),()))⟩))
  (gd [inR (a8+(1:Int))] (.ok (.inl ((a0,((),(a7,(a8+(1:Int),())))),((c0_0,()),())))))))
 (.ok (.inr ⟨(.exit 0,nn),((),((c0_0,()),()))⟩)))
def o3 (s:be):OT (Sum be aE):=amR (s.1.1) (s.1.2.2.1) (s.1.2.2.2.1) (s.2.1.1)
theorem amO (s:be) (Q:Sum be aE->Prop):wps te FT av 1000 (aU (aj Tryz.f171) 0) (o1.inj s) (bX o1 Qv (Q:Sum o1.T aE->Prop))=(o3 s).wpR Q:=by kernel_rfl
def vU (g0_r:be->iT) (c0_r:be->Bool) (g0_0:be->iU) (s:be):OT aE:=(.br (c0_r s) (.ok ⟨(.ret,nl),g0_r s⟩) (.ok ⟨(.exit 0,nn),g0_0 s⟩))
def jD:az:=⟨[.val false .int],[(0,.cells [.val false .int])],false⟩
def KH:SV->Option az:=λ_=>some jD
def KK (ok0:be->Bool) (g0_r:be->iT) (c0_r:be->Bool) (g0_0:be->iU) (a0:List ((aa×(aa×(aa×Bool))))) (c0_0:Int):OT e9.Y:=
 let z0:(List (aa×aa×aa×Bool)×PUnit×Int×Int×PUnit)×(Int×PUnit)×PUnit:=((a0,(),(↑(List.length a0):Int),(0:Int),()),(c0_0,()),())
 let z1:(Int×PUnit)×(Int×PUnit)×PUnit:=g0_r z0
 (gd [ok0 z0] (.br (c0_r z0)
 (.ok ⟨jD,((z1.fst.fst,()),((z1.snd.fst.fst,()),()))⟩)
 (.ok ⟨jD,(((-1:Int),()),(((g0_0 z0).snd.fst.fst,()),()))⟩)))
theorem ato (ok0:be->Bool) (g0_r:be->iT) (c0_r:be->Bool) (g0_0:be->iU) (x:vV) (Q:e9.Y->Prop):wpf te FT (aO 0 (cg o1 0 ok0 (vU g0_r c0_r g0_0)) av) 1000 Tryz.f171 (e9.inp.inj x).tm (e9.inp.inj x).hp (fnK e9 KH Q) (λ_ _=>False)=(KK ok0 g0_r c0_r g0_0 (x.1.1) (x.2.1.1)).wpR Q:=by kernel_rfl
theorem Ye (ok0:be->Bool) (g0_r:be->iT) (c0_r:be->Bool) (g0_0:be->iU) (h0:∀ s:be,ok0 s=true->∃ m e,ao (o3) m s=some e/\(vU g0_r c0_r g0_0 s).run=some e) (pre:vV->Bool) (F:vV->OT e9.Y) (hF:∀ (x:vV) oy,pre x=true->(F x).run=some oy->(KK ok0 g0_r c0_r g0_0 (x.1.1) (x.2.1.1)).run=some oy):ac Tryz.prog 171 (e9.aI pre F):=
 aD aq xd Nd (f:=171) (fn:=Tryz.f171) (c:=aj Tryz.f171) (by kernel_rfl) (by kernel_rfl) (by kernel_rfl) (S:=e9) (k:=1) (by kernel_rfl) (λR hR=>(aB (c:=(aj Tryz.f171)) (by kernel_rfl) (id:=0) (by kernel_rfl) (aQ aq xd Nd (sh:=o1) hR (xs:=Qv) (aC (by kernel_rfl) (by kernel_rfl) hR) aL af (n:=1000) (T:=o3) (λs Q=>amO s Q) (ok:=ok0) (f:=vU g0_r c0_r g0_0) h0) af)) (n:=1000) (sel:=KH) (λv o h=>by cases h;rfl) (pre:=pre) (F:=F) (T:=λx=>KK ok0 g0_r c0_r g0_0 (x.1.1) (x.2.1.1)) (λx Q=>ato ok0 g0_r c0_r g0_0 x Q) hF
def BK (l:List Tm) (i:Int):Nat->Nat->Int
 |0,_=> -1
 |n+1,k=>cond (xC (l.getD k yP).1 i) (k:Int) (BK l i n (k+1))
def KI (s:be):Bool:=decide (s.1.2.2.1=(s.1.1.length:Int)/\s.1.2.2.2.1=0/\s.1.1.length<=140737488355328)
def kt (l:List Tm) (i:Int):Int:=BK l i l.length 0
def KJ (s:be):iT:=((kt s.1.1 s.2.1.1,()),s.2)
def Qx (s:be):Bool:=decide (0<=kt s.1.1 s.2.1.1)
def Qw (s:be):iU:=((),s.2)
def Yq (l:List Tm) (i k:Int):be:=((l,(),(l.length:Int),k,()),((i,()),()))
theorem YV (l:List Tm) (i:Int):∀ n k,BK l i n k= -1\/0<=BK l i n k
 |0,_=>.inl rfl
 |n+1,k=>by
  unfold BK
  cases xC (l.getD k yP).1 i
  ·exact YV l i n (k+1)
  ·right
   show (0:Int)<=(k:Int)
   omega
theorem ajf (l:List Tm) (i:Int) (hl:l.length<=140737488355328):∀ n k:Nat,k+n=l.length->
 ∃ m,ao o3 m (Yq l i (k:Int))=some (cond (decide (0<=BK l i n k)) ⟨(.ret,nl),((BK l i n k,()),((i,()),()))⟩ ⟨(.exit 0,nn),((),((i,()),()))⟩)
 |0,k,h=>⟨1,aM (OT.ar (decide_eq_false (by dsimp only [Yq];omega)))⟩
 |n+1,k,h=>by
  have hin:inB (k:Int) l.length=true:=aN (by omega)
  have hgd:∀ z:OT (Sum be aE),(gd [inB (k:Int) l.length] z).run=z.run:=λz=>ah (by rw [hin];rfl)
  unfold BK
  rcases (Bool.eq_false_or_eq_true (xC (l.getD k yP).1 i)).symm with hb|hb
  ·obtain ⟨m,hm⟩:=ajf l i hl n (k+1) (by omega)
   rw [hb]
   refine ⟨m+1,aF ?_ hm⟩
   refine (OT.ap (decide_eq_true (by dsimp only [Yq];omega))).trans ((hgd _).trans ((OT.ar hb).trans ((ah ?_).trans rfl)))
   simp only [List.all_cons,List.all_nil,Bool.and_true]
   exact aH (by dsimp only [Yq];omega)
  ·rw [hb]
   have e:decide ((0:Int)<=cond true (k:Int) (BK l i n (k+1)))=true:=decide_eq_true (by show (0:Int)<=(k:Int);omega)
   rw [e]
   refine ⟨1,aM ?_⟩
   exact (OT.ap (decide_eq_true (by dsimp only [Yq];omega))).trans ((hgd _).trans ((OT.ap hb).trans rfl))
theorem amQ:∀ s:be,KI s=true->∃ m e,ao o3 m s=some e/\(vU KJ Qx Qw s).run=some e:=by
 rintro ⟨⟨l,⟨⟩,n,k,⟨⟩⟩,⟨⟨i,⟨⟩⟩,⟨⟩⟩⟩ h
 have h':=of_decide_eq_true h
 dsimp only at h'
 obtain ⟨rfl,rfl,hl⟩:=h'
 obtain ⟨m,hm⟩:=ajf l i hl l.length 0 (by omega)
 refine ⟨m,_,hm,?_⟩
 show (OT.br (decide (0<=kt l i)) _ _:OT aE).run=some (cond (decide (0<=kt l i)) _ _)
 cases decide (0<=kt l i)<;>rfl
def yU (x:vV):Bool:=decide (x.1.1.length<=140737488355328)
def Yf (x:vV):OT e9.Y:=.ok ⟨jD,((kt x.1.1 x.2.1.1,()),x.2)⟩
theorem amP:ac Tryz.prog 171 (e9.aI yU Yf):=Ye KI KJ Qx Qw amQ _ _ λx oy hp ho=>by
 rw [<-ho]
 clear ho
 obtain ⟨⟨l,⟨⟩,⟨⟩⟩,⟨⟨i,⟨⟩⟩,⟨⟩⟩⟩:=x
 have hl:l.length<=140737488355328:=of_decide_eq_true hp
 refine (ah ?_).trans ?_
 ·simp only [List.all_cons,List.all_nil,Bool.and_true]
  exact decide_eq_true ⟨rfl,rfl,hl⟩
 ·show (OT.br (decide (0<=kt l i)) (.ok ⟨jD,((kt l i,()),((i,()),()))⟩) (.ok ⟨jD,(((-1:Int),()),((i,()),()))⟩):OT e9.Y).run=some ⟨jD,((kt l i,()),((i,()),()))⟩
  rcases YV l i l.length 0 with h|h
  ·have h:kt l i= -1:=h
   rw [h]
   rfl
  ·exact OT.ap (decide_eq_true h)
def th:cj:=(e9.aI yU Yf)
theorem TX:ac Tryz.prog 171 th:=amP
theorem TW:aG th:=aA
def uN:Env:=ay 171 th FT
theorem uM:aR Tryz.prog uN:=ag TX xd
theorem xR:ax uN:=ae TW Hc
theorem VB:aW Tryz.prog te uN:=aK follows aq uM xR
def iV:aw:=⟨[.val false (.list Hx),.fn 169 [0]],[(0,.cells [.val false .int])],true,1,true⟩
abbrev EJ:Type:=((List ((aa×(aa×(aa×Bool)))))×(Unit)×Unit)×(((Int)×Unit)×Unit)
def KM:az:=⟨[.val false .bool],[(0,.cells [.val false .int])],false⟩
def Qz:SV->Option az:=λ_=>some KM
def TY (a0:List ((aa×(aa×(aa×Bool))))) (c0_0:Int):OT iV.Y:=
 (gd [yU ((a0,(),()),(c0_0,()),())] (.ok ⟨KM,((decide ((0:Int)<=kt a0 c0_0),()),((c0_0,()),()))⟩))
theorem azW (x:EJ) (Q:iV.Y->Prop):wpf te uN av 1000 Tryz.f168 (iV.inp.inj x).tm (iV.inp.inj x).hp (fnK iV Qz Q) (λ_ _=>False)=(TY (x.1.1) (x.2.1.1)).wpR Q:=by kernel_rfl
theorem adl (pre:EJ->Bool) (F:EJ->OT iV.Y) (hF:∀ (x:EJ) oy,pre x=true->(F x).run=some oy->(TY (x.1.1) (x.2.1.1)).run=some oy):ac Tryz.prog 168 (iV.aI pre F):=
 aD aq uM VB (f:=168) (fn:=Tryz.f168) (c:=aj Tryz.f168) (by kernel_rfl) (by kernel_rfl) (by kernel_rfl) (S:=iV) (k:=1) (by kernel_rfl) (λR hR=>af) (n:=1000) (sel:=Qz) (λv o h=>by cases h;rfl) (pre:=pre) (F:=F) (T:=λx=>TY (x.1.1) (x.2.1.1)) (λx Q=>azW x Q) hF
def aIH (l:List Tm) (i:Int):Bool:=decide (0<=kt l i)
def vW (x:EJ):Bool:=decide (x.1.1.length<=140737488355328)
def ai5 (x:EJ):OT iV.Y:=.ok ⟨KM,((aIH x.1.1 x.2.1.1,()),x.2)⟩
theorem atr:ac Tryz.prog 168 (iV.aI vW ai5):=adl _ _ λx oy hp ho=>by
 rw [<-ho]
 clear ho
 refine (ah ?_).trans rfl
 simp only [List.all_cons,List.all_nil,Bool.and_true]
 exact hp
def yV:cj:=(iV.aI vW ai5)
theorem Yh:ac Tryz.prog 168 yV:=atr
theorem Yg:aG yV:=aA
def xe:Env:=ay 168 yV uN
theorem rG:aR Tryz.prog xe:=ag Yh uM
theorem CV:ax xe:=ae Yg xR
theorem He:aW Tryz.prog te xe:=aK follows aq rG CV
def rN:aw:=⟨[.val false (.list Hx)],[],true,0,false⟩
abbrev amz:Type:=((List ((aa×(aa×(aa×Bool)))))×Unit)×(Unit)
def Kx:Shape:=⟨14,[(0,.val false (.list (.prod .elem (.prod .elem (.prod .elem .bool))))),(3,.ptr 0 0 0)],[(0,.cells [.val false .int])],0,true⟩
abbrev cb:Type:=((List ((aa×(aa×(aa×Bool)))))×(Unit)×Unit)×(((Int)×Unit)×Unit)
def Bg:Shape:=⟨14,[(2,.val false .int)],[],0,true⟩
abbrev oV:Type:=((Int)×Unit)×(Unit)
def Bh:Shape:=⟨14,[],[],0,true⟩
abbrev oW:Type:=(Unit)×(Unit)
def ata:SE->Option Shape:=fw [(0,Bh)] (some Bg)
def aFa (a0:List ((aa×(aa×(aa×Bool))))) (c0_0:Int):OT (Sum cb aE):=
 (.br (decide ((0:Int)<=c0_0))
 (gd [vW ((a0,(),()),(c0_0,()),())] (.br (aIH a0 c0_0)
  (gd [inR (c0_0+(1:Int))] (.ok (.inr ⟨(.ret,Bg),((c0_0+(1:Int),()),())⟩)))
  (gd [inR (c0_0-(1:Int))] (.ok (.inl ((a0,((),())),((c0_0-(1:Int),()),())))))))
 (.ok (.inr ⟨(.exit 0,Bh),((),())⟩)))
def Ky (s:cb):OT (Sum cb aE):=aFa (s.1.1) (s.2.1.1)
theorem aE7 (s:cb) (Q:Sum cb aE->Prop):wps te xe av 1000 (aU (aj Tryz.f161) 0) (Kx.inj s) (bX Kx ata (Q:Sum Kx.T aE->Prop))=(Ky s).wpR Q:=by kernel_rfl
def TL (g0_r:cb->oV) (c0_r:cb->Bool) (g0_0:cb->oW) (s:cb):OT aE:=(.br (c0_r s) (.ok ⟨(.ret,Bg),g0_r s⟩) (.ok ⟨(.exit 0,Bh),g0_0 s⟩))
def yS:az:=⟨[.val false .int],[],false⟩
def aiP:SV->Option az:=λ_=>some yS
def ate (ok0:cb->Bool) (g0_r:cb->oV) (c0_r:cb->Bool) (g0_0:cb->oW) (a0:List ((aa×(aa×(aa×Bool))))):OT rN.Y:=
 let z0:(List (aa×aa×aa×Bool)×PUnit×PUnit)×(Int×PUnit)×PUnit:=((a0,(),()),((255:Int),()),())
 (gd [ok0 z0] (.br (c0_r z0)
 (.ok ⟨yS,(((g0_r z0).fst.fst,()),())⟩)
 (.ok ⟨yS,(((0:Int),()),())⟩)))
theorem aHT (ok0:cb->Bool) (g0_r:cb->oV) (c0_r:cb->Bool) (g0_0:cb->oW) (x:amz) (Q:rN.Y->Prop):wpf te xe (aO 0 (cg Kx 0 ok0 (TL g0_r c0_r g0_0)) av) 1000 Tryz.f161 (rN.inp.inj x).tm (rN.inp.inj x).hp (fnK rN aiP Q) (λ_ _=>False)=(ate ok0 g0_r c0_r g0_0 (x.1.1)).wpR Q:=by kernel_rfl
theorem atb (ok0:cb->Bool) (g0_r:cb->oV) (c0_r:cb->Bool) (g0_0:cb->oW) (h0:∀ s:cb,ok0 s=true->∃ m e,ao (Ky) m s=some e/\(TL g0_r c0_r g0_0 s).run=some e) (pre:amz->Bool) (F:amz->OT rN.Y) (hF:∀ (x:amz) oy,pre x=true->(F x).run=some oy->(ate ok0 g0_r c0_r g0_0 (x.1.1)).run=some oy):ac Tryz.prog 161 (rN.aI pre F):=
 aD aq rG He (f:=161) (fn:=Tryz.f161) (c:=aj Tryz.f161) (by kernel_rfl) (by kernel_rfl) (by kernel_rfl) (S:=rN) (k:=0) (by kernel_rfl) (λR hR=>(aB (c:=(aj Tryz.f161)) (by kernel_rfl) (id:=0) (by kernel_rfl) (aQ aq rG He (sh:=Kx) hR (xs:=ata) (aC (by kernel_rfl) (by kernel_rfl) hR) aL af (n:=1000) (T:=Ky) (λs Q=>aE7 s Q) (ok:=ok0) (f:=TL g0_r c0_r g0_0) h0) af)) (n:=1000) (sel:=aiP) (λv o h=>by cases h;rfl) (pre:=pre) (F:=F) (T:=λx=>ate ok0 g0_r c0_r g0_0 (x.1.1)) (λx Q=>aHT ok0 g0_r c0_r g0_0 x Q) hF
def awr (l:List Tm):Nat->Nat
 |0=>0
 |n+1=>cond (aIH l (n:Int)) (n+1) (awr l n)
def abg (l:List Tm):Nat:=awr l 256
def aiQ (s:cb):Bool:=decide (s.2.1.1=255/\s.1.1.length<=140737488355328)
def aiR (s:cb):oV:=(((abg s.1.1:Int),()),())
def atd (s:cb):Bool:=decide ((0:Int)<(abg s.1.1:Int))
def atc (_:cb):oW:=((),())
def O5 (l:List Tm) (i:Int):cb:=((l,(),()),((i,()),()))
theorem afT (l:List Tm) (hl:l.length<=140737488355328):∀ n:Nat,n<=256->
 ∃ m,ao Ky m (O5 l ((n:Int)-1))=some (cond (decide ((0:Int)<(awr l n:Int))) ⟨(.ret,Bg),(((awr l n:Int),()),())⟩ ⟨(.exit 0,Bh),((),())⟩)
 |0,_=>⟨1,aM (OT.ar (decide_eq_false (by dsimp only [O5];omega)))⟩
 |n+1,h=>by
  rw [show ((n+1:Nat):Int)-1=(n:Int) by omega]
  have hgd:∀ z:OT (Sum cb aE),(gd [vW ((l,(),()),((n:Int),()),())] z).run=z.run:=λz=>ah (by
   simp only [List.all_cons,List.all_nil,Bool.and_true]
   exact decide_eq_true hl)
  unfold awr
  rcases (Bool.eq_false_or_eq_true (aIH l (n:Int))).symm with hb|hb
  ·obtain ⟨m,hm⟩:=afT l hl n (by omega)
   rw [hb]
   refine ⟨m+1,aF ?_ hm⟩
   refine (OT.ap (decide_eq_true (by dsimp only [O5];omega))).trans ((hgd _).trans ((OT.ar hb).trans ((ah ?_).trans rfl)))
   simp only [List.all_cons,List.all_nil,Bool.and_true]
   exact aH (by dsimp only [O5];omega)
  ·rw [hb]
   simp only [cond_true]
   rw [decide_eq_true (show (0:Int)<((n+1:Nat):Int) by omega)]
   refine ⟨1,aM ?_⟩
   refine (OT.ap (decide_eq_true (by dsimp only [O5];omega))).trans ((hgd _).trans ((OT.ap hb).trans ((ah ?_).trans rfl)))
   simp only [List.all_cons,List.all_nil,Bool.and_true]
   exact aH (by dsimp only [O5];omega)
theorem aE9:∀ s:cb,aiQ s=true->∃ m e,ao Ky m s=some e/\(TL aiR atd atc s).run=some e:=by
 rintro ⟨⟨l,⟨⟩,⟨⟩⟩,⟨⟨i,⟨⟩⟩,⟨⟩⟩⟩ h
 have h':=of_decide_eq_true h
 dsimp only at h'
 obtain ⟨rfl,hl⟩:=h'
 obtain ⟨m,hm⟩:=afT l hl 256 (by omega)
 refine ⟨m,_,hm,?_⟩
 show (OT.br (decide ((0:Int)<(awr l 256:Int))) _ _:OT aE).run=some (cond (decide ((0:Int)<(awr l 256:Int))) _ _)
 cases decide ((0:Int)<(awr l 256:Int))<;>rfl
def TK (x:amz):Bool:=decide (x.1.1.length<=140737488355328)
def aBR (x:amz):OT rN.Y:=.ok ⟨yS,(((abg x.1.1:Int),()),())⟩
theorem aE8:ac Tryz.prog 161 (rN.aI TK aBR):=atb aiQ aiR atd atc aE9 _ _ λx oy hp ho=>by
 rw [<-ho]
 clear ho
 obtain ⟨⟨l,⟨⟩⟩,⟨⟩⟩:=x
 have hl:l.length<=140737488355328:=of_decide_eq_true hp
 refine (ah ?_).trans ?_
 ·simp only [List.all_cons,List.all_nil,Bool.and_true]
  exact decide_eq_true ⟨rfl,hl⟩
 ·show (OT.br (decide ((0:Int)<(abg l:Int))) (.ok ⟨yS,(((abg l:Int),()),())⟩) (.ok ⟨yS,(((0:Int),()),())⟩):OT rN.Y).run=some ⟨yS,(((abg l:Int),()),())⟩
  by_cases h:(0:Int)<(abg l:Int)
  ·exact OT.ap (decide_eq_true h)
  ·have e:abg l=0:=by omega
   rw [e]
   rfl
def Kw:cj:=(rN.aI TK aBR)
theorem amy:ac Tryz.prog 161 Kw:=aE8
theorem amx:aG Kw:=aA
def CU:Env:=ay 161 Kw xe
theorem mI:aR Tryz.prog CU:=ag amy rG
theorem Nc:ax CU:=ae amx CV
theorem pT:aW Tryz.prog te CU:=aK follows aq mI Nc
def eG:aw:=⟨[.val false .int,.val false (.list Hx),.val false .int],[],true,0,false⟩
abbrev o5:Type:=((Int)×(List ((aa×(aa×(aa×Bool)))))×(Int)×Unit)×(Unit)
def l7:Shape:=⟨74,[(0,.val false .int),(1,.val false (.list (.prod .elem (.prod .elem (.prod .elem .bool))))),(2,.val false .int),(6,.ptr 0 0 0),(7,.ptr 1 0 0),(16,.val false .int)],[(0,.cells [.val false .u64,.val false .u64,.val false .u64,.val false .u64,.val false .u64,.val false .u64,.val false .u64,.val false .u64,.val false .bool]),(1,.row (.prod .elem (.prod .elem .bool)))],0,true⟩
abbrev bB:Type:=((Int)×(List ((aa×(aa×(aa×Bool)))))×(Int)×(Unit)×(Unit)×(Int)×Unit)×(((UInt64)×(UInt64)×(UInt64)×(UInt64)×(UInt64)×(UInt64)×(UInt64)×(UInt64)×(Bool)×Unit)×(List ((aa×(aa×Bool))))×Unit)
def kM:Shape:=⟨74,[(0,.val false .int),(1,.val false (.list (.prod .elem (.prod .elem (.prod .elem .bool))))),(2,.val false .int),(6,.ptr 0 0 0),(7,.ptr 1 0 0)],[(0,.cells [.val false .u64,.val false .u64,.val false .u64,.val false .u64,.val false .u64,.val false .u64,.val false .u64,.val false .u64,.val false .bool]),(1,.row (.prod .elem (.prod .elem .bool)))],0,true⟩
abbrev ft:Type:=((Int)×(List ((aa×(aa×(aa×Bool)))))×(Int)×(Unit)×(Unit)×Unit)×(((UInt64)×(UInt64)×(UInt64)×(UInt64)×(UInt64)×(UInt64)×(UInt64)×(UInt64)×(Bool)×Unit)×(List ((aa×(aa×Bool))))×Unit)
def KQ:SE->Option Shape:=fw [(0,kM)] none
def adx (a0:Int) (a1:List ((aa×(aa×(aa×Bool))))) (a2:Int) (a16:Int) (c0_0:UInt64) (c0_1:UInt64) (c0_2:UInt64) (c0_3:UInt64) (c0_4:UInt64) (c0_5:UInt64) (c0_6:UInt64) (c0_7:UInt64) (c0_8:Bool) (c1:List ((aa×(aa×Bool)))):OT (Sum bB aE):=
 let z0:aa:= {w0:=0,w1:=0,w2:=0,w3:=0}
 (.br (decide (a16<(15:Int)))
 (gd [inB a16 15,decide (Int.toNat a16+0<List.length c1),inR (a16+(1:Int))] (.ok (.inl ((a0,(a1,(a2,((),((),(a16+(1:Int),())))))),((c0_0,(c0_1,(c0_2,(c0_3,(c0_4,(c0_5,(c0_6,(c0_7,(c0_8,()))))))))),(List.set c1 (Int.toNat a16+0) (z0,z0,true),()))))))
 (.ok (.inr ⟨(.exit 0,kM),((a0,(a1,(a2,((),((),()))))),((c0_0,(c0_1,(c0_2,(c0_3,(c0_4,(c0_5,(c0_6,(c0_7,(c0_8,()))))))))),(c1,())))⟩)))
def ma (s:bB):OT (Sum bB aE):=adx (s.1.1) (s.1.2.1) (s.1.2.2.1) (s.1.2.2.2.2.2.1) (s.2.1.1) (s.2.1.2.1) (s.2.1.2.2.1) (s.2.1.2.2.2.1) (s.2.1.2.2.2.2.1) (s.2.1.2.2.2.2.2.1) (s.2.1.2.2.2.2.2.2.1) (s.2.1.2.2.2.2.2.2.2.1) (s.2.1.2.2.2.2.2.2.2.2.1) (s.2.2.1)
theorem adp (s:bB) (Q:Sum bB aE->Prop):wps te CU av 1000 (aU (aj Tryz.f162) 0) (l7.inj s) (bX l7 KQ (Q:Sum l7.T aE->Prop))=(ma s).wpR Q:=by kernel_rfl
def qT (g0_0:bB->ft) (s:bB):OT aE:=(.ok ⟨(.exit 0,kM),g0_0 s⟩)
def l5:Shape:=⟨74,[(0,.val false .int),(2,.val false .int),(6,.ptr 0 0 0),(7,.ptr 1 0 0),(23,.val false (.list (.prod .elem (.prod .elem (.prod .elem .bool))))),(24,.val false .int),(25,.val false .int)],[(0,.cells [.val false .u64,.val false .u64,.val false .u64,.val false .u64,.val false .u64,.val false .u64,.val false .u64,.val false .u64,.val false .bool]),(1,.row (.prod .elem (.prod .elem .bool)))],0,true⟩
abbrev bA:Type:=((Int)×(Int)×(Unit)×(Unit)×(List ((aa×(aa×(aa×Bool)))))×(Int)×(Int)×Unit)×(((UInt64)×(UInt64)×(UInt64)×(UInt64)×(UInt64)×(UInt64)×(UInt64)×(UInt64)×(Bool)×Unit)×(List ((aa×(aa×Bool))))×Unit)
def lZ:Shape:=⟨74,[(0,.val false .int),(2,.val false .int),(6,.ptr 0 0 0),(7,.ptr 1 0 0),(10,.ptr 2 0 0),(11,.val false .int),(23,.val false (.list (.prod .elem (.prod .elem (.prod .elem .bool))))),(24,.val false .int),(25,.val false .int),(29,.val false .int)],[(0,.cells [.val false .u64,.val false .u64,.val false .u64,.val false .u64,.val false .u64,.val false .u64,.val false .u64,.val false .u64,.val false .bool]),(1,.row (.prod .elem (.prod .elem .bool))),(2,.cells [.val false .u64,.val false .u64,.val false .u64,.val false .u64,.val false .u64,.val false .u64,.val false .u64,.val false .u64,.val false .u64,.val false .u64,.val false .u64,.val false .u64,.val false .bool])],0,true⟩
abbrev aT:Type:=((Int)×(Int)×(Unit)×(Unit)×(Unit)×(Int)×(List ((aa×(aa×(aa×Bool)))))×(Int)×(Int)×(Int)×Unit)×(((UInt64)×(UInt64)×(UInt64)×(UInt64)×(UInt64)×(UInt64)×(UInt64)×(UInt64)×(Bool)×Unit)×(List ((aa×(aa×Bool))))×((UInt64)×(UInt64)×(UInt64)×(UInt64)×(UInt64)×(UInt64)×(UInt64)×(UInt64)×(UInt64)×(UInt64)×(UInt64)×(UInt64)×(Bool)×Unit)×Unit)
def kK:Shape:=⟨74,[(0,.val false .int),(2,.val false .int),(6,.ptr 0 0 0),(7,.ptr 1 0 0),(10,.ptr 2 0 0),(11,.val false .int),(23,.val false (.list (.prod .elem (.prod .elem (.prod .elem .bool))))),(24,.val false .int),(25,.val false .int)],[(0,.cells [.val false .u64,.val false .u64,.val false .u64,.val false .u64,.val false .u64,.val false .u64,.val false .u64,.val false .u64,.val false .bool]),(1,.row (.prod .elem (.prod .elem .bool))),(2,.cells [.val false .u64,.val false .u64,.val false .u64,.val false .u64,.val false .u64,.val false .u64,.val false .u64,.val false .u64,.val false .u64,.val false .u64,.val false .u64,.val false .u64,.val false .bool])],0,true⟩
abbrev cM:Type:=((Int)×(Int)×(Unit)×(Unit)×(Unit)×(Int)×(List ((aa×(aa×(aa×Bool)))))×(Int)×(Int)×Unit)×(((UInt64)×(UInt64)×(UInt64)×(UInt64)×(UInt64)×(UInt64)×(UInt64)×(UInt64)×(Bool)×Unit)×(List ((aa×(aa×Bool))))×((UInt64)×(UInt64)×(UInt64)×(UInt64)×(UInt64)×(UInt64)×(UInt64)×(UInt64)×(UInt64)×(UInt64)×(UInt64)×(UInt64)×(Bool)×Unit)×Unit)
def KO:SE->Option Shape:=fw [(4,kK)] none
def adw (a0:Int) (a2:Int) (a11:Int) (a23:List ((aa×(aa×(aa×Bool))))) (a24:Int) (a25:Int) (a29:Int) (c0_0:UInt64) (c0_1:UInt64) (c0_2:UInt64) (c0_3:UInt64) (c0_4:UInt64) (c0_5:UInt64) (c0_6:UInt64) (c0_7:UInt64) (c0_8:Bool) (c1:List ((aa×(aa×Bool)))) (c2_0:UInt64) (c2_1:UInt64) (c2_2:UInt64) (c2_3:UInt64) (c2_4:UInt64) (c2_5:UInt64) (c2_6:UInt64) (c2_7:UInt64) (c2_8:UInt64) (c2_9:UInt64) (c2_10:UInt64) (c2_11:UInt64) (c2_12:Bool):OT (Sum aT aE):=
 let z0:Bool:=inR (a29+(1:Int))
 (.br (decide (a29<(4:Int)))
 (gd [inR (a2+a29)] (.br (xC {w0:=c2_0,w1:=c2_1,w2:=c2_2,w3:=c2_3} (a2+a29))
  (gd [decide ((0:Int)<=a29),z0] (.ok (.inl ((a0,(a2,((),((),((),(ior a11 (T5 (1:Int) a29),(a23,(a24,(a25,(a29+(1:Int),())))))))))),((c0_0,(c0_1,(c0_2,(c0_3,(c0_4,(c0_5,(c0_6,(c0_7,(c0_8,()))))))))),(c1,((c2_0,(c2_1,(c2_2,(c2_3,(c2_4,(c2_5,(c2_6,(c2_7,(c2_8,(c2_9,(c2_10,(c2_11,(c2_12,()))))))))))))),())))))))
  (gd [z0] (.ok (.inl ((a0,(a2,((),((),((),(a11,(a23,(a24,(a25,(a29+(1:Int),())))))))))),((c0_0,(c0_1,(c0_2,(c0_3,(c0_4,(c0_5,(c0_6,(c0_7,(c0_8,()))))))))),(c1,((c2_0,(c2_1,(c2_2,(c2_3,(c2_4,(c2_5,(c2_6,(c2_7,(c2_8,(c2_9,(c2_10,(c2_11,(c2_12,()))))))))))))),())))))))))
 (.ok (.inr ⟨(.exit 4,kK),((a0,(a2,((),((),((),(a11,(a23,(a24,(a25,()))))))))),((c0_0,(c0_1,(c0_2,(c0_3,(c0_4,(c0_5,(c0_6,(c0_7,(c0_8,()))))))))),(c1,((c2_0,(c2_1,(c2_2,(c2_3,(c2_4,(c2_5,(c2_6,(c2_7,(c2_8,(c2_9,(c2_10,(c2_11,(c2_12,()))))))))))))),()))))⟩)))
def l9 (s:aT):OT (Sum aT aE):=adw (s.1.1) (s.1.2.1) (s.1.2.2.2.2.2.1) (s.1.2.2.2.2.2.2.1) (s.1.2.2.2.2.2.2.2.1) (s.1.2.2.2.2.2.2.2.2.1) (s.1.2.2.2.2.2.2.2.2.2.1) (s.2.1.1) (s.2.1.2.1) (s.2.1.2.2.1) (s.2.1.2.2.2.1) (s.2.1.2.2.2.2.1) (s.2.1.2.2.2.2.2.1) (s.2.1.2.2.2.2.2.2.1) (s.2.1.2.2.2.2.2.2.2.1) (s.2.1.2.2.2.2.2.2.2.2.1) (s.2.2.1) (s.2.2.2.1.1) (s.2.2.2.1.2.1) (s.2.2.2.1.2.2.1) (s.2.2.2.1.2.2.2.1) (s.2.2.2.1.2.2.2.2.1) (s.2.2.2.1.2.2.2.2.2.1) (s.2.2.2.1.2.2.2.2.2.2.1) (s.2.2.2.1.2.2.2.2.2.2.2.1) (s.2.2.2.1.2.2.2.2.2.2.2.2.1) (s.2.2.2.1.2.2.2.2.2.2.2.2.2.1) (s.2.2.2.1.2.2.2.2.2.2.2.2.2.2.1) (s.2.2.2.1.2.2.2.2.2.2.2.2.2.2.2.1) (s.2.2.2.1.2.2.2.2.2.2.2.2.2.2.2.2.1)
theorem adn (s:aT) (Q:Sum aT aE->Prop):wps te CU av 1000 (aU (aU (aj Tryz.f162) 2) 4) (lZ.inj s) (bX lZ KO (Q:Sum lZ.T aE->Prop))=(l9 s).wpR Q:=by kernel_rfl
def qR (g4_4:aT->cM) (s:aT):OT aE:=(.ok ⟨(.exit 4,kK),g4_4 s⟩)
def kL:Shape:=⟨74,[(0,.val false .int),(6,.ptr 0 0 0),(7,.ptr 1 0 0)],[(0,.cells [.val false .u64,.val false .u64,.val false .u64,.val false .u64,.val false .u64,.val false .u64,.val false .u64,.val false .u64,.val false .bool]),(1,.row (.prod .elem (.prod .elem .bool)))],0,true⟩
abbrev fq:Type:=((Int)×(Unit)×(Unit)×Unit)×(((UInt64)×(UInt64)×(UInt64)×(UInt64)×(UInt64)×(UInt64)×(UInt64)×(UInt64)×(Bool)×Unit)×(List ((aa×(aa×Bool))))×Unit)
def KP:SE->Option Shape:=fw [(2,kL)] none
def KU (ok4:aT->Bool) (g4_4:aT->cM) (a0:Int) (a2:Int) (a23:List ((aa×(aa×(aa×Bool))))) (a24:Int) (a25:Int) (c0_0:UInt64) (c0_1:UInt64) (c0_2:UInt64) (c0_3:UInt64) (c0_4:UInt64) (c0_5:UInt64) (c0_6:UInt64) (c0_7:UInt64) (c0_8:Bool) (c1:List ((aa×(aa×Bool)))):OT (Sum bA aE):=
 let z0:aa:= {w0:=0,w1:=0,w2:=0,w3:=0}
 let z1:aa×aa×Bool:=(z0,z0,false)
 let z2:aa×aa×aa×Bool:=List.getD a23 (Int.toNat a25) (z0,z1)
 let z3:=z2.fst
 let z4:=z2.snd
 let z5:=z4.fst
 let z6:=z4.snd
 let z7:=z6.fst
 let z8:(Int×Int×PUnit×PUnit×PUnit×Int×List (aa×aa×aa×Bool)×Int×Int×Int×PUnit)×(UInt64×UInt64×UInt64×UInt64×UInt64×UInt64×UInt64×UInt64×Bool×PUnit)×List (aa×aa×Bool)×(UInt64×UInt64×UInt64×UInt64×UInt64×UInt64×UInt64×UInt64×UInt64×UInt64×UInt64×UInt64×Bool×PUnit)×PUnit:=((a0,a2,(),(),(),(0:Int),a23,a24,a25,(0:Int),()),(c0_0,c0_1,c0_2,c0_3,c0_4,c0_5,c0_6,c0_7,c0_8,()),c1,(z3.w0,z3.w1,z3.w2,z3.w3,z5.w0,z5.w1,z5.w2,z5.w3,z7.w0,z7.w1,z7.w2,z7.w3,z6.snd,()),())
 let z9:(Int×Int×PUnit×PUnit×PUnit×Int×List (aa×aa×aa×Bool)×Int×Int×PUnit)×(UInt64×UInt64×UInt64×UInt64×UInt64×UInt64×UInt64×UInt64×Bool×PUnit)×List (aa×aa×Bool)×(UInt64×UInt64×UInt64×UInt64×UInt64×UInt64×UInt64×UInt64×UInt64×UInt64×UInt64×UInt64×Bool×PUnit)×PUnit:=g4_4 z8
 let z10:=z9.fst
 let z11:=z10.snd
 let z12:=z11.snd.snd.snd.snd
 let z13:=z12.fst
 let z14:Bool:=inR (z13-(1:Int))
 let z15:Bool:=inB (z13-(1:Int)) 15
 let z16:=z9.snd
 let z17:=z16.snd
 let z18:=z17.fst
 let z19:Bool:=decide (Int.toNat (z13-(1:Int))+0<List.length z18)
 let z20:=z12.snd
 let z21:=z20.snd
 let z22:Bool:=inR (z21.snd.fst+(1:Int))
 let z23:=z10.fst
 let z24:=z11.fst
 let z25:=z20.fst
 let z26:=z21.fst
 let z27:=z16.fst
 let z28:=z27.fst
 let z29:=z27.snd
 let z30:=z29.fst
 let z31:=z29.snd
 let z32:=z31.fst
 let z33:=z31.snd
 let z34:=z33.fst
 let z35:=z33.snd
 let z36:=z35.fst
 let z37:=z35.snd
 let z38:=z37.fst
 let z39:=z37.snd
 let z40:=z39.fst
 let z41:=z39.snd
 let z42:=z41.fst
 let z43:=z41.snd.fst
 let z44:=z17.snd.fst.snd.snd.snd.snd
 let z45:=z44.snd
 let z46:=z45.snd
 let z47:=z46.snd
 let z48:=z47.snd
 let z49:=z48.snd
 let z50:=z49.snd
 let z51:=z50.snd
 (.br (decide (a25<a24))
 (gd [inB a25 (List.length a23),ok4 z8] (.br (decide ((0:Int)<z13))
  (gd [z14,z14,z15,z19,z15,z19,z22] (.ok (.inl ((z23,(z24,((),((),(z25,(z26,(z21.snd.fst+(1:Int),()))))))),((z28,(z30,(z32,(z34,(z36,(z38,(z40,(z42,(z43,()))))))))),(List.set z18 (Int.toNat (z13-(1:Int))+0) (kS z23 (List.getD z18 (Int.toNat (z13-(1:Int))+0) z1) ({w0:=z44.fst,w1:=z45.fst,w2:=z46.fst,w3:=z47.fst},{w0:=z48.fst,w1:=z49.fst,w2:=z50.fst,w3:=z51.fst},z51.snd.fst)),()))))))
  (gd [z22] (.ok (.inl ((z23,(z24,((),((),(z25,(z26,(z21.snd.fst+(1:Int),()))))))),((z28,(z30,(z32,(z34,(z36,(z38,(z40,(z42,(z43,()))))))))),(z18,()))))))))
 (.ok (.inr ⟨(.exit 2,kL),((a0,((),((),()))),((c0_0,(c0_1,(c0_2,(c0_3,(c0_4,(c0_5,(c0_6,(c0_7,(c0_8,()))))))))),(c1,())))⟩)))
def gU (ok4:aT->Bool) (g4_4:aT->cM) (s:bA):OT (Sum bA aE):=KU ok4 g4_4 (s.1.1) (s.1.2.1) (s.1.2.2.2.2.1) (s.1.2.2.2.2.2.1) (s.1.2.2.2.2.2.2.1) (s.2.1.1) (s.2.1.2.1) (s.2.1.2.2.1) (s.2.1.2.2.2.1) (s.2.1.2.2.2.2.1) (s.2.1.2.2.2.2.2.1) (s.2.1.2.2.2.2.2.2.1) (s.2.1.2.2.2.2.2.2.2.1) (s.2.1.2.2.2.2.2.2.2.2.1) (s.2.2.1)
theorem ado (ok4:aT->Bool) (g4_4:aT->cM) (s:bA) (Q:Sum bA aE->Prop):wps te CU (aO 4 (cg lZ 4 ok4 (qR g4_4)) av) 1000 (aU (aj Tryz.f162) 2) (l5.inj s) (bX l5 KP (Q:Sum l5.T aE->Prop))=(gU ok4 g4_4 s).wpR Q:=by kernel_rfl
def qS (g2_2:bA->fq) (s:bA):OT aE:=(.ok ⟨(.exit 2,kL),g2_2 s⟩)
def lY:Shape:=⟨74,[(0,.val false .int),(6,.ptr 0 0 0),(7,.ptr 1 0 0),(13,.ptr 2 0 0),(14,.ptr 3 0 0),(15,.val false .int)],[(0,.cells [.val false .u64,.val false .u64,.val false .u64,.val false .u64,.val false .u64,.val false .u64,.val false .u64,.val false .u64,.val false .bool]),(1,.row (.prod .elem (.prod .elem .bool))),(2,.cells [.val false .u64,.val false .u64,.val false .u64,.val false .u64,.val false .u64,.val false .u64,.val false .u64,.val false .u64,.val false .bool]),(3,.cells [.val false .u64,.val false .u64,.val false .u64,.val false .u64,.val false .u64,.val false .u64,.val false .u64,.val false .u64,.val false .bool])],0,true⟩
abbrev bz:Type:=((Int)×(Unit)×(Unit)×(Unit)×(Unit)×(Int)×Unit)×(((UInt64)×(UInt64)×(UInt64)×(UInt64)×(UInt64)×(UInt64)×(UInt64)×(UInt64)×(Bool)×Unit)×(List ((aa×(aa×Bool))))×((UInt64)×(UInt64)×(UInt64)×(UInt64)×(UInt64)×(UInt64)×(UInt64)×(UInt64)×(Bool)×Unit)×((UInt64)×(UInt64)×(UInt64)×(UInt64)×(UInt64)×(UInt64)×(UInt64)×(UInt64)×(Bool)×Unit)×Unit)
def kJ:Shape:=⟨74,[(6,.ptr 0 0 0),(14,.ptr 1 0 0)],[(0,.cells [.val false .u64,.val false .u64,.val false .u64,.val false .u64,.val false .u64,.val false .u64,.val false .u64,.val false .u64,.val false .bool]),(1,.cells [.val false .u64,.val false .u64,.val false .u64,.val false .u64,.val false .u64,.val false .u64,.val false .u64,.val false .u64,.val false .bool])],0,true⟩
abbrev fp:Type:=((Unit)×(Unit)×Unit)×(((UInt64)×(UInt64)×(UInt64)×(UInt64)×(UInt64)×(UInt64)×(UInt64)×(UInt64)×(Bool)×Unit)×((UInt64)×(UInt64)×(UInt64)×(UInt64)×(UInt64)×(UInt64)×(UInt64)×(UInt64)×(Bool)×Unit)×Unit)
def KN:SE->Option Shape:=fw [(6,kJ)] none
def adv (a0:Int) (a15:Int) (c0_0:UInt64) (c0_1:UInt64) (c0_2:UInt64) (c0_3:UInt64) (c0_4:UInt64) (c0_5:UInt64) (c0_6:UInt64) (c0_7:UInt64) (c0_8:Bool) (c1:List ((aa×(aa×Bool)))) (c2_0:UInt64) (c2_1:UInt64) (c2_2:UInt64) (c2_3:UInt64) (c2_4:UInt64) (c2_5:UInt64) (c2_6:UInt64) (c2_7:UInt64) (c2_8:Bool) (c3_0:UInt64) (c3_1:UInt64) (c3_2:UInt64) (c3_3:UInt64) (c3_4:UInt64) (c3_5:UInt64) (c3_6:UInt64) (c3_7:UInt64) (c3_8:Bool):OT (Sum bz aE):=
 let z0:aa:= {w0:=0,w1:=0,w2:=0,w3:=0}
 let z1:aa×aa×Bool:=kS a0 ({w0:=c2_0,w1:=c2_1,w2:=c2_2,w3:=c2_3},{w0:=c2_4,w1:=c2_5,w2:=c2_6,w3:=c2_7},c2_8) (List.getD c1 (Int.toNat a15+0) (z0,z0,false))
 let z2:=z1.fst
 let z3:=z1.snd
 let z4:=z3.fst
 let z5:aa×aa×Bool:=kS a0 ({w0:=c3_0,w1:=c3_1,w2:=c3_2,w3:=c3_3},{w0:=c3_4,w1:=c3_5,w2:=c3_6,w3:=c3_7},c3_8) z1
 let z6:=z5.fst
 let z7:=z5.snd
 let z8:=z7.fst
 (.br (decide ((0:Int)<=a15))
 (gd [inB a15 15,decide (Int.toNat a15+0<List.length c1),inR (a15-(1:Int))] (.ok (.inl ((a0,((),((),((),((),(a15-(1:Int),())))))),((c0_0,(c0_1,(c0_2,(c0_3,(c0_4,(c0_5,(c0_6,(c0_7,(c0_8,()))))))))),(c1,((z2.w0,(z2.w1,(z2.w2,(z2.w3,(z4.w0,(z4.w1,(z4.w2,(z4.w3,(z3.snd,()))))))))),((z6.w0,(z6.w1,(z6.w2,(z6.w3,(z8.w0,(z8.w1,(z8.w2,(z8.w3,(z7.snd,()))))))))),()))))))))
 (.ok (.inr ⟨(.exit 6,kJ),(((),((),())),((c0_0,(c0_1,(c0_2,(c0_3,(c0_4,(c0_5,(c0_6,(c0_7,(c0_8,()))))))))),((c3_0,(c3_1,(c3_2,(c3_3,(c3_4,(c3_5,(c3_6,(c3_7,(c3_8,()))))))))),())))⟩)))
def l8 (s:bz):OT (Sum bz aE):=adv (s.1.1) (s.1.2.2.2.2.2.1) (s.2.1.1) (s.2.1.2.1) (s.2.1.2.2.1) (s.2.1.2.2.2.1) (s.2.1.2.2.2.2.1) (s.2.1.2.2.2.2.2.1) (s.2.1.2.2.2.2.2.2.1) (s.2.1.2.2.2.2.2.2.2.1) (s.2.1.2.2.2.2.2.2.2.2.1) (s.2.2.1) (s.2.2.2.1.1) (s.2.2.2.1.2.1) (s.2.2.2.1.2.2.1) (s.2.2.2.1.2.2.2.1) (s.2.2.2.1.2.2.2.2.1) (s.2.2.2.1.2.2.2.2.2.1) (s.2.2.2.1.2.2.2.2.2.2.1) (s.2.2.2.1.2.2.2.2.2.2.2.1) (s.2.2.2.1.2.2.2.2.2.2.2.2.1) (s.2.2.2.2.1.1) (s.2.2.2.2.1.2.1) (s.2.2.2.2.1.2.2.1) (s.2.2.2.2.1.2.2.2.1) (s.2.2.2.2.1.2.2.2.2.1) (s.2.2.2.2.1.2.2.2.2.2.1) (s.2.2.2.2.1.2.2.2.2.2.2.1) (s.2.2.2.2.1.2.2.2.2.2.2.2.1) (s.2.2.2.2.1.2.2.2.2.2.2.2.2.1)
theorem adm (s:bz) (Q:Sum bz aE->Prop):wps te CU av 1000 (aU (aj Tryz.f162) 6) (lY.inj s) (bX lY KN (Q:Sum lY.T aE->Prop))=(l8 s).wpR Q:=by kernel_rfl
def qQ (g6_6:bz->fp) (s:bz):OT aE:=(.ok ⟨(.exit 6,kJ),g6_6 s⟩)
def qO:az:=⟨[.val true (.prod .elem (.prod .elem .bool))],[],false⟩
def Gy:SV->Option az:=λ_=>some qO
def o4 (ok0:bB->Bool) (g0_0:bB->ft) (ok4:aT->Bool) (g4_4:aT->cM) (ok2:bA->Bool) (g2_2:bA->fq) (ok6:bz->Bool) (g6_6:bz->fp) (a0:Int) (a1:List ((aa×(aa×(aa×Bool))))) (a2:Int):OT eG.Y:=
 let z0:aa:= {w0:=0,w1:=0,w2:=0,w3:=0}
 let z1:aa×aa×Bool:=(z0,z0,false)
 let z2:(Int×List (aa×aa×aa×Bool)×Int×PUnit×PUnit×Int×PUnit)×(UInt64×UInt64×UInt64×UInt64×UInt64×UInt64×UInt64×UInt64×Bool×PUnit)×List (aa×aa×Bool)×PUnit:=((a0,a1,a2,(),(),(0:Int),()),((0:UInt64),(0:UInt64),(0:UInt64),(0:UInt64),(0:UInt64),(0:UInt64),(0:UInt64),(0:UInt64),false,()),[z1,z1,z1,z1,z1,z1,z1,z1,z1,z1,z1,z1,z1,z1,z1],())
 let z3:(Int×List (aa×aa×aa×Bool)×Int×PUnit×PUnit×PUnit)×(UInt64×UInt64×UInt64×UInt64×UInt64×UInt64×UInt64×UInt64×Bool×PUnit)×List (aa×aa×Bool)×PUnit:=g0_0 z2
 let z4:=z3.fst
 let z5:=z4.snd
 let z6:=z5.fst
 let z7:=z3.snd
 let z8:=z7.fst
 let z9:=z8.snd
 let z10:=z9.snd
 let z11:=z10.snd
 let z12:=z11.snd
 let z13:=z12.snd
 let z14:=z13.snd
 let z15:=z14.snd
 let z16:(Int×Int×PUnit×PUnit×List (aa×aa×aa×Bool)×Int×Int×PUnit)×(UInt64×UInt64×UInt64×UInt64×UInt64×UInt64×UInt64×UInt64×Bool×PUnit)×List (aa×aa×Bool)×PUnit:=((z4.fst,z5.snd.fst,(),(),z6,(↑(List.length z6):Int),(0:Int),()),(z8.fst,z9.fst,z10.fst,z11.fst,z12.fst,z13.fst,z14.fst,z15.fst,z15.snd.fst,()),z7.snd.fst,())
 let z17:(Int×PUnit×PUnit×PUnit)×(UInt64×UInt64×UInt64×UInt64×UInt64×UInt64×UInt64×UInt64×Bool×PUnit)×List (aa×aa×Bool)×PUnit:=g2_2 z16
 let z18:=z17.snd
 let z19:=z18.fst
 let z20:=z19.snd
 let z21:=z20.snd
 let z22:=z21.snd
 let z23:=z22.snd
 let z24:=z23.snd
 let z25:=z24.snd
 let z26:=z25.snd
 let z27:UInt64×UInt64×UInt64×UInt64×UInt64×UInt64×UInt64×UInt64×Bool×PUnit:=((0:UInt64),(0:UInt64),(0:UInt64),(0:UInt64),(0:UInt64),(0:UInt64),(0:UInt64),(0:UInt64),true,())
 let z28:(Int×PUnit×PUnit×PUnit×PUnit×Int×PUnit)×(UInt64×UInt64×UInt64×UInt64×UInt64×UInt64×UInt64×UInt64×Bool×PUnit)×List (aa×aa×Bool)×(UInt64×UInt64×UInt64×UInt64×UInt64×UInt64×UInt64×UInt64×Bool×PUnit)×(UInt64×UInt64×UInt64×UInt64×UInt64×UInt64×UInt64×UInt64×Bool×PUnit)×PUnit:=((z17.fst.fst,(),(),(),(),(14:Int),()),(z19.fst,z20.fst,z21.fst,z22.fst,z23.fst,z24.fst,z25.fst,z26.fst,z26.snd.fst,()),z18.snd.fst,z27,z27,())
 let z29:=(g6_6 z28).snd.snd.fst
 let z30:=z29.snd
 let z31:=z30.snd
 let z32:=z31.snd
 let z33:=z32.snd
 let z34:=z33.snd
 let z35:=z34.snd
 let z36:=z35.snd
 (gd [ok0 z2,ok2 z16,ok6 z28] (.ok ⟨qO,((({w0:=z29.fst,w1:=z30.fst,w2:=z31.fst,w3:=z32.fst},{w0:=z33.fst,w1:=z34.fst,w2:=z35.fst,w3:=z36.fst},z36.snd.fst),()),())⟩))
theorem amT (ok0:bB->Bool) (g0_0:bB->ft) (ok4:aT->Bool) (g4_4:aT->cM) (ok2:bA->Bool) (g2_2:bA->fq) (ok6:bz->Bool) (g6_6:bz->fp) (x:o5) (Q:eG.Y->Prop):wpf te CU (aO 6 (cg lY 6 ok6 (qQ g6_6)) (aO 2 (cg l5 2 ok2 (qS g2_2)) (aO 0 (cg l7 0 ok0 (qT g0_0)) av))) 1000 Tryz.f162 (eG.inp.inj x).tm (eG.inp.inj x).hp (fnK eG Gy Q) (λ_ _=>False)=(o4 ok0 g0_0 ok4 g4_4 ok2 g2_2 ok6 g6_6 (x.1.1) (x.1.2.1) (x.1.2.2.1)).wpR Q:=by kernel_rfl
theorem TZ (ok0:bB->Bool) (g0_0:bB->ft) (ok4:aT->Bool) (g4_4:aT->cM) (ok2:bA->Bool) (g2_2:bA->fq) (ok6:bz->Bool) (g6_6:bz->fp) (h0:∀ s:bB,ok0 s=true->∃ m e,ao (ma) m s=some e/\(qT g0_0 s).run=some e) (h4:∀ s:aT,ok4 s=true->∃ m e,ao (l9) m s=some e/\(qR g4_4 s).run=some e) (h2:∀ s:bA,ok2 s=true->∃ m e,ao (gU ok4 g4_4) m s=some e/\(qS g2_2 s).run=some e) (h6:∀ s:bz,ok6 s=true->∃ m e,ao (l8) m s=some e/\(qQ g6_6 s).run=some e) (pre:o5->Bool) (F:o5->OT eG.Y) (hF:∀ (x:o5) oy,pre x=true->(F x).run=some oy->(o4 ok0 g0_0 ok4 g4_4 ok2 g2_2 ok6 g6_6 (x.1.1) (x.1.2.1) (x.1.2.2.1)).run=some oy):ac Tryz.prog 162 (eG.aI pre F):=
 aD aq mI pT (f:=162) (fn:=Tryz.f162) (c:=aj Tryz.f162) (by kernel_rfl) (by kernel_rfl) (by kernel_rfl) (S:=eG) (k:=0) (by kernel_rfl) (λR hR=>(aB (c:=(aj Tryz.f162)) (by kernel_rfl) (id:=6) (by kernel_rfl) (aQ aq mI pT (sh:=lY) hR (xs:=KN) (aC (by kernel_rfl) (by kernel_rfl) hR) aL af (n:=1000) (T:=l8) (λs Q=>adm s Q) (ok:=ok6) (f:=qQ g6_6) h6) (aB (c:=(aj Tryz.f162)) (by kernel_rfl) (id:=2) (by kernel_rfl) (aQ aq mI pT (sh:=l5) hR (xs:=KP) (aC (by kernel_rfl) (by kernel_rfl) hR) aL (aB (c:=(aU (aj Tryz.f162) 2)) (by kernel_rfl) (id:=4) (by kernel_rfl) (aQ aq mI pT (sh:=lZ) hR (xs:=KO) (aC (by kernel_rfl) (by kernel_rfl) hR) aL af (n:=1000) (T:=l9) (λs Q=>adn s Q) (ok:=ok4) (f:=qR g4_4) h4) af) (n:=1000) (T:=gU ok4 g4_4) (λs Q=>ado ok4 g4_4 s Q) (ok:=ok2) (f:=qS g2_2) h2) (aB (c:=(aj Tryz.f162)) (by kernel_rfl) (id:=0) (by kernel_rfl) (aQ aq mI pT (sh:=l7) hR (xs:=KQ) (aC (by kernel_rfl) (by kernel_rfl) hR) aL af (n:=1000) (T:=ma) (λs Q=>adp s Q) (ok:=ok0) (f:=qT g0_0) h0) af)))) (n:=1000) (sel:=Gy) (λv o h=>by cases h;rfl) (pre:=pre) (F:=F) (T:=λx=>o4 ok0 g0_0 ok4 g4_4 ok2 g2_2 ok6 g6_6 (x.1.1) (x.1.2.1) (x.1.2.2.1)) (λx Q=>amT ok0 g0_0 ok4 g4_4 ok2 g2_2 ok6 g6_6 x Q) hF
abbrev C13:Type:=UInt64×UInt64×UInt64×UInt64×UInt64×UInt64×UInt64×UInt64×UInt64×UInt64×UInt64×UInt64×Bool×Unit
def ajG (t:Tm):C13:=(t.1.w0,t.1.w1,t.1.w2,t.1.w3,t.2.1.w0,t.2.1.w1,t.2.1.w2,t.2.1.w3,t.2.2.1.w0,t.2.2.1.w1,t.2.2.1.w2,t.2.2.1.w3,t.2.2.2,())
theorem ahT {α:Type} (x:α) (l:List α):∀ n,n<=l.length->upto (λk (o:List α)=>o.set k x) l n=List.replicate n x++l.drop n
 |0,_=>rfl
 |n+1,h=>by
  show (upto (λk (o:List α)=>o.set k x) l n).set n x=_
  rw [ahT x l n (by omega),List.set_append_right _ _ (by rw [List.length_replicate];omega),List.length_replicate,Nat.sub_self,List.drop_eq_getElem_cons (by omega),List.set_cons_zero,List.replicate_succ',List.append_assoc]
  rfl
def GB (s:bB):Bool:=decide (s.1.2.2.2.2.2.1=0/\s.2.2.1.length=15)
def KT (s:bB):ft:=((s.1.1,s.1.2.1,s.1.2.2.1,(),(),()),(s.2.1,List.replicate 15 cB,()))
theorem adu:∀ s:bB,GB s=true->∃ m e,ao ma m s=some e/\(qT KT s).run=some e:=by
 rintro ⟨⟨c,l,at',⟨⟩,⟨⟩,i,⟨⟩⟩,⟨c0,S,⟨⟩⟩⟩ h
 have h':=of_decide_eq_true h
 dsimp only at h'
 obtain ⟨rfl,hS⟩:=h'
 have:=(aP (T:=ma) (λi o=>(((c,l,at',(),(),(i:Int),()),(c0,o,())):bB)) (λk (o:List Pt)=>o.set k cB)
  (λo=>(⟨(.exit 0,kM),((c,l,at',(),(),()),(c0,o,()))⟩:aE)) 15 S (λ_ o=>o.length=15) hS (λk o hk ho=>⟨?_,(List.length_set ..).trans ho⟩) (λo ho=> ?_)).1
 ·obtain ⟨m,hm⟩:=this
  rw [ahT cB S 15 (by omega),List.drop_eq_nil_of_le (by omega),List.append_nil] at hm
  exact ⟨m,_,hm,rfl⟩
 ·refine (OT.ap (decide_eq_true (by dsimp only;omega))).trans ((ah ?_).trans ?_)
  ·simp only [ho,Int.toNat_natCast,Nat.add_zero,List.all_cons,List.all_nil,Bool.and_true,Bool.and_eq_true]
   exact ⟨aN (by omega),decide_eq_true (by omega),aH (by omega)⟩
  ·simp only [OT.cL,Int.toNat_natCast,Nat.add_zero]
   rfl
 ·exact OT.ar (decide_eq_false (by dsimp only;omega))
def tW (k:aa) (a:Int) (n:Nat) (d:Int):Int:=cond (xC k (a+(n:Int))) (ior d (T5 1 (n:Int))) d
def aB7 (k:aa) (a:Int):Int:=upto (tW k a) 0 4
def aGU (b:Bool):Int:=cond b 1 0
theorem aF6 (k:aa) (a:Int):aB7 k a=aGU (xC k a)+2*aGU (xC k (a+1))+4*aGU (xC k (a+2))+8*aGU (xC k (a+3)):=by
 have e0:a+((0:Nat):Int)=a:=by omega
 show tW k a 3 (tW k a 2 (tW k a 1 (tW k a 0 0)))=_
 unfold tW
 rw [e0,show a+((1:Nat):Int)=a+1 by omega,show a+((2:Nat):Int)=a+2 by omega,show a+((3:Nat):Int)=a+3 by omega]
 generalize xC k a=b0
 generalize xC k (a+1)=b1
 generalize xC k (a+2)=b2
 generalize xC k (a+3)=b3
 cases b0<;>cases b1<;>cases b2<;>cases b3<;>decide+kernel
theorem aF5 (k:aa) (a:Int):0<=aB7 k a/\aB7 k a<=15:=by
 rw [aF6]
 have h:∀ b,0<=aGU b/\aGU b<=1:=λb=>by cases b<;>decide
 have h0:=h (xC k a)
 have h1:=h (xC k (a+1))
 have h2:=h (xC k (a+2))
 have h3:=h (xC k (a+3))
 omega
def aeI (c at' d:Int) (l:List Tm) (n i:Int) (b:Int) (c0:C9) (S:List Pt) (t:C13):aT:=((c,at',(),(),(),d,l,n,i,b,()),(c0,S,t,()))
def keyOf (t:C13):aa:=⟨t.1,t.2.1,t.2.2.1,t.2.2.2.1⟩
def np (s:aT):Bool:=decide (s.1.2.2.2.2.2.1=0/\s.1.2.2.2.2.2.2.2.2.2.1=0/\0<=s.1.2.1/\s.1.2.1<=1000)
def qP (s:aT):cM:=((s.1.1,s.1.2.1,(),(),(),aB7 (keyOf s.2.2.2.1) s.1.2.1,s.1.2.2.2.2.2.2.1,s.1.2.2.2.2.2.2.2.1,s.1.2.2.2.2.2.2.2.2.1,()),s.2)
theorem ads:∀ s:aT,np s=true->∃ m e,ao l9 m s=some e/\(qR qP s).run=some e:=by
 rintro ⟨⟨c,at',⟨⟩,⟨⟩,⟨⟩,d,l,n,i,b,⟨⟩⟩,⟨c0,S,t,⟨⟩⟩⟩ h
 have h':=of_decide_eq_true h
 dsimp only at h'
 obtain ⟨rfl,rfl,ha0,ha1⟩:=h'
 have:=(aP (T:=l9) (λb d=>(((c,at',(),(),(),d,l,n,i,(b:Int),()),(c0,S,t,())):aT)) (tW (keyOf t) at')
  (λd=>(⟨(.exit 4,kK),((c,at',(),(),(),d,l,n,i,()),(c0,S,t,()))⟩:aE)) 4 0 (λ_ _=>True) trivial (λk d hk _=>⟨?_,trivial⟩) (λd _=> ?_)).1
 ·obtain ⟨m,hm⟩:=this
  exact ⟨m,_,hm,rfl⟩
 ·have hr:inR ((k:Int)+1)=true:=aH (by omega)
  have hgr:∀ z:OT (Sum aT aE),(gd [inR ((k:Int)+1)] z).run=z.run:=λz=>ah (by rw [hr];rfl)
  refine (OT.ap (decide_eq_true (by dsimp only;omega))).trans ((ah ?_).trans ?_)
  ·simp only [List.all_cons,List.all_nil,Bool.and_true]
   exact aH (by omega)
  ·unfold tW
   rcases (Bool.eq_false_or_eq_true (xC (keyOf t) (at'+(k:Int)))).symm with hb|hb
   ·rw [hb]
    exact (OT.ar hb).trans ((hgr _).trans rfl)
   ·rw [hb]
    refine (OT.ap hb).trans ((ah ?_).trans rfl)
    simp only [List.all_cons,List.all_nil,Bool.and_true,Bool.and_eq_true]
    exact ⟨decide_eq_true (by omega),hr⟩
 ·exact OT.ar (decide_eq_false (by dsimp only;omega))
def BW (c a:Int) (l:List Tm) (k:Nat) (S:List Pt):List Pt:=cond (decide (0<aB7 (l.getD k yP).1 a))
 (S.set (aB7 (l.getD k yP).1 a-1).toNat (kS c (S.getD (aB7 (l.getD k yP).1 a-1).toNat dk) (l.getD k yP).2)) S
theorem ul (c a:Int) (l:List Tm) (k:Nat) (S:List Pt):(BW c a l k S).length=S.length:=by
 unfold BW
 cases decide (0<aB7 (l.getD k yP).1 a)
 ·rfl
 ·exact List.length_set ..
def aD2 (c a:Int) (l:List Tm) (S:List Pt):List Pt:=upto (BW c a l) S l.length
def GA (s:bA):Bool:=decide (s.1.2.2.2.2.2.1=(s.1.2.2.2.2.1.length:Int)/\s.1.2.2.2.2.2.2.1=0/\s.2.2.1.length=15/\(0<=s.1.2.1/\s.1.2.1<=1000)/\s.1.2.2.2.2.1.length<=140737488355328)
def KS (s:bA):fq:=((s.1.1,(),(),()),(s.2.1,aD2 s.1.1 s.1.2.1 s.1.2.2.2.2.1 s.2.2.1,()))
theorem aGo {ok4:aT->Bool} {g4:aT->cM} {c a:Int} {l:List Tm} {k:Nat} {c0:C9} {S:List Pt} {t:Tm} {d:Int} (ht:l.getD k yP=t) (hk:k<l.length) (hl:l.length<=140737488355328) (hS:S.length=15) (hd:0<=d/\d<=15)
 (h4:ok4 (aeI c a 0 l (l.length:Int) (k:Int) 0 c0 S (ajG t))=true)
 (e4:g4 (aeI c a 0 l (l.length:Int) (k:Int) 0 c0 S (ajG t))=((c,a,(),(),(),d,l,(l.length:Int),(k:Int),()),(c0,S,ajG t,()))):
 (gU ok4 g4 ((c,a,(),(),l,(l.length:Int),(k:Int),()),(c0,S,()))).run=some (.inl ((c,a,(),(),l,(l.length:Int),((k+1:Nat):Int),()),(c0,cond (decide (0<d)) (S.set (d-1).toNat (kS c (S.getD (d-1).toNat dk) t.2)) S,()))):=by
 have hr:inR ((k:Int)+1)=true:=aH (by omega)
 unfold aeI at h4 e4
 unfold gU KU
 have ht':List.getD l (Int.toNat (k:Int)) (⟨0,0,0,0⟩,⟨0,0,0,0⟩,⟨0,0,0,0⟩,false)=t:=by rw [Int.toNat_natCast];exact ht
 simp only [ht']
 refine (OT.ap (decide_eq_true (by omega))).trans ((ah ?_).trans ?_)
 ·simp only [List.all_cons,List.all_nil,Bool.and_true,Bool.and_eq_true]
  exact ⟨aN (by omega),h4⟩
 ·have e4':g4 ((c,a,(),(),(),0,l,(l.length:Int),(k:Int),0,()),(c0.1,c0.2.1,c0.2.2.1,c0.2.2.2.1,c0.2.2.2.2.1,c0.2.2.2.2.2.1,c0.2.2.2.2.2.2.1,c0.2.2.2.2.2.2.2.1,c0.2.2.2.2.2.2.2.2.1,()),S,(t.1.w0,t.1.w1,t.1.w2,t.1.w3,t.2.1.w0,t.2.1.w1,t.2.1.w2,t.2.1.w3,t.2.2.1.w0,t.2.2.1.w1,t.2.2.1.w2,t.2.2.1.w3,t.2.2.2,()),())=((c,a,(),(),(),d,l,(l.length:Int),(k:Int),()),(c0,S,ajG t,())):=e4
  simp only [e4']
  by_cases h0:0<d
  ·rw [decide_eq_true h0]
   refine (OT.ap rfl).trans ((ah ?_).trans ?_)
   ·simp only [hS,Nat.add_zero,hr,List.all_cons,List.all_nil,Bool.and_true,Bool.and_eq_true]
    have i1:inR (d-1)=true:=aH (by omega)
    have i2:inB (d-1) 15=true:=aN (by omega)
    have i3:decide ((d-1).toNat<15)=true:=decide_eq_true (by omega)
    exact ⟨i1,i1,i2,i3,i2,i3⟩
   ·rfl
  ·rw [decide_eq_false h0]
   refine (OT.ar rfl).trans ((ah ?_).trans rfl)
   simp only [hr,List.all_cons,List.all_nil,Bool.and_true]
theorem adt:∀ s:bA,GA s=true->∃ m e,ao (gU np qP) m s=some e/\(qS KS s).run=some e:=by
 rintro ⟨⟨c,at',⟨⟩,⟨⟩,l,n,i,⟨⟩⟩,⟨c0,S,⟨⟩⟩⟩ h
 have h':=of_decide_eq_true h
 dsimp only at h'
 obtain ⟨rfl,rfl,hS,⟨ha0,ha1⟩,hl⟩:=h'
 have:=(aP (T:=gU np qP) (λi o=>(((c,at',(),(),l,(l.length:Int),(i:Int),()),(c0,o,())):bA)) (BW c at' l)
  (λo=>(⟨(.exit 2,kL),((c,(),(),()),(c0,o,()))⟩:aE)) l.length S (λ_ o=>o.length=15) hS (λk o hk ho=>⟨?_,(ul c at' l k o).trans ho⟩) (λo ho=> ?_)).1
 ·obtain ⟨m,hm⟩:=this
  exact ⟨m,_,hm,rfl⟩
 ·exact aGo rfl hk hl ho (aF5 _ _) (decide_eq_true ⟨rfl,rfl,ha0,ha1⟩) rfl
 ·exact OT.ar (decide_eq_false (by dsimp only;omega))
def aru (c:Int) (S:List Pt) (n:Nat) (w:Pt×Pt):Pt×Pt:=(kS c w.1 (S.getD (14-n) dk),kS c w.2 (kS c w.1 (S.getD (14-n) dk)))
def aJz (c:Int) (S:List Pt):Pt×Pt:=upto (aru c S) (cB,cB) 15
def Gz (s:bz):Bool:=decide (s.1.2.2.2.2.2.1=14/\s.2.2.1.length=15/\Mb s.2.2.2.1=cB/\Mb s.2.2.2.2.1=cB)
def KR (s:bz):fp:=(((),(),()),(s.2.1,bP (aJz s.1.1 s.2.2.1).2,()))
theorem adr:∀ s:bz,Gz s=true->∃ m e,ao l8 m s=some e/\(qQ KR s).run=some e:=by
 rintro ⟨⟨c,⟨⟩,⟨⟩,⟨⟩,⟨⟩,i,⟨⟩⟩,⟨c0,S,r,a,⟨⟩⟩⟩ h
 have h':=of_decide_eq_true h
 dsimp only at h'
 obtain ⟨rfl,hS,hr,ha⟩:=h'
 have hr2:r=bP cB:=by rw [<-hr];rfl
 have ha2:a=bP cB:=by rw [<-ha];rfl
 subst hr2 ha2
 have:=(aP (T:=l8) (λn w=>(((c,(),(),(),(),14-(n:Int),()),(c0,S,bP w.1,bP w.2,())):bz)) (aru c S)
  (λw=>(⟨(.exit 6,kJ),(((),(),()),(c0,bP w.2,()))⟩:aE)) 15 (cB,cB) (λ_ _=>True) trivial (λn w hn _=>⟨?_,trivial⟩) (λw _=> ?_)).1
 ·obtain ⟨m,hm⟩:=this
  exact ⟨m,_,hm,rfl⟩
 ·have e1:((14:Int)-(n:Int)).toNat=14-n:=by omega
  have e2:(14:Int)-(n:Int)-1=14-((n+1:Nat):Int):=by omega
  refine (OT.ap (decide_eq_true (by dsimp only;omega))).trans ((ah ?_).trans ?_)
  ·simp only [e1,hS,Nat.add_zero,List.all_cons,List.all_nil,Bool.and_true,Bool.and_eq_true]
   exact ⟨aN (by omega),decide_eq_true (by omega),aH (by omega)⟩
  ·rw [<-e2]
   simp only [OT.cL,e1,Nat.add_zero]
   rfl
 ·exact OT.ar (decide_eq_false (by dsimp only;omega))
def avz (c:Int) (l:List Tm) (a:Int):Pt:=(aJz c (aD2 c a l (List.replicate 15 cB))).2
theorem T0 {ok4:aT->Bool} {g4:aT->cM} {ok0:bB->Bool} {g0:bB->ft} {ok2:bA->Bool} {g2:bA->fq} {ok6:bz->Bool} {g6:bz->fp} {c a:Int} {l:List Tm} {S0 S:List Pt} {R:Pt} {z:C9}
 (h0:ok0 ((c,l,a,(),(),0,()),(bP dk,List.replicate 15 dk,()))=true) (e0:g0 ((c,l,a,(),(),0,()),(bP dk,List.replicate 15 dk,()))=((c,l,a,(),(),()),(bP dk,S0,())))
 (h2:ok2 ((c,a,(),(),l,(l.length:Int),0,()),(bP dk,S0,()))=true) (e2:g2 ((c,a,(),(),l,(l.length:Int),0,()),(bP dk,S0,()))=((c,(),(),()),(bP dk,S,())))
 (h6:ok6 ((c,(),(),(),(),14,()),(bP dk,S,bP cB,bP cB,()))=true) (e6:g6 ((c,(),(),(),(),14,()),(bP dk,S,bP cB,bP cB,()))=(((),(),()),(z,bP R,()))):
 (o4 ok0 g0 ok4 g4 ok2 g2 ok6 g6 c l a).run=some ⟨qO,((R,()),())⟩:=by
 have e0':g0 ((c,l,a,(),(),0,()),((0,0,0,0,0,0,0,0,false,()),[((⟨0,0,0,0⟩,⟨0,0,0,0⟩,false):Pt),((⟨0,0,0,0⟩,⟨0,0,0,0⟩,false):Pt),((⟨0,0,0,0⟩,⟨0,0,0,0⟩,false):Pt),((⟨0,0,0,0⟩,⟨0,0,0,0⟩,false):Pt),((⟨0,0,0,0⟩,⟨0,0,0,0⟩,false):Pt),((⟨0,0,0,0⟩,⟨0,0,0,0⟩,false):Pt),((⟨0,0,0,0⟩,⟨0,0,0,0⟩,false):Pt),((⟨0,0,0,0⟩,⟨0,0,0,0⟩,false):Pt),((⟨0,0,0,0⟩,⟨0,0,0,0⟩,false):Pt),((⟨0,0,0,0⟩,⟨0,0,0,0⟩,false):Pt),((⟨0,0,0,0⟩,⟨0,0,0,0⟩,false):Pt),((⟨0,0,0,0⟩,⟨0,0,0,0⟩,false):Pt),((⟨0,0,0,0⟩,⟨0,0,0,0⟩,false):Pt),((⟨0,0,0,0⟩,⟨0,0,0,0⟩,false):Pt),((⟨0,0,0,0⟩,⟨0,0,0,0⟩,false):Pt)],()))=((c,l,a,(),(),()),(bP dk,S0,())):=e0
 have e2':g2 ((c,a,(),(),l,(l.length:Int),0,()),((bP dk).1,(bP dk).2.1,(bP dk).2.2.1,(bP dk).2.2.2.1,(bP dk).2.2.2.2.1,(bP dk).2.2.2.2.2.1,(bP dk).2.2.2.2.2.2.1,(bP dk).2.2.2.2.2.2.2.1,(bP dk).2.2.2.2.2.2.2.2.1,()),S0,())=((c,(),(),()),(bP dk,S,())):=e2
 have e6':g6 ((c,(),(),(),(),14,()),((bP dk).1,(bP dk).2.1,(bP dk).2.2.1,(bP dk).2.2.2.1,(bP dk).2.2.2.2.1,(bP dk).2.2.2.2.2.1,(bP dk).2.2.2.2.2.2.1,(bP dk).2.2.2.2.2.2.2.1,(bP dk).2.2.2.2.2.2.2.2.1,()),S,(0,0,0,0,0,0,0,0,true,()),(0,0,0,0,0,0,0,0,true,()),())=(((),(),()),(z,bP R,())):=e6
 unfold o4
 simp only [e0',e2',e6']
 refine (ah ?_).trans rfl
 simp only [List.all_cons,List.all_nil,Bool.and_true,Bool.and_eq_true]
 exact ⟨h0,h2,h6⟩
theorem IW (c a:Int) (l:List Tm) (S:List Pt):∀ n,(upto (BW c a l) S n).length=S.length
 |0=>rfl
 |n+1=>(ul c a l n _).trans (IW c a l S n)
def tj (x:o5):Bool:=decide ((0<=x.1.2.2.1/\x.1.2.2.1<=1000)/\x.1.2.1.length<=140737488355328)
def QA (x:o5):OT eG.Y:=.ok ⟨qO,((avz x.1.1 x.1.2.1 x.1.2.2.1,()),())⟩
theorem adq:ac Tryz.prog 162 (eG.aI tj QA):=TZ GB KT np qP GA KS Gz KR adu ads adt adr _ _ λx oy hp ho=>by
 rw [<-ho]
 clear ho
 obtain ⟨⟨c,l,a,⟨⟩⟩,⟨⟩⟩:=x
 obtain ⟨ha,hl⟩:=of_decide_eq_true hp
 exact T0 (S0:=List.replicate 15 cB) (S:=aD2 c a l (List.replicate 15 cB)) (R:=avz c l a) (z:=bP dk) (decide_eq_true ⟨rfl,rfl⟩) rfl
  (decide_eq_true ⟨rfl,rfl,rfl,ha,hl⟩) rfl (decide_eq_true ⟨rfl,IW c a l _ l.length,rfl,rfl⟩) rfl
def qN:cj:=(eG.aI tj QA)
theorem OA:ac Tryz.prog 162 qN:=adq
theorem Oz:aG qN:=aA
def jN:Env:=ay 162 qN CU
theorem jn:aR Tryz.prog jN:=ag OA mI
theorem uO:ax jN:=ae Oz Nc
theorem nU:aW Tryz.prog te jN:=aK follows aq jn uO
def lX:aw:=⟨[.val false .int,.val false (.list Hx)],[],true,0,false⟩
abbrev Qr:Type:=((Int)×(List ((aa×(aa×(aa×Bool)))))×Unit)×(Unit)
def Bk:Shape:=⟨39,[(0,.val false .int),(1,.val false (.list (.prod .elem (.prod .elem (.prod .elem .bool))))),(4,.ptr 0 0 0),(5,.ptr 1 0 0),(6,.val false .int)],[(0,.cells [.val false .u64,.val false .u64,.val false .u64,.val false .u64,.val false .u64,.val false .u64,.val false .u64,.val false .u64,.val false .bool]),(1,.cells [.val false .u64,.val false .u64,.val false .u64,.val false .u64,.val false .u64,.val false .u64,.val false .u64,.val false .u64,.val false .bool])],0,true⟩
abbrev cF:Type:=((Int)×(List ((aa×(aa×(aa×Bool)))))×(Unit)×(Unit)×(Int)×Unit)×(((UInt64)×(UInt64)×(UInt64)×(UInt64)×(UInt64)×(UInt64)×(UInt64)×(UInt64)×(Bool)×Unit)×((UInt64)×(UInt64)×(UInt64)×(UInt64)×(UInt64)×(UInt64)×(UInt64)×(UInt64)×(Bool)×Unit)×Unit)
def Bj:Shape:=⟨39,[(0,.val false .int),(1,.val false (.list (.prod .elem (.prod .elem (.prod .elem .bool))))),(4,.ptr 0 0 0),(5,.ptr 1 0 0),(6,.val false .int),(24,.val false .int)],[(0,.cells [.val false .u64,.val false .u64,.val false .u64,.val false .u64,.val false .u64,.val false .u64,.val false .u64,.val false .u64,.val false .bool]),(1,.cells [.val false .u64,.val false .u64,.val false .u64,.val false .u64,.val false .u64,.val false .u64,.val false .u64,.val false .u64,.val false .bool])],0,true⟩
abbrev bE:Type:=((Int)×(List ((aa×(aa×(aa×Bool)))))×(Unit)×(Unit)×(Int)×(Int)×Unit)×(((UInt64)×(UInt64)×(UInt64)×(UInt64)×(UInt64)×(UInt64)×(UInt64)×(UInt64)×(Bool)×Unit)×((UInt64)×(UInt64)×(UInt64)×(UInt64)×(UInt64)×(UInt64)×(UInt64)×(UInt64)×(Bool)×Unit)×Unit)
def vQ:Shape:=⟨39,[(0,.val false .int),(1,.val false (.list (.prod .elem (.prod .elem (.prod .elem .bool))))),(4,.ptr 0 0 0),(5,.ptr 1 0 0),(6,.val false .int)],[(0,.cells [.val false .u64,.val false .u64,.val false .u64,.val false .u64,.val false .u64,.val false .u64,.val false .u64,.val false .u64,.val false .bool]),(1,.cells [.val false .u64,.val false .u64,.val false .u64,.val false .u64,.val false .u64,.val false .u64,.val false .u64,.val false .u64,.val false .bool])],0,true⟩
abbrev ec:Type:=((Int)×(List ((aa×(aa×(aa×Bool)))))×(Unit)×(Unit)×(Int)×Unit)×(((UInt64)×(UInt64)×(UInt64)×(UInt64)×(UInt64)×(UInt64)×(UInt64)×(UInt64)×(Bool)×Unit)×((UInt64)×(UInt64)×(UInt64)×(UInt64)×(UInt64)×(UInt64)×(UInt64)×(UInt64)×(Bool)×Unit)×Unit)
def aiV:SE->Option Shape:=fw [(2,vQ)] none
def azU (a0:Int) (a1:List ((aa×(aa×(aa×Bool))))) (a6:Int) (a24:Int) (c0_0:UInt64) (c0_1:UInt64) (c0_2:UInt64) (c0_3:UInt64) (c0_4:UInt64) (c0_5:UInt64) (c0_6:UInt64) (c0_7:UInt64) (c0_8:Bool) (c1_0:UInt64) (c1_1:UInt64) (c1_2:UInt64) (c1_3:UInt64) (c1_4:UInt64) (c1_5:UInt64) (c1_6:UInt64) (c1_7:UInt64) (c1_8:Bool):OT (Sum bE aE):=
 let z0:aa×aa×Bool:=({w0:=c1_0,w1:=c1_1,w2:=c1_2,w3:=c1_3},{w0:=c1_4,w1:=c1_5,w2:=c1_6,w3:=c1_7},c1_8)
 let z1:aa×aa×Bool:=kS a0 z0 z0
 let z2:=z1.fst
 let z3:=z1.snd
 let z4:=z3.fst
 (.br (decide (a24<(4:Int)))
 (gd [inR (a24+(1:Int))] (.ok (.inl ((a0,(a1,((),((),(a6,(a24+(1:Int),())))))),((c0_0,(c0_1,(c0_2,(c0_3,(c0_4,(c0_5,(c0_6,(c0_7,(c0_8,()))))))))),((z2.w0,(z2.w1,(z2.w2,(z2.w3,(z4.w0,(z4.w1,(z4.w2,(z4.w3,(z3.snd,()))))))))),()))))))
 (.ok (.inr ⟨(.exit 2,vQ),((a0,(a1,((),((),(a6,()))))),((c0_0,(c0_1,(c0_2,(c0_3,(c0_4,(c0_5,(c0_6,(c0_7,(c0_8,()))))))))),((c1_0,(c1_1,(c1_2,(c1_3,(c1_4,(c1_5,(c1_6,(c1_7,(c1_8,()))))))))),())))⟩)))
def Bn (s:bE):OT (Sum bE aE):=azU (s.1.1) (s.1.2.1) (s.1.2.2.2.2.1) (s.1.2.2.2.2.2.1) (s.2.1.1) (s.2.1.2.1) (s.2.1.2.2.1) (s.2.1.2.2.2.1) (s.2.1.2.2.2.2.1) (s.2.1.2.2.2.2.2.1) (s.2.1.2.2.2.2.2.2.1) (s.2.1.2.2.2.2.2.2.2.1) (s.2.1.2.2.2.2.2.2.2.2.1) (s.2.2.1.1) (s.2.2.1.2.1) (s.2.2.1.2.2.1) (s.2.2.1.2.2.2.1) (s.2.2.1.2.2.2.2.1) (s.2.2.1.2.2.2.2.2.1) (s.2.2.1.2.2.2.2.2.2.1) (s.2.2.1.2.2.2.2.2.2.2.1) (s.2.2.1.2.2.2.2.2.2.2.2.1)
theorem azP (s:bE) (Q:Sum bE aE->Prop):wps te jN av 1000 (aU (aU (aj Tryz.f148) 0) 2) (Bj.inj s) (bX Bj aiV (Q:Sum Bj.T aE->Prop))=(Bn s).wpR Q:=by kernel_rfl
def H6 (g2_2:bE->ec) (s:bE):OT aE:=(.ok ⟨(.exit 2,vQ),g2_2 s⟩)
def vR:Shape:=⟨39,[(4,.ptr 0 0 0),(5,.ptr 1 0 0)],[(0,.cells [.val false .u64,.val false .u64,.val false .u64,.val false .u64,.val false .u64,.val false .u64,.val false .u64,.val false .u64,.val false .bool]),(1,.cells [.val false .u64,.val false .u64,.val false .u64,.val false .u64,.val false .u64,.val false .u64,.val false .u64,.val false .u64,.val false .bool])],0,true⟩
abbrev jC:Type:=((Unit)×(Unit)×Unit)×(((UInt64)×(UInt64)×(UInt64)×(UInt64)×(UInt64)×(UInt64)×(UInt64)×(UInt64)×(Bool)×Unit)×((UInt64)×(UInt64)×(UInt64)×(UInt64)×(UInt64)×(UInt64)×(UInt64)×(UInt64)×(Bool)×Unit)×Unit)
def aiW:SE->Option Shape:=fw [(0,vR)] none
def aiX (ok2:bE->Bool) (g2_2:bE->ec) (a0:Int) (a1:List ((aa×(aa×(aa×Bool))))) (a6:Int) (c0_0:UInt64) (c0_1:UInt64) (c0_2:UInt64) (c0_3:UInt64) (c0_4:UInt64) (c0_5:UInt64) (c0_6:UInt64) (c0_7:UInt64) (c0_8:Bool) (c1_0:UInt64) (c1_1:UInt64) (c1_2:UInt64) (c1_3:UInt64) (c1_4:UInt64) (c1_5:UInt64) (c1_6:UInt64) (c1_7:UInt64) (c1_8:Bool):OT (Sum cF aE):=
 let z0:(Int×List (aa×aa×aa×Bool)×PUnit×PUnit×Int×Int×PUnit)×(UInt64×UInt64×UInt64×UInt64×UInt64×UInt64×UInt64×UInt64×Bool×PUnit)×(UInt64×UInt64×UInt64×UInt64×UInt64×UInt64×UInt64×UInt64×Bool×PUnit)×PUnit:=((a0,a1,(),(),a6,(0:Int),()),(c0_0,c0_1,c0_2,c0_3,c0_4,c0_5,c0_6,c0_7,c0_8,()),(c1_0,c1_1,c1_2,c1_3,c1_4,c1_5,c1_6,c1_7,c1_8,()),())
 let z1:(Int×List (aa×aa×aa×Bool)×PUnit×PUnit×Int×PUnit)×(UInt64×UInt64×UInt64×UInt64×UInt64×UInt64×UInt64×UInt64×Bool×PUnit)×(UInt64×UInt64×UInt64×UInt64×UInt64×UInt64×UInt64×UInt64×Bool×PUnit)×PUnit:=g2_2 z0
 let z2:=z1.fst
 let z3:=z2.fst
 let z4:=z2.snd
 let z5:=z4.fst
 let z6:=z4.snd.snd.snd.fst
 let z7:=z1.snd
 let z8:=z7.fst
 let z9:=z8.snd
 let z10:=z9.snd
 let z11:=z10.snd
 let z12:=z11.snd
 let z13:=z12.snd
 let z14:=z13.snd
 let z15:=z14.snd
 let z16:=z7.snd.fst
 let z17:=z16.snd
 let z18:=z17.snd
 let z19:=z18.snd
 let z20:=z19.snd
 let z21:=z20.snd
 let z22:=z21.snd
 let z23:=z22.snd
 let z24:aa×aa×Bool:=kS z3 ({w0:=z16.fst,w1:=z17.fst,w2:=z18.fst,w3:=z19.fst},{w0:=z20.fst,w1:=z21.fst,w2:=z22.fst,w3:=z23.fst},z23.snd.fst) (avz z3 z5 z6)
 let z25:=z24.fst
 let z26:=z24.snd
 let z27:=z26.fst
 (.br (decide ((0:Int)<=a6))
 (gd [ok2 z0,tj ((z3,z5,z6,()),()),inR (z6-(4:Int))] (.ok (.inl ((z3,(z5,((),((),(z6-(4:Int),()))))),((z8.fst,(z9.fst,(z10.fst,(z11.fst,(z12.fst,(z13.fst,(z14.fst,(z15.fst,(z15.snd.fst,()))))))))),((z25.w0,(z25.w1,(z25.w2,(z25.w3,(z27.w0,(z27.w1,(z27.w2,(z27.w3,(z26.snd,()))))))))),()))))))
 (.ok (.inr ⟨(.exit 0,vR),(((),((),())),((c0_0,(c0_1,(c0_2,(c0_3,(c0_4,(c0_5,(c0_6,(c0_7,(c0_8,()))))))))),((c1_0,(c1_1,(c1_2,(c1_3,(c1_4,(c1_5,(c1_6,(c1_7,(c1_8,()))))))))),())))⟩)))
def qM (ok2:bE->Bool) (g2_2:bE->ec) (s:cF):OT (Sum cF aE):=aiX ok2 g2_2 (s.1.1) (s.1.2.1) (s.1.2.2.2.2.1) (s.2.1.1) (s.2.1.2.1) (s.2.1.2.2.1) (s.2.1.2.2.2.1) (s.2.1.2.2.2.2.1) (s.2.1.2.2.2.2.2.1) (s.2.1.2.2.2.2.2.2.1) (s.2.1.2.2.2.2.2.2.2.1) (s.2.1.2.2.2.2.2.2.2.2.1) (s.2.2.1.1) (s.2.2.1.2.1) (s.2.2.1.2.2.1) (s.2.2.1.2.2.2.1) (s.2.2.1.2.2.2.2.1) (s.2.2.1.2.2.2.2.2.1) (s.2.2.1.2.2.2.2.2.2.1) (s.2.2.1.2.2.2.2.2.2.2.1) (s.2.2.1.2.2.2.2.2.2.2.2.1)
theorem azQ (ok2:bE->Bool) (g2_2:bE->ec) (s:cF) (Q:Sum cF aE->Prop):wps te jN (aO 2 (cg Bj 2 ok2 (H6 g2_2)) av) 1000 (aU (aj Tryz.f148) 0) (Bk.inj s) (bX Bk aiW (Q:Sum Bk.T aE->Prop))=(qM ok2 g2_2 s).wpR Q:=by kernel_rfl
def H7 (g0_0:cF->jC) (s:cF):OT aE:=(.ok ⟨(.exit 0,vR),g0_0 s⟩)
def vP:az:=⟨[.val true (.prod .elem (.prod .elem .bool))],[],false⟩
def Ya:SV->Option az:=λ_=>some vP
def EH (ok2:bE->Bool) (g2_2:bE->ec) (ok0:cF->Bool) (g0_0:cF->jC) (a0:Int) (a1:List ((aa×(aa×(aa×Bool))))):OT lX.Y:=
 let z0:Int:=Int.tdiv ((↑(abg a1):Int)+(4:Int)-(1:Int)) (4:Int)
 let z1:(Int×List (aa×aa×aa×Bool)×PUnit×PUnit×Int×PUnit)×(UInt64×UInt64×UInt64×UInt64×UInt64×UInt64×UInt64×UInt64×Bool×PUnit)×(UInt64×UInt64×UInt64×UInt64×UInt64×UInt64×UInt64×UInt64×Bool×PUnit)×PUnit:=((a0,a1,(),(),z0*(4:Int),()),((0:UInt64),(0:UInt64),(0:UInt64),(0:UInt64),(0:UInt64),(0:UInt64),(0:UInt64),(0:UInt64),false,()),((0:UInt64),(0:UInt64),(0:UInt64),(0:UInt64),(0:UInt64),(0:UInt64),(0:UInt64),(0:UInt64),true,()),())
 let z2:=(g0_0 z1).snd.snd.fst
 let z3:=z2.snd
 let z4:=z3.snd
 let z5:=z4.snd
 let z6:=z5.snd
 let z7:=z6.snd
 let z8:=z7.snd
 let z9:=z8.snd
 (.br (decide ((↑(List.length a1):Int)<(24:Int)))
 (gd [yT ((a0,a1,()),())] (.ok ⟨vP,((Ah a0 a1,()),())⟩))
 (gd [TK ((a1,()),()),inR ((↑(abg a1):Int)+(4:Int)),inR ((↑(abg a1):Int)+(4:Int)-(1:Int)),true&&inR z0,inR (z0*(4:Int)),ok0 z1] (.ok ⟨vP,((({w0:=z2.fst,w1:=z3.fst,w2:=z4.fst,w3:=z5.fst},{w0:=z6.fst,w1:=z7.fst,w2:=z8.fst,w3:=z9.fst},z9.snd.fst),()),())⟩)))
theorem aFg (ok2:bE->Bool) (g2_2:bE->ec) (ok0:cF->Bool) (g0_0:cF->jC) (x:Qr) (Q:lX.Y->Prop):wpf te jN (aO 0 (cg Bk 0 ok0 (H7 g0_0)) av) 1000 Tryz.f148 (lX.inp.inj x).tm (lX.inp.inj x).hp (fnK lX Ya Q) (λ_ _=>False)=(EH ok2 g2_2 ok0 g0_0 (x.1.1) (x.1.2.1)).wpR Q:=by kernel_rfl
theorem amE (ok2:bE->Bool) (g2_2:bE->ec) (ok0:cF->Bool) (g0_0:cF->jC) (h2:∀ s:bE,ok2 s=true->∃ m e,ao (Bn) m s=some e/\(H6 g2_2 s).run=some e) (h0:∀ s:cF,ok0 s=true->∃ m e,ao (qM ok2 g2_2) m s=some e/\(H7 g0_0 s).run=some e) (pre:Qr->Bool) (F:Qr->OT lX.Y) (hF:∀ (x:Qr) oy,pre x=true->(F x).run=some oy->(EH ok2 g2_2 ok0 g0_0 (x.1.1) (x.1.2.1)).run=some oy):ac Tryz.prog 148 (lX.aI pre F):=
 aD aq jn nU (f:=148) (fn:=Tryz.f148) (c:=aj Tryz.f148) (by kernel_rfl) (by kernel_rfl) (by kernel_rfl) (S:=lX) (k:=0) (by kernel_rfl) (λR hR=>(aB (c:=(aj Tryz.f148)) (by kernel_rfl) (id:=0) (by kernel_rfl) (aQ aq jn nU (sh:=Bk) hR (xs:=aiW) (aC (by kernel_rfl) (by kernel_rfl) hR) aL (aB (c:=(aU (aj Tryz.f148) 0)) (by kernel_rfl) (id:=2) (by kernel_rfl) (aQ aq jn nU (sh:=Bj) hR (xs:=aiV) (aC (by kernel_rfl) (by kernel_rfl) hR) aL af (n:=1000) (T:=Bn) (λs Q=>azP s Q) (ok:=ok2) (f:=H6 g2_2) h2) af) (n:=1000) (T:=qM ok2 g2_2) (λs Q=>azQ ok2 g2_2 s Q) (ok:=ok0) (f:=H7 g0_0) h0) af)) (n:=1000) (sel:=Ya) (λv o h=>by cases h;rfl) (pre:=pre) (F:=F) (T:=λx=>EH ok2 g2_2 ok0 g0_0 (x.1.1) (x.1.2.1)) (λx Q=>aFg ok2 g2_2 ok0 g0_0 x Q) hF
theorem abh (l:List Tm):∀ n,awr l n<=n
 |0=>Nat.le_refl _
 |n+1=>by
  unfold awr
  cases aIH l (n:Int)
  ·exact Nat.le_succ_of_le (abh l n)
  ·exact Nat.le_refl _
def aJm (c:Int) (O:Pt):Pt:=upto (λ_ o=>kS c o o) O 4
def tf (s:bE):Bool:=decide (s.1.2.2.2.2.2.1=0)
def Bm (s:bE):ec:=((s.1.1,s.1.2.1,(),(),s.1.2.2.2.2.1,()),(s.2.1,bP (aJm s.1.1 (Mb s.2.2.1)),()))
theorem azS:∀ s:bE,tf s=true->∃ m e,ao Bn m s=some e/\(H6 Bm s).run=some e:=by
 rintro ⟨⟨c,l,⟨⟩,⟨⟩,a,i,⟨⟩⟩,⟨c0,c1,⟨⟩⟩⟩ h
 have h':=of_decide_eq_true h
 dsimp only at h'
 subst h'
 have:=(aP (T:=Bn) (λi O=>(((c,l,(),(),a,(i:Int),()),(c0,bP O,())):bE)) (λ_ o=>kS c o o)
  (λO=>(⟨(.exit 2,vQ),((c,l,(),(),a,()),(c0,bP O,()))⟩:aE)) 4 (Mb c1) (λ_ _=>True) trivial (λk O hk _=>⟨?_,trivial⟩) (λO _=> ?_)).1
 ·obtain ⟨m,hm⟩:=this
  exact ⟨m,_,hm,rfl⟩
 ·refine (OT.ap (decide_eq_true (by dsimp only;omega))).trans ((ah ?_).trans rfl)
  simp only [List.all_cons,List.all_nil,Bool.and_true]
  exact aH (by omega)
 ·exact OT.ar (decide_eq_false (by dsimp only;omega))
def apf (c:Int) (l:List Tm) (W n:Nat) (O:Pt):Pt:=kS c (aJm c O) (avz c l (4*(W:Int)-4*(n:Int)))
def Oe (l:List Tm):Nat:=(abg l+3)/4
def aIP (c:Int) (l:List Tm):Pt:=upto (apf c l (Oe l)) cB (Oe l+1)
def ape (c:Int) (l:List Tm) (a:Int) (c0:C9) (O:Pt):bE:=((c,l,(),(),a,0,()),(c0,bP O,()))
theorem aG0 {ok2:bE->Bool} {g2:bE->ec} {c a:Int} {l:List Tm} {c0:C9} {O D:Pt} (h0:0<=a) (h1:a<=1000) (hl:l.length<=140737488355328) (hok:ok2 (ape c l a c0 O)=true)
 (e2:g2 (ape c l a c0 O)=((c,l,(),(),a,()),(c0,bP D,()))):
 (qM ok2 g2 ((c,l,(),(),a,()),(c0,bP O,()))).run=some (.inl ((c,l,(),(),a-4,()),(c0,bP (kS c D (avz c l a)),()))):=by
 unfold ape at hok e2
 have e2':g2 ((c,l,(),(),a,0,()),(c0.1,c0.2.1,c0.2.2.1,c0.2.2.2.1,c0.2.2.2.2.1,c0.2.2.2.2.2.1,c0.2.2.2.2.2.2.1,c0.2.2.2.2.2.2.2.1,c0.2.2.2.2.2.2.2.2.1,()),((bP O).1,(bP O).2.1,(bP O).2.2.1,(bP O).2.2.2.1,(bP O).2.2.2.2.1,(bP O).2.2.2.2.2.1,(bP O).2.2.2.2.2.2.1,(bP O).2.2.2.2.2.2.2.1,(bP O).2.2.2.2.2.2.2.2.1,()),())=((c,l,(),(),a,()),(c0,bP D,())):=e2
 unfold qM aiX
 simp only [e2']
 refine (OT.ap (decide_eq_true h0)).trans ((ah ?_).trans rfl)
 simp only [List.all_cons,List.all_nil,Bool.and_true,Bool.and_eq_true]
 exact ⟨hok,decide_eq_true ⟨⟨h0,h1⟩,hl⟩,aH (by omega)⟩
def KB (s:cF):Bool:=decide (s.1.2.2.2.2.1=4*(Oe s.1.2.1:Int)/\Mb s.2.2.1=cB/\s.1.2.1.length<=140737488355328)
def TQ (s:cF):jC:=(((),(),()),(s.2.1,bP (aIP s.1.1 s.1.2.1),()))
theorem azT:∀ s:cF,KB s=true->∃ m e,ao (qM tf Bm) m s=some e/\(H7 TQ s).run=some e:=by
 rintro ⟨⟨c,l,⟨⟩,⟨⟩,a,⟨⟩⟩,⟨c0,c1,⟨⟩⟩⟩ h
 have h':=of_decide_eq_true h
 dsimp only at h'
 obtain ⟨rfl,hO,hl⟩:=h'
 have hO2:c1=bP cB:=by rw [<-hO];rfl
 subst hO2
 have hW:Oe l<=64:=by
  have:=abh l 256
  unfold Oe abg
  omega
 have:=(aP (T:=qM tf Bm) (λn O=>(((c,l,(),(),4*(Oe l:Int)-4*(n:Int),()),(c0,bP O,())):cF)) (apf c l (Oe l))
  (λO=>(⟨(.exit 0,vR),(((),(),()),(c0,bP O,()))⟩:aE)) (Oe l+1) cB (λ_ _=>True) trivial (λn O hn _=>⟨?_,trivial⟩) (λO _=> ?_)).1
 ·obtain ⟨m,hm⟩:=this
  refine ⟨m,_,?_,rfl⟩
  have e:4*(Oe l:Int)-4*((0:Nat):Int)=4*(Oe l:Int):=by omega
  rw [e] at hm
  exact hm
 ·have e:4*(Oe l:Int)-4*((n+1:Nat):Int)=4*(Oe l:Int)-4*(n:Int)-4:=by omega
  rw [e]
  exact aG0 (D:=aJm c O) (by omega) (by omega) hl (decide_eq_true rfl) rfl
 ·exact OT.ar (decide_eq_false (by dsimp only;omega))
def aJj (l:List Tm):Bool:=decide ((l.length:Int)<24)
def ahQ (c:Int) (l:List Tm):Pt:=cond (aJj l) (Ah c l) (aIP c l)
def Bl (x:Qr):Bool:=decide (x.1.2.1.length<=140737488355328)
def ati (x:Qr):OT lX.Y:=.ok ⟨vP,((ahQ x.1.1 x.1.2.1,()),())⟩
theorem amF {ok2:bE->Bool} {g2:bE->ec} {ok0:cF->Bool} {g0:cF->jC} {c:Int} {l:List Tm} {R:Pt} (hl:l.length<=140737488355328) (hf:aJj l=false)
 (h0:ok0 ((c,l,(),(),4*(Oe l:Int),()),(bP dk,bP cB,()))=true) (e0:g0 ((c,l,(),(),4*(Oe l:Int),()),(bP dk,bP cB,()))=(((),(),()),(bP dk,bP R,()))):
 (EH ok2 g2 ok0 g0 c l).run=some ⟨vP,((R,()),())⟩:=by
 have ht:Int.tdiv ((abg l:Int)+4-1) 4=(Oe l:Int):=by
  unfold Oe
  rw [Int.tdiv_eq_ediv_of_nonneg (by omega)]
  omega
 have hW:=abh l 256
 have hW:abg l<=256:=hW
 have hW2:Oe l<=64:=by unfold Oe;omega
 have e1:(Oe l:Int)*4=4*(Oe l:Int):=Int.mul_comm _ _
 unfold EH
 have e0':g0 ((c,l,(),(),4*(Oe l:Int),()),(0,0,0,0,0,0,0,0,false,()),(0,0,0,0,0,0,0,0,true,()),())=(((),(),()),(bP dk,bP R,())):=e0
 simp only [ht,e1,e0']
 refine (OT.ar hf).trans ((ah ?_).trans rfl)
 simp only [List.all_cons,List.all_nil,Bool.and_true,Bool.true_and,Bool.and_eq_true]
 exact ⟨decide_eq_true hl,aH (by omega),aH (by omega),aH (by omega),aH (by omega),h0⟩
theorem azR:ac Tryz.prog 148 (lX.aI Bl ati):=amE tf Bm KB TQ azS azT _ _ λx oy hp ho=>by
 rw [<-ho]
 clear ho
 obtain ⟨⟨c,l,⟨⟩⟩,⟨⟩⟩:=x
 have hl:l.length<=140737488355328:=of_decide_eq_true hp
 show (EH tf Bm KB TQ c l).run=some ⟨vP,((ahQ c l,()),())⟩
 rcases (Bool.eq_false_or_eq_true (aJj l)).symm with hf|hf
 ·have e:ahQ c l=aIP c l:=by unfold ahQ;rw [hf];rfl
  rw [e]
  exact amF (R:=aIP c l) hl hf (decide_eq_true ⟨rfl,rfl,hl⟩) rfl
 ·have e:ahQ c l=Ah c l:=by unfold ahQ;rw [hf];rfl
  rw [e]
  refine (OT.ap hf).trans ((ah ?_).trans rfl)
  simp only [List.all_cons,List.all_nil,Bool.and_true]
  exact hp
def EG:cj:=(lX.aI Bl ati)
theorem adj:ac Tryz.prog 148 EG:=azR
theorem adi:aG EG:=aA
def Nh:Env:=ay 148 EG jN
theorem FV:aR Tryz.prog Nh:=ag adj jn
theorem Hd:ax Nh:=ae adi uO
theorem afr:aW Tryz.prog te Nh:=aK follows aq FV Hd
def iR:aw:=⟨[.ptr 0 0 0],[(0,aJC (.own 1)),(1,.row Hx)],false,2,true⟩
abbrev ED:Type:=((Unit)×Unit)×(((Int)×(Unit)×Unit)×(List ((aa×(aa×(aa×Bool)))))×Unit)
def Kv:az:=⟨[.val true (.prod .elem (.prod .elem .bool))],[(0,.cells [.val false .int,.own 1]),(1,.row (.prod .elem (.prod .elem (.prod .elem .bool))))],false⟩
def Qp:SV->Option az:=λ_=>some Kv
def TJ (c0_0:Int) (c1:List ((aa×(aa×(aa×Bool))))):OT iR.Y:=
 (gd [Bl ((c0_0,c1,()),())] (.ok ⟨Kv,((ahQ c0_0 c1,()),((c0_0,((),())),(c1,())))⟩))
theorem azL (x:ED) (Q:iR.Y->Prop):wpf te Nh av 1000 Tryz.f116 (iR.inp.inj x).tm (iR.inp.inj x).hp (fnK iR Qp Q) (λ_ _=>False)=(TJ (x.2.1.1) (x.2.2.1)).wpR Q:=by kernel_rfl
theorem ada (pre:ED->Bool) (F:ED->OT iR.Y) (hF:∀ (x:ED) oy,pre x=true->(F x).run=some oy->(TJ (x.2.1.1) (x.2.2.1)).run=some oy):ac Tryz.prog 116 (iR.aI pre F):=
 aD aq FV afr (f:=116) (fn:=Tryz.f116) (c:=aj Tryz.f116) (by kernel_rfl) (by kernel_rfl) (by kernel_rfl) (S:=iR) (k:=2) (by kernel_rfl) (λR hR=>af) (n:=1000) (sel:=Qp) (λv o h=>by cases h;rfl) (pre:=pre) (F:=F) (T:=λx=>TJ (x.2.1.1) (x.2.2.1)) (λx Q=>azL x Q) hF
def EC (x:ED):Bool:=Bl ((x.2.1.1,x.2.2.1,()),())
def aiO (x:ED):OT iR.Y:=.ok ⟨Kv,((ahQ x.2.1.1 x.2.2.1,()),((x.2.1.1,((),())),(x.2.2.1,())))⟩
theorem as6:ac Tryz.prog 116 (iR.aI EC aiO):=ada _ _ λx oy hp ho=>by
 rw [<-ho]
 clear ho
 refine (ah ?_).trans rfl
 simp only [List.all_cons,List.all_nil,Bool.and_true]
 exact hp
def yQ:cj:=(iR.aI EC aiO)
theorem X6:ac Tryz.prog 116 yQ:=as6
theorem X5:aG yQ:=aA
def xb:Env:=ay 116 yQ Nh
theorem rF:aR Tryz.prog xb:=ag X6 FV
theorem CT:ax xb:=ae X5 Hd
theorem Hb:aW Tryz.prog te xb:=aK follows aq rF CT
def rO:aw:=⟨[.val false .int,.val false (.list Hx)],[],true,0,false⟩
abbrev amD:Type:=((Int)×(List ((aa×(aa×(aa×Bool)))))×Unit)×(Unit)
def KA:Shape:=⟨45,[(4,.ptr 0 0 0),(6,.ptr 1 0 0),(26,.val false (.list (.prod .elem (.prod .elem (.prod .elem .bool))))),(27,.val false .int),(28,.val false .int)],[(0,.cells [.val false .u64,.val false .u64,.val false .u64,.val false .u64,.val false .u64,.val false .u64,.val false .u64,.val false .u64,.val false .bool]),(1,.cells [.val false .int,.own 2]),(2,.row (.prod .elem (.prod .elem (.prod .elem .bool))))],0,true⟩
abbrev bY:Type:=((Unit)×(Unit)×(List ((aa×(aa×(aa×Bool)))))×(Int)×(Int)×Unit)×(((UInt64)×(UInt64)×(UInt64)×(UInt64)×(UInt64)×(UInt64)×(UInt64)×(UInt64)×(Bool)×Unit)×((Int)×(Unit)×Unit)×(List ((aa×(aa×(aa×Bool)))))×Unit)
def lW:Shape:=⟨45,[(4,.ptr 0 0 0),(5,.val false .int)],[(0,.cells [.val false .u64,.val false .u64,.val false .u64,.val false .u64,.val false .u64,.val false .u64,.val false .u64,.val false .u64,.val false .bool])],0,true⟩
abbrev oX:Type:=((Unit)×(Int)×Unit)×(((UInt64)×(UInt64)×(UInt64)×(UInt64)×(UInt64)×(UInt64)×(UInt64)×(UInt64)×(Bool)×Unit)×Unit)
def Bi:Shape:=⟨45,[(4,.ptr 0 0 0),(6,.ptr 1 0 0)],[(0,.cells [.val false .u64,.val false .u64,.val false .u64,.val false .u64,.val false .u64,.val false .u64,.val false .u64,.val false .u64,.val false .bool]),(1,.cells [.val false .int,.own 2]),(2,.row (.prod .elem (.prod .elem (.prod .elem .bool))))],0,true⟩
abbrev oY:Type:=((Unit)×(Unit)×Unit)×(((UInt64)×(UInt64)×(UInt64)×(UInt64)×(UInt64)×(UInt64)×(UInt64)×(UInt64)×(Bool)×Unit)×((Int)×(Unit)×Unit)×(List ((aa×(aa×(aa×Bool)))))×Unit)
def atg:SE->Option Shape:=fw [(1,Bi)] (some lW)
def aFf (a26:List ((aa×(aa×(aa×Bool))))) (a27:Int) (a28:Int) (c0_0:UInt64) (c0_1:UInt64) (c0_2:UInt64) (c0_3:UInt64) (c0_4:UInt64) (c0_5:UInt64) (c0_6:UInt64) (c0_7:UInt64) (c0_8:Bool) (c1_0:Int) (c2:List ((aa×(aa×(aa×Bool))))):OT (Sum bY aE):=
 let z0:aa:= {w0:=0,w1:=0,w2:=0,w3:=0}
 let z1:aa×aa×aa×Bool:=List.getD a26 (Int.toNat a28) (z0,z0,z0,false)
 let z2:=z1.snd
 (.br (decide (a28<a27))
 (gd [inB a28 (List.length a26)] (.br (onB c1_0 z2)
  (.br (Wt c2)
   (gd [inR (a28+(1:Int))] (.ok (.inl (((),((),(a26,(a27,(a28+(1:Int),()))))),((c0_0,(c0_1,(c0_2,(c0_3,(c0_4,(c0_5,(c0_6,(c0_7,(c0_8,()))))))))),((c1_0,((),())),(c2++ [(abv c1_0 z1.fst,z2)],())))))))
   (.ok (.inr ⟨(.ret,lW),(((),((50:Int),())),(((0:UInt64),((0:UInt64),((0:UInt64),((0:UInt64),((0:UInt64),((0:UInt64),((0:UInt64),((0:UInt64),(false,()))))))))),()))⟩)))
  (.ok (.inr ⟨(.ret,lW),(((),((41:Int),())),(((0:UInt64),((0:UInt64),((0:UInt64),((0:UInt64),((0:UInt64),((0:UInt64),((0:UInt64),((0:UInt64),(false,()))))))))),()))⟩))))
 (.ok (.inr ⟨(.exit 1,Bi),(((),((),())),((c0_0,(c0_1,(c0_2,(c0_3,(c0_4,(c0_5,(c0_6,(c0_7,(c0_8,()))))))))),((c1_0,((),())),(c2,()))))⟩)))
def EF (s:bY):OT (Sum bY aE):=aFf (s.1.2.2.1) (s.1.2.2.2.1) (s.1.2.2.2.2.1) (s.2.1.1) (s.2.1.2.1) (s.2.1.2.2.1) (s.2.1.2.2.2.1) (s.2.1.2.2.2.2.1) (s.2.1.2.2.2.2.2.1) (s.2.1.2.2.2.2.2.2.1) (s.2.1.2.2.2.2.2.2.2.1) (s.2.1.2.2.2.2.2.2.2.2.1) (s.2.2.1.1) (s.2.2.2.1)
theorem aFc (s:bY) (Q:Sum bY aE->Prop):wps te xb av 1000 (aU (aj Tryz.f74) 1) (KA.inj s) (bX KA atg (Q:Sum KA.T aE->Prop))=(EF s).wpR Q:=by kernel_rfl
def TP (g1_r:bY->oX) (c1_r:bY->Bool) (g1_1:bY->oY) (s:bY):OT aE:=(.br (c1_r s) (.ok ⟨(.ret,lW),g1_r s⟩) (.ok ⟨(.exit 1,Bi),g1_1 s⟩))
def jB:az:=⟨[.val true (.prod .elem (.prod .elem .bool)),.val false .int],[],false⟩
def aiS:SV->Option az:=λ_=>some jB
def aiU (ok1:bY->Bool) (g1_r:bY->oX) (c1_r:bY->Bool) (g1_1:bY->oY) (a0:Int) (a1:List ((aa×(aa×(aa×Bool))))):OT rO.Y:=
 let z0:Int:=(↑(List.length a1):Int)
 let z1:aa:= {w0:=0,w1:=0,w2:=0,w3:=0}
 let z2:aa×aa×Bool:=(z1,z1,false)
 let z3:(PUnit×PUnit×List (aa×aa×aa×Bool)×Int×Int×PUnit)×(UInt64×UInt64×UInt64×UInt64×UInt64×UInt64×UInt64×UInt64×Bool×PUnit)×(Int×PUnit×PUnit)×List (aa×aa×aa×Bool)×PUnit:=(((),(),a1,z0,(0:Int),()),((0:UInt64),(0:UInt64),(0:UInt64),(0:UInt64),(0:UInt64),(0:UInt64),(0:UInt64),(0:UInt64),false,()),(a0,(),()),[],())
 let z4:(PUnit×Int×PUnit)×(UInt64×UInt64×UInt64×UInt64×UInt64×UInt64×UInt64×UInt64×Bool×PUnit)×PUnit:=g1_r z3
 let z5:=z4.snd.fst
 let z6:=z5.snd
 let z7:=z6.snd
 let z8:=z7.snd
 let z9:=z8.snd
 let z10:=z9.snd
 let z11:=z10.snd
 let z12:=z11.snd
 let z13:=(g1_1 z3).snd.snd
 let z14:=z13.fst.fst
 let z15:=z13.snd.fst
 (.br (al a0)
 (.br (decide ((100000:Int)<z0))
  (.ok ⟨jB,((z2,((50:Int),())),())⟩)
  (gd [ok1 z3] (.br (c1_r z3)
   (.ok ⟨jB,((({w0:=z5.fst,w1:=z6.fst,w2:=z7.fst,w3:=z8.fst},{w0:=z9.fst,w1:=z10.fst,w2:=z11.fst,w3:=z12.fst},z12.snd.fst),(z4.fst.snd.fst,())),())⟩)
   (gd [EC (((),()),(z14,(),()),z15,())] (.ok ⟨jB,((ahQ z14 z15,((0:Int),())),())⟩)))))
 (.ok ⟨jB,((z2,((40:Int),())),())⟩))
theorem aHU (ok1:bY->Bool) (g1_r:bY->oX) (c1_r:bY->Bool) (g1_1:bY->oY) (x:amD) (Q:rO.Y->Prop):wpf te xb (aO 1 (cg KA 1 ok1 (TP g1_r c1_r g1_1)) av) 1000 Tryz.f74 (rO.inp.inj x).tm (rO.inp.inj x).hp (fnK rO aiS Q) (λ_ _=>False)=(aiU ok1 g1_r c1_r g1_1 (x.1.1) (x.1.2.1)).wpR Q:=by kernel_rfl
theorem ath (ok1:bY->Bool) (g1_r:bY->oX) (c1_r:bY->Bool) (g1_1:bY->oY) (h1:∀ s:bY,ok1 s=true->∃ m e,ao (EF) m s=some e/\(TP g1_r c1_r g1_1 s).run=some e) (pre:amD->Bool) (F:amD->OT rO.Y) (hF:∀ (x:amD) oy,pre x=true->(F x).run=some oy->(aiU ok1 g1_r c1_r g1_1 (x.1.1) (x.1.2.1)).run=some oy):ac Tryz.prog 74 (rO.aI pre F):=
 aD aq rF Hb (f:=74) (fn:=Tryz.f74) (c:=aj Tryz.f74) (by kernel_rfl) (by kernel_rfl) (by kernel_rfl) (S:=rO) (k:=0) (by kernel_rfl) (λR hR=>(aB (c:=(aj Tryz.f74)) (by kernel_rfl) (id:=1) (by kernel_rfl) (aQ aq rF Hb (sh:=KA) hR (xs:=atg) (aC (by kernel_rfl) (by kernel_rfl) hR) aL af (n:=1000) (T:=EF) (λs Q=>aFc s Q) (ok:=ok1) (f:=TP g1_r c1_r g1_1) h1) af)) (n:=1000) (sel:=aiS) (λv o h=>by cases h;rfl) (pre:=pre) (F:=F) (T:=λx=>aiU ok1 g1_r c1_r g1_1 (x.1.1) (x.1.2.1)) (λx Q=>aHU ok1 g1_r c1_r g1_1 x Q) hF
def aa1 (c:Int) (l:List Tm):List Tm:=l.map λt=>(abv c t.1,t.2)
def rY (c:Int) (l:List Tm):Bool:=l.all λt=>onB c t.2
def TN (s:bY):Bool:=decide (s.1.2.2.2.1=(s.1.2.2.1.length:Int)/\s.1.2.2.2.2.1=0/\s.2.2.2.1= []/\s.1.2.2.1.length<=100000)
def TO (_:bY):oX:=(((),(41:Int),()),(bP dk,()))
def adh (s:bY):Bool:= !rY s.2.2.1.1 s.1.2.2.1
def adg (s:bY):oY:=(((),(),()),(s.2.1,(s.2.2.1.1,(),()),aa1 s.2.2.1.1 s.1.2.2.1,()))
def V4 (c:Int) (l:List Tm) (c0:C9) (k:Int) (o:List Tm):bY:=(((),(),l,(l.length:Int),k,()),(c0,(c,(),()),o,()))
theorem ahP (c:Int) (l:List Tm) (c0:C9) (hl:l.length<=100000):∀ d k:Nat,k+d=l.length->
 ∃ m,ao EF m (V4 c l c0 (k:Int) (aa1 c (l.take k)))=some (cond (rY c (l.drop k)) ⟨(.exit 1,Bi),(((),(),()),(c0,(c,(),()),aa1 c l,()))⟩ ⟨(.ret,lW),(((),(41:Int),()),(bP dk,()))⟩)
 |0,k,h=>by
  rw [List.drop_eq_nil_of_le (by omega),List.take_of_length_le (by omega)]
  exact ⟨1,aM (OT.ar (decide_eq_false (by dsimp only [V4];omega)))⟩
 |d+1,k,h=>by
  have hk:k<l.length:=by omega
  have e1:l.drop k=l[k]::l.drop (k+1):=List.drop_eq_getElem_cons hk
  have e2:l.take (k+1)=l.take k++ [l[k]]:=(List.take_append_getElem hk).symm
  have e3:l.getD k yP=l[k]:=by rw [List.getD_eq_getElem?_getD,List.getElem?_eq_getElem hk];rfl
  have hgd:∀ z:OT (Sum bY aE),(gd [inB (k:Int) l.length] z).run=z.run:=λz=>ah (by rw [aN (by omega)];rfl)
  have ea:rY c (l.drop k)=(onB c l[k].2&&rY c (l.drop (k+1))):=by rw [e1];rfl
  rw [ea]
  have hr:Wt (aa1 c (l.take k))=true:=decide_eq_true (by rw [aa1,List.length_map,List.length_take];omega)
  have first:∀ e:aE ⊕ Unit,(EF (V4 c l c0 (k:Int) (aa1 c (l.take k)))).run=(OT.br (onB c (l.getD k yP).2) (.br (Wt (aa1 c (l.take k))) (gd [inR ((k:Int)+1)] (.ok (.inl (V4 c l c0 ((k:Int)+1) (aa1 c (l.take k)++ [(abv c (l.getD k yP).1,(l.getD k yP).2)])))))
   (.ok (.inr ⟨(.ret,lW),(((),(50:Int),()),(bP dk,()))⟩))) (.ok (.inr ⟨(.ret,lW),(((),(41:Int),()),(bP dk,()))⟩)):OT (Sum bY aE)).run:=λ_=>
   (OT.ap (decide_eq_true (by dsimp only [V4];omega))).trans ((hgd _).trans rfl)
  have first:=first (.inr ())
  rw [e3] at first
  rcases (Bool.eq_false_or_eq_true (onB c l[k].2)).symm with hb|hb
  ·rw [hb]
   exact ⟨1,aM (first.trans (OT.ar hb))⟩
  ·rw [hb]
   obtain ⟨m,hm⟩:=ahP c l c0 hl d (k+1) (by omega)
   refine ⟨m+1,aF ?_ hm⟩
   refine first.trans ((OT.ap hb).trans ((OT.ap hr).trans ((ah ?_).trans ?_)))
   ·simp only [List.all_cons,List.all_nil,Bool.and_true]
    exact aH (by omega)
   ·rw [e2]
    simp only [aa1,List.map_append,List.map_cons,List.map_nil]
    rfl
theorem aFe:∀ s:bY,TN s=true->∃ m e,ao EF m s=some e/\(TP TO adh adg s).run=some e:=by
 rintro ⟨⟨⟨⟩,⟨⟩,l,n,k,⟨⟩⟩,⟨c0,⟨c,⟨⟩,⟨⟩⟩,o,⟨⟩⟩⟩ h
 have h':=of_decide_eq_true h
 dsimp only at h'
 obtain ⟨rfl,rfl,rfl,hl⟩:=h'
 obtain ⟨m,hm⟩:=ahP c l c0 hl l.length 0 (by omega)
 refine ⟨m,_,hm,?_⟩
 show (OT.br (!rY c l) _ _:OT aE).run=some (cond (rY c l) _ _)
 cases rY c l<;>rfl
def aiT (_:amD):Bool:=true
def aBS (x:amD):OT rO.Y:=.br (al x.1.1) (.br (decide (x.1.2.1.length<=100000)) (.br (rY x.1.1 x.1.2.1) (.ok ⟨jB,((ahQ x.1.1 (aa1 x.1.1 x.1.2.1),((0:Int),())),())⟩)
 (.ok ⟨jB,((dk,((41:Int),())),())⟩)) (.ok ⟨jB,((dk,((50:Int),())),())⟩)) (.ok ⟨jB,((dk,((40:Int),())),())⟩)
theorem aFd:ac Tryz.prog 74 (rO.aI aiT aBS):=ath TN TO adh adg aFe _ _ λx oy hp ho=>by
 rw [<-ho]
 clear ho
 obtain ⟨⟨c,l,⟨⟩⟩,⟨⟩⟩:=x
 show (aiU TN TO adh adg c l).run=(OT.br (al c) (.br (decide (l.length<=100000)) (.br (rY c l) (.ok ⟨jB,((ahQ c (aa1 c l),((0:Int),())),())⟩)
  (.ok ⟨jB,((dk,((41:Int),())),())⟩)) (.ok ⟨jB,((dk,((50:Int),())),())⟩)) (.ok ⟨jB,((dk,((40:Int),())),())⟩):OT rO.Y).run
 rcases (Bool.eq_false_or_eq_true (al c)).symm with hs|hs
 ·exact (OT.ar hs).trans (OT.ar (b:=al c) hs).symm
 ·refine (OT.ap hs).trans (Eq.trans ?_ (OT.ap (b:=al c) hs).symm)
  by_cases hl:l.length<=100000
  ·refine (OT.ar (decide_eq_false (by omega))).trans (Eq.trans ?_ (OT.ap (b:=decide (l.length<=100000)) (decide_eq_true hl)).symm)
   refine (ah ?_).trans ?_
   ·simp only [List.all_cons,List.all_nil,Bool.and_true]
    exact decide_eq_true ⟨rfl,rfl,rfl,hl⟩
   ·rcases (Bool.eq_false_or_eq_true (rY c l)).symm with ha|ha
    ·exact (OT.ap (b:= !rY c l) (by rw [ha];rfl)).trans (OT.ar (b:=rY c l) ha).symm
    ·refine (OT.ar (b:= !rY c l) (by rw [ha];rfl)).trans (Eq.trans ?_ (OT.ap (b:=rY c l) ha).symm)
     refine (ah ?_).trans rfl
     simp only [List.all_cons,List.all_nil,Bool.and_true]
     refine decide_eq_true ?_
     show (aa1 c l).length<=_
     rw [aa1,List.length_map]
     omega
  ·exact (OT.ap (decide_eq_true (by omega))).trans (OT.ar (b:=decide (l.length<=100000)) (decide_eq_false hl)).symm
def Kz:cj:=(rO.aI aiT aBS)
theorem amC:ac Tryz.prog 74 Kz:=aFd
theorem amB:aG Kz:=aA
def aaA:Env:=ay 74 Kz xb
theorem Nf:aR Tryz.prog aaA:=ag amC rF
theorem Ng:ax aaA:=ae amB CT
theorem aoJ:aW Tryz.prog te aaA:=aK follows aq Nf Ng
abbrev aIV:Ty:=.prod .int (.prod .int (.prod (.list (.prod .elem (.prod .elem .bool))) (.prod (.prod .elem (.prod .elem .bool)) (.prod .elem (.prod .elem .bool)))))
def aJd:CSh:=.cells [.val false .int,.val false .int,.val false (.list (.prod .elem (.prod .elem .bool))),.val false .u64,.val false .u64,.val false .u64,.val false .u64,.val false .u64,.val false .u64,.val false .u64,.val false .u64,.val false .bool,.val false .u64,.val false .u64,.val false .u64,.val false .u64,.val false .u64,.val false .u64,.val false .u64,.val false .u64,.val false .bool]
def gL:aw:=⟨[.val true (.prod .elem (.prod .elem .bool)),.ptr 0 0 0],[(0,aJd)],false,1,true⟩
abbrev Ej:Type:=(((aa×(aa×Bool)))×(Unit)×Unit)×(((Int)×(Int)×(List ((aa×(aa×Bool))))×(UInt64)×(UInt64)×(UInt64)×(UInt64)×(UInt64)×(UInt64)×(UInt64)×(UInt64)×(Bool)×(UInt64)×(UInt64)×(UInt64)×(UInt64)×(UInt64)×(UInt64)×(UInt64)×(UInt64)×(Bool)×Unit)×Unit)
def sW:az:=⟨[.val false .bool],[(0,.cells [.val false .int,.val false .int,.val false (.list (.prod .elem (.prod .elem .bool))),.val false .u64,.val false .u64,.val false .u64,.val false .u64,.val false .u64,.val false .u64,.val false .u64,.val false .u64,.val false .bool,.val false .u64,.val false .u64,.val false .u64,.val false .u64,.val false .u64,.val false .u64,.val false .u64,.val false .u64,.val false .bool])],false⟩
def P0:SV->Option az:=λ_=>some sW
def Tg (a0:(aa×(aa×Bool))) (c0_0:Int) (c0_1:Int) (c0_2:List ((aa×(aa×Bool)))) (c0_3:UInt64) (c0_4:UInt64) (c0_5:UInt64) (c0_6:UInt64) (c0_7:UInt64) (c0_8:UInt64) (c0_9:UInt64) (c0_10:UInt64) (c0_11:Bool) (c0_12:UInt64) (c0_13:UInt64) (c0_14:UInt64) (c0_15:UInt64) (c0_16:UInt64) (c0_17:UInt64) (c0_18:UInt64) (c0_19:UInt64) (c0_20:Bool):OT gL.Y:=
 (.br (a0.snd.snd)
 (.ok ⟨sW,((true,()),((c0_0,(c0_1,(c0_2,(c0_3,(c0_4,(c0_5,(c0_6,(c0_7,(c0_8,(c0_9,(c0_10,(c0_11,(c0_12,(c0_13,(c0_14,(c0_15,(c0_16,(c0_17,(c0_18,(c0_19,(c0_20,()))))))))))))))))))))),()))⟩)
 (.ok ⟨sW,((!onB c0_0 a0,()),((c0_0,(c0_1,(c0_2,(c0_3,(c0_4,(c0_5,(c0_6,(c0_7,(c0_8,(c0_9,(c0_10,(c0_11,(c0_12,(c0_13,(c0_14,(c0_15,(c0_16,(c0_17,(c0_18,(c0_19,(c0_20,()))))))))))))))))))))),()))⟩))
theorem azp (x:Ej) (Q:gL.Y->Prop):wpf te aaA av 1000 Tryz.f71 (gL.inp.inj x).tm (gL.inp.inj x).hp (fnK gL P0 Q) (λ_ _=>False)=(Tg (x.1.1) (x.2.1.1) (x.2.1.2.1) (x.2.1.2.2.1) (x.2.1.2.2.2.1) (x.2.1.2.2.2.2.1) (x.2.1.2.2.2.2.2.1) (x.2.1.2.2.2.2.2.2.1) (x.2.1.2.2.2.2.2.2.2.1) (x.2.1.2.2.2.2.2.2.2.2.1) (x.2.1.2.2.2.2.2.2.2.2.2.1) (x.2.1.2.2.2.2.2.2.2.2.2.2.1) (x.2.1.2.2.2.2.2.2.2.2.2.2.2.1) (x.2.1.2.2.2.2.2.2.2.2.2.2.2.2.1) (x.2.1.2.2.2.2.2.2.2.2.2.2.2.2.2.1) (x.2.1.2.2.2.2.2.2.2.2.2.2.2.2.2.2.1) (x.2.1.2.2.2.2.2.2.2.2.2.2.2.2.2.2.2.1) (x.2.1.2.2.2.2.2.2.2.2.2.2.2.2.2.2.2.2.1) (x.2.1.2.2.2.2.2.2.2.2.2.2.2.2.2.2.2.2.2.1) (x.2.1.2.2.2.2.2.2.2.2.2.2.2.2.2.2.2.2.2.2.1) (x.2.1.2.2.2.2.2.2.2.2.2.2.2.2.2.2.2.2.2.2.2.1) (x.2.1.2.2.2.2.2.2.2.2.2.2.2.2.2.2.2.2.2.2.2.2.1)).wpR Q:=by kernel_rfl
theorem acO (pre:Ej->Bool) (F:Ej->OT gL.Y) (hF:∀ (x:Ej) oy,pre x=true->(F x).run=some oy->(Tg (x.1.1) (x.2.1.1) (x.2.1.2.1) (x.2.1.2.2.1) (x.2.1.2.2.2.1) (x.2.1.2.2.2.2.1) (x.2.1.2.2.2.2.2.1) (x.2.1.2.2.2.2.2.2.1) (x.2.1.2.2.2.2.2.2.2.1) (x.2.1.2.2.2.2.2.2.2.2.1) (x.2.1.2.2.2.2.2.2.2.2.2.1) (x.2.1.2.2.2.2.2.2.2.2.2.2.1) (x.2.1.2.2.2.2.2.2.2.2.2.2.2.1) (x.2.1.2.2.2.2.2.2.2.2.2.2.2.2.1) (x.2.1.2.2.2.2.2.2.2.2.2.2.2.2.2.1) (x.2.1.2.2.2.2.2.2.2.2.2.2.2.2.2.2.1) (x.2.1.2.2.2.2.2.2.2.2.2.2.2.2.2.2.2.1) (x.2.1.2.2.2.2.2.2.2.2.2.2.2.2.2.2.2.2.1) (x.2.1.2.2.2.2.2.2.2.2.2.2.2.2.2.2.2.2.2.1) (x.2.1.2.2.2.2.2.2.2.2.2.2.2.2.2.2.2.2.2.2.1) (x.2.1.2.2.2.2.2.2.2.2.2.2.2.2.2.2.2.2.2.2.2.1) (x.2.1.2.2.2.2.2.2.2.2.2.2.2.2.2.2.2.2.2.2.2.2.1)).run=some oy):ac Tryz.prog 71 (gL.aI pre F):=
 aD aq Nf aoJ (f:=71) (fn:=Tryz.f71) (c:=aj Tryz.f71) (by kernel_rfl) (by kernel_rfl) (by kernel_rfl) (S:=gL) (k:=1) (by kernel_rfl) (λR hR=>af) (n:=1000) (sel:=P0) (λv o h=>by cases h;rfl) (pre:=pre) (F:=F) (T:=λx=>Tg (x.1.1) (x.2.1.1) (x.2.1.2.1) (x.2.1.2.2.1) (x.2.1.2.2.2.1) (x.2.1.2.2.2.2.1) (x.2.1.2.2.2.2.2.1) (x.2.1.2.2.2.2.2.2.1) (x.2.1.2.2.2.2.2.2.2.1) (x.2.1.2.2.2.2.2.2.2.2.1) (x.2.1.2.2.2.2.2.2.2.2.2.1) (x.2.1.2.2.2.2.2.2.2.2.2.2.1) (x.2.1.2.2.2.2.2.2.2.2.2.2.2.1) (x.2.1.2.2.2.2.2.2.2.2.2.2.2.2.1) (x.2.1.2.2.2.2.2.2.2.2.2.2.2.2.2.1) (x.2.1.2.2.2.2.2.2.2.2.2.2.2.2.2.2.1) (x.2.1.2.2.2.2.2.2.2.2.2.2.2.2.2.2.2.1) (x.2.1.2.2.2.2.2.2.2.2.2.2.2.2.2.2.2.2.1) (x.2.1.2.2.2.2.2.2.2.2.2.2.2.2.2.2.2.2.2.1) (x.2.1.2.2.2.2.2.2.2.2.2.2.2.2.2.2.2.2.2.2.1) (x.2.1.2.2.2.2.2.2.2.2.2.2.2.2.2.2.2.2.2.2.2.1) (x.2.1.2.2.2.2.2.2.2.2.2.2.2.2.2.2.2.2.2.2.2.2.1)) (λx Q=>azp x Q) hF
abbrev aCk:Type:=Int×(Int×(List Pt×(UInt64×(UInt64×(UInt64×(UInt64×(UInt64×(UInt64×(UInt64×(UInt64×(Bool×(UInt64×(UInt64×(UInt64×(UInt64×(UInt64×(UInt64×(UInt64×(UInt64×(Bool×Unit))))))))))))))))))))
def ac8:Pt:=(⟨0,0,0,0⟩,⟨0,0,0,0⟩,false)
def MD (c:Int) (P:Pt):Bool:=cond P.2.2 true (!onB c P)
def P1 (_:Ej):Bool:=true
def aiA (x:Ej):OT gL.Y:=.ok ⟨sW,((MD x.2.1.1 x.1.1,()),x.2)⟩
theorem asA:ac Tryz.prog 71 (gL.aI P1 aiA):=acO _ _ λx oy hp ho=>by
 rw [<-ho]
 clear ho
 obtain ⟨⟨P,⟨⟩,⟨⟩⟩,⟨i,⟨⟩⟩⟩:=x
 show _=some (⟨sW,((MD i.1 P,()),(i,()))⟩:gL.Y)
 unfold MD
 rcases (Bool.eq_false_or_eq_true P.2.2).symm with h|h
 ·rw [h]
  exact (OT.ar h).trans rfl
 ·rw [h]
  exact (OT.ap h).trans rfl
def yz:cj:=(gL.aI P1 aiA)
theorem Xy:ac Tryz.prog 71 yz:=asA
theorem Xx:aG yz:=aA
def wZ:Env:=ay 71 yz aaA
theorem rE:aR Tryz.prog wZ:=ag Xy Nf
theorem CI:ax wZ:=ae Xx Ng
theorem G8:aW Tryz.prog te wZ:=aK follows aq rE CI
def e5:aw:=⟨[.val false (.list (.prod .elem (.prod .elem .bool))),.fn 71 [0]],[(0,aJd)],false,1,true⟩
abbrev vG:Type:=((List ((aa×(aa×Bool))))×(Unit)×Unit)×(((Int)×(Int)×(List ((aa×(aa×Bool))))×(UInt64)×(UInt64)×(UInt64)×(UInt64)×(UInt64)×(UInt64)×(UInt64)×(UInt64)×(Bool)×(UInt64)×(UInt64)×(UInt64)×(UInt64)×(UInt64)×(UInt64)×(UInt64)×(UInt64)×(Bool)×Unit)×Unit)
def oL:Shape:=⟨19,[(0,.val false (.list (.prod .elem (.prod .elem .bool)))),(1,.fn 71 [0]),(7,.val false .int),(8,.val false .int)],[(0,.cells [.val false .int,.val false .int,.val false (.list (.prod .elem (.prod .elem .bool))),.val false .u64,.val false .u64,.val false .u64,.val false .u64,.val false .u64,.val false .u64,.val false .u64,.val false .u64,.val false .bool,.val false .u64,.val false .u64,.val false .u64,.val false .u64,.val false .u64,.val false .u64,.val false .u64,.val false .u64,.val false .bool])],1,true⟩
abbrev bc:Type:=((List ((aa×(aa×Bool))))×(Unit)×(Int)×(Int)×Unit)×(((Int)×(Int)×(List ((aa×(aa×Bool))))×(UInt64)×(UInt64)×(UInt64)×(UInt64)×(UInt64)×(UInt64)×(UInt64)×(UInt64)×(Bool)×(UInt64)×(UInt64)×(UInt64)×(UInt64)×(UInt64)×(UInt64)×(UInt64)×(UInt64)×(Bool)×Unit)×Unit)
def m6:Shape:=⟨19,[(4,.val false .int)],[(0,.cells [.val false .int,.val false .int,.val false (.list (.prod .elem (.prod .elem .bool))),.val false .u64,.val false .u64,.val false .u64,.val false .u64,.val false .u64,.val false .u64,.val false .u64,.val false .u64,.val false .bool,.val false .u64,.val false .u64,.val false .u64,.val false .u64,.val false .u64,.val false .u64,.val false .u64,.val false .u64,.val false .bool])],1,true⟩
abbrev iK:Type:=((Int)×Unit)×(((Int)×(Int)×(List ((aa×(aa×Bool))))×(UInt64)×(UInt64)×(UInt64)×(UInt64)×(UInt64)×(UInt64)×(UInt64)×(UInt64)×(Bool)×(UInt64)×(UInt64)×(UInt64)×(UInt64)×(UInt64)×(UInt64)×(UInt64)×(UInt64)×(Bool)×Unit)×Unit)
def m7:Shape:=⟨19,[],[(0,.cells [.val false .int,.val false .int,.val false (.list (.prod .elem (.prod .elem .bool))),.val false .u64,.val false .u64,.val false .u64,.val false .u64,.val false .u64,.val false .u64,.val false .u64,.val false .u64,.val false .bool,.val false .u64,.val false .u64,.val false .u64,.val false .u64,.val false .u64,.val false .u64,.val false .u64,.val false .u64,.val false .bool])],1,true⟩
abbrev iL:Type:=(Unit)×(((Int)×(Int)×(List ((aa×(aa×Bool))))×(UInt64)×(UInt64)×(UInt64)×(UInt64)×(UInt64)×(UInt64)×(UInt64)×(UInt64)×(Bool)×(UInt64)×(UInt64)×(UInt64)×(UInt64)×(UInt64)×(UInt64)×(UInt64)×(UInt64)×(Bool)×Unit)×Unit)
def P7:SE->Option Shape:=fw [(0,m7)] (some m6)
def ame (a0:List ((aa×(aa×Bool)))) (a7:Int) (a8:Int) (c0_0:Int) (c0_1:Int) (c0_2:List ((aa×(aa×Bool)))) (c0_3:UInt64) (c0_4:UInt64) (c0_5:UInt64) (c0_6:UInt64) (c0_7:UInt64) (c0_8:UInt64) (c0_9:UInt64) (c0_10:UInt64) (c0_11:Bool) (c0_12:UInt64) (c0_13:UInt64) (c0_14:UInt64) (c0_15:UInt64) (c0_16:UInt64) (c0_17:UInt64) (c0_18:UInt64) (c0_19:UInt64) (c0_20:Bool):OT (Sum bc aE):=
 let z0:aa:= {w0:=0,w1:=0,w2:=0,w3:=0}
 (.br (decide (a8<a7))
 (gd [inB a8 (List.length a0)] (.br (MD c0_0 (List.getD a0 (Int.toNat a8) (z0,z0,false)))
  (.ok (.inr ⟨(.ret,m6),((a8,()),((c0_0,(c0_1,(c0_2,(c0_3,(c0_4,(c0_5,(c0_6,(c0_7,(c0_8,(c0_9,(c0_10,(c0_11,(c0_12,(c0_13,(c0_14,(c0_15,(c0_16,(c0_17,(c0_18,(c0_19,(c0_20,()))))))))))))))))))))),()))⟩))
  (gd [inR (a8+(1:Int))] (.ok (.inl ((a0,((),(a7,(a8+(1:Int),())))),((c0_0,(c0_1,(c0_2,(c0_3,(c0_4,(c0_5,(c0_6,(c0_7,(c0_8,(c0_9,(c0_10,(c0_11,(c0_12,(c0_13,(c0_14,(c0_15,(c0_16,(c0_17,(c0_18,(c0_19,(c0_20,()))))))))))))))))))))),())))))))
 (.ok (.inr ⟨(.exit 0,m7),((),((c0_0,(c0_1,(c0_2,(c0_3,(c0_4,(c0_5,(c0_6,(c0_7,(c0_8,(c0_9,(c0_10,(c0_11,(c0_12,(c0_13,(c0_14,(c0_15,(c0_16,(c0_17,(c0_18,(c0_19,(c0_20,()))))))))))))))))))))),()))⟩)))
def oM (s:bc):OT (Sum bc aE):=ame (s.1.1) (s.1.2.2.1) (s.1.2.2.2.1) (s.2.1.1) (s.2.1.2.1) (s.2.1.2.2.1) (s.2.1.2.2.2.1) (s.2.1.2.2.2.2.1) (s.2.1.2.2.2.2.2.1) (s.2.1.2.2.2.2.2.2.1) (s.2.1.2.2.2.2.2.2.2.1) (s.2.1.2.2.2.2.2.2.2.2.1) (s.2.1.2.2.2.2.2.2.2.2.2.1) (s.2.1.2.2.2.2.2.2.2.2.2.2.1) (s.2.1.2.2.2.2.2.2.2.2.2.2.2.1) (s.2.1.2.2.2.2.2.2.2.2.2.2.2.2.1) (s.2.1.2.2.2.2.2.2.2.2.2.2.2.2.2.1) (s.2.1.2.2.2.2.2.2.2.2.2.2.2.2.2.2.1) (s.2.1.2.2.2.2.2.2.2.2.2.2.2.2.2.2.2.1) (s.2.1.2.2.2.2.2.2.2.2.2.2.2.2.2.2.2.2.1) (s.2.1.2.2.2.2.2.2.2.2.2.2.2.2.2.2.2.2.2.1) (s.2.1.2.2.2.2.2.2.2.2.2.2.2.2.2.2.2.2.2.2.1) (s.2.1.2.2.2.2.2.2.2.2.2.2.2.2.2.2.2.2.2.2.2.1) (s.2.1.2.2.2.2.2.2.2.2.2.2.2.2.2.2.2.2.2.2.2.2.1)
theorem amb (s:bc) (Q:Sum bc aE->Prop):wps te wZ av 1000 (aU (aj Tryz.f112) 0) (oL.inj s) (bX oL P7 (Q:Sum oL.T aE->Prop))=(oM s).wpR Q:=by kernel_rfl
def vF (g0_r:bc->iK) (c0_r:bc->Bool) (g0_0:bc->iL) (s:bc):OT aE:=(.br (c0_r s) (.ok ⟨(.ret,m6),g0_r s⟩) (.ok ⟨(.exit 0,m7),g0_0 s⟩))
def jz:az:=⟨[.val false .int],[(0,.cells [.val false .int,.val false .int,.val false (.list (.prod .elem (.prod .elem .bool))),.val false .u64,.val false .u64,.val false .u64,.val false .u64,.val false .u64,.val false .u64,.val false .u64,.val false .u64,.val false .bool,.val false .u64,.val false .u64,.val false .u64,.val false .u64,.val false .u64,.val false .u64,.val false .u64,.val false .u64,.val false .bool])],false⟩
def Kd:SV->Option az:=λ_=>some jz
def Kg (ok0:bc->Bool) (g0_r:bc->iK) (c0_r:bc->Bool) (g0_0:bc->iL) (a0:List ((aa×(aa×Bool)))) (c0_0:Int) (c0_1:Int) (c0_2:List ((aa×(aa×Bool)))) (c0_3:UInt64) (c0_4:UInt64) (c0_5:UInt64) (c0_6:UInt64) (c0_7:UInt64) (c0_8:UInt64) (c0_9:UInt64) (c0_10:UInt64) (c0_11:Bool) (c0_12:UInt64) (c0_13:UInt64) (c0_14:UInt64) (c0_15:UInt64) (c0_16:UInt64) (c0_17:UInt64) (c0_18:UInt64) (c0_19:UInt64) (c0_20:Bool):OT e5.Y:=
 let z0:(List (aa×aa×Bool)×PUnit×Int×Int×PUnit)×(Int×Int×List (aa×aa×Bool)×UInt64×UInt64×UInt64×UInt64×UInt64×UInt64×UInt64×UInt64×Bool×UInt64×UInt64×UInt64×UInt64×UInt64×UInt64×UInt64×UInt64×Bool×PUnit)×PUnit:=((a0,(),(↑(List.length a0):Int),(0:Int),()),(c0_0,c0_1,c0_2,c0_3,c0_4,c0_5,c0_6,c0_7,c0_8,c0_9,c0_10,c0_11,c0_12,c0_13,c0_14,c0_15,c0_16,c0_17,c0_18,c0_19,c0_20,()),())
 let z1:(Int×PUnit)×(Int×Int×List (aa×aa×Bool)×UInt64×UInt64×UInt64×UInt64×UInt64×UInt64×UInt64×UInt64×Bool×UInt64×UInt64×UInt64×UInt64×UInt64×UInt64×UInt64×UInt64×Bool×PUnit)×PUnit:=g0_r z0
 let z2:=z1.snd.fst
 let z3:=z2.snd
 let z4:=z3.snd
 let z5:=z4.snd
 let z6:=z5.snd
 let z7:=z6.snd
 let z8:=z7.snd
 let z9:=z8.snd
 let z10:=z9.snd
 let z11:=z10.snd
 let z12:=z11.snd
 let z13:=z12.snd
 let z14:=z13.snd
 let z15:=z14.snd
 let z16:=z15.snd
 let z17:=z16.snd
 let z18:=z17.snd
 let z19:=z18.snd
 let z20:=z19.snd
 let z21:=z20.snd
 let z22:=(g0_0 z0).snd.fst
 let z23:=z22.snd
 let z24:=z23.snd
 let z25:=z24.snd
 let z26:=z25.snd
 let z27:=z26.snd
 let z28:=z27.snd
 let z29:=z28.snd
 let z30:=z29.snd
 let z31:=z30.snd
 let z32:=z31.snd
 let z33:=z32.snd
 let z34:=z33.snd
 let z35:=z34.snd
 let z36:=z35.snd
 let z37:=z36.snd
 let z38:=z37.snd
 let z39:=z38.snd
 let z40:=z39.snd
 let z41:=z40.snd
 (gd [ok0 z0] (.br (c0_r z0)
 (.ok ⟨jz,((z1.fst.fst,()),((z2.fst,(z3.fst,(z4.fst,(z5.fst,(z6.fst,(z7.fst,(z8.fst,(z9.fst,(z10.fst,(z11.fst,(z12.fst,(z13.fst,(z14.fst,(z15.fst,(z16.fst,(z17.fst,(z18.fst,(z19.fst,(z20.fst,(z21.fst,(z21.snd.fst,()))))))))))))))))))))),()))⟩)
 (.ok ⟨jz,(((-1:Int),()),((z22.fst,(z23.fst,(z24.fst,(z25.fst,(z26.fst,(z27.fst,(z28.fst,(z29.fst,(z30.fst,(z31.fst,(z32.fst,(z33.fst,(z34.fst,(z35.fst,(z36.fst,(z37.fst,(z38.fst,(z39.fst,(z40.fst,(z41.fst,(z41.snd.fst,()))))))))))))))))))))),()))⟩)))
theorem asL (ok0:bc->Bool) (g0_r:bc->iK) (c0_r:bc->Bool) (g0_0:bc->iL) (x:vG) (Q:e5.Y->Prop):wpf te wZ (aO 0 (cg oL 0 ok0 (vF g0_r c0_r g0_0)) av) 1000 Tryz.f112 (e5.inp.inj x).tm (e5.inp.inj x).hp (fnK e5 Kd Q) (λ_ _=>False)=(Kg ok0 g0_r c0_r g0_0 (x.1.1) (x.2.1.1) (x.2.1.2.1) (x.2.1.2.2.1) (x.2.1.2.2.2.1) (x.2.1.2.2.2.2.1) (x.2.1.2.2.2.2.2.1) (x.2.1.2.2.2.2.2.2.1) (x.2.1.2.2.2.2.2.2.2.1) (x.2.1.2.2.2.2.2.2.2.2.1) (x.2.1.2.2.2.2.2.2.2.2.2.1) (x.2.1.2.2.2.2.2.2.2.2.2.2.1) (x.2.1.2.2.2.2.2.2.2.2.2.2.2.1) (x.2.1.2.2.2.2.2.2.2.2.2.2.2.2.1) (x.2.1.2.2.2.2.2.2.2.2.2.2.2.2.2.1) (x.2.1.2.2.2.2.2.2.2.2.2.2.2.2.2.2.1) (x.2.1.2.2.2.2.2.2.2.2.2.2.2.2.2.2.2.1) (x.2.1.2.2.2.2.2.2.2.2.2.2.2.2.2.2.2.2.1) (x.2.1.2.2.2.2.2.2.2.2.2.2.2.2.2.2.2.2.2.1) (x.2.1.2.2.2.2.2.2.2.2.2.2.2.2.2.2.2.2.2.2.1) (x.2.1.2.2.2.2.2.2.2.2.2.2.2.2.2.2.2.2.2.2.2.1) (x.2.1.2.2.2.2.2.2.2.2.2.2.2.2.2.2.2.2.2.2.2.2.1)).wpR Q:=by kernel_rfl
theorem XI (ok0:bc->Bool) (g0_r:bc->iK) (c0_r:bc->Bool) (g0_0:bc->iL) (h0:∀ s:bc,ok0 s=true->∃ m e,ao (oM) m s=some e/\(vF g0_r c0_r g0_0 s).run=some e) (pre:vG->Bool) (F:vG->OT e5.Y) (hF:∀ (x:vG) oy,pre x=true->(F x).run=some oy->(Kg ok0 g0_r c0_r g0_0 (x.1.1) (x.2.1.1) (x.2.1.2.1) (x.2.1.2.2.1) (x.2.1.2.2.2.1) (x.2.1.2.2.2.2.1) (x.2.1.2.2.2.2.2.1) (x.2.1.2.2.2.2.2.2.1) (x.2.1.2.2.2.2.2.2.2.1) (x.2.1.2.2.2.2.2.2.2.2.1) (x.2.1.2.2.2.2.2.2.2.2.2.1) (x.2.1.2.2.2.2.2.2.2.2.2.2.1) (x.2.1.2.2.2.2.2.2.2.2.2.2.2.1) (x.2.1.2.2.2.2.2.2.2.2.2.2.2.2.1) (x.2.1.2.2.2.2.2.2.2.2.2.2.2.2.2.1) (x.2.1.2.2.2.2.2.2.2.2.2.2.2.2.2.2.1) (x.2.1.2.2.2.2.2.2.2.2.2.2.2.2.2.2.2.1) (x.2.1.2.2.2.2.2.2.2.2.2.2.2.2.2.2.2.2.1) (x.2.1.2.2.2.2.2.2.2.2.2.2.2.2.2.2.2.2.2.1) (x.2.1.2.2.2.2.2.2.2.2.2.2.2.2.2.2.2.2.2.2.1) (x.2.1.2.2.2.2.2.2.2.2.2.2.2.2.2.2.2.2.2.2.2.1) (x.2.1.2.2.2.2.2.2.2.2.2.2.2.2.2.2.2.2.2.2.2.2.1)).run=some oy):ac Tryz.prog 112 (e5.aI pre F):=
 aD aq rE G8 (f:=112) (fn:=Tryz.f112) (c:=aj Tryz.f112) (by kernel_rfl) (by kernel_rfl) (by kernel_rfl) (S:=e5) (k:=1) (by kernel_rfl) (λR hR=>(aB (c:=(aj Tryz.f112)) (by kernel_rfl) (id:=0) (by kernel_rfl) (aQ aq rE G8 (sh:=oL) hR (xs:=P7) (aC (by kernel_rfl) (by kernel_rfl) hR) aL af (n:=1000) (T:=oM) (λs Q=>amb s Q) (ok:=ok0) (f:=vF g0_r c0_r g0_0) h0) af)) (n:=1000) (sel:=Kd) (λv o h=>by cases h;rfl) (pre:=pre) (F:=F) (T:=λx=>Kg ok0 g0_r c0_r g0_0 (x.1.1) (x.2.1.1) (x.2.1.2.1) (x.2.1.2.2.1) (x.2.1.2.2.2.1) (x.2.1.2.2.2.2.1) (x.2.1.2.2.2.2.2.1) (x.2.1.2.2.2.2.2.2.1) (x.2.1.2.2.2.2.2.2.2.1) (x.2.1.2.2.2.2.2.2.2.2.1) (x.2.1.2.2.2.2.2.2.2.2.2.1) (x.2.1.2.2.2.2.2.2.2.2.2.2.1) (x.2.1.2.2.2.2.2.2.2.2.2.2.2.1) (x.2.1.2.2.2.2.2.2.2.2.2.2.2.2.1) (x.2.1.2.2.2.2.2.2.2.2.2.2.2.2.2.1) (x.2.1.2.2.2.2.2.2.2.2.2.2.2.2.2.2.1) (x.2.1.2.2.2.2.2.2.2.2.2.2.2.2.2.2.2.1) (x.2.1.2.2.2.2.2.2.2.2.2.2.2.2.2.2.2.2.1) (x.2.1.2.2.2.2.2.2.2.2.2.2.2.2.2.2.2.2.2.1) (x.2.1.2.2.2.2.2.2.2.2.2.2.2.2.2.2.2.2.2.2.1) (x.2.1.2.2.2.2.2.2.2.2.2.2.2.2.2.2.2.2.2.2.2.1) (x.2.1.2.2.2.2.2.2.2.2.2.2.2.2.2.2.2.2.2.2.2.2.1)) (λx Q=>asL ok0 g0_r c0_r g0_0 x Q) hF
def tL (l:List Pt) (i:aCk):Nat->Nat->Int
 |0,_=> -1
 |n+1,k=>cond (MD i.1 (l.getD k ac8)) (k:Int) (tL l i n (k+1))
def Ke (s:bc):Bool:=decide (s.1.2.2.1=(s.1.1.length:Int)/\s.1.2.2.2.1=0/\s.1.1.length<=140737488355328)
def ks (l:List Pt) (i:aCk):Int:=tL l i l.length 0
def Kf (s:bc):iK:=((ks s.1.1 s.2.1,()),s.2)
def P9 (s:bc):Bool:=decide (0<=ks s.1.1 s.2.1)
def P8 (s:bc):iL:=((),s.2)
def Kh (l:List Pt) (i:aCk) (k:Int):bc:=((l,(),(l.length:Int),k,()),(i,()))
theorem QQ (l:List Pt) (i:aCk):∀ n k,tL l i n k= -1\/0<=tL l i n k
 |0,_=>.inl rfl
 |n+1,k=>by
  unfold tL
  cases MD i.1 (l.getD k ac8)
  ·exact QQ l i n (k+1)
  ·right
   show (0:Int)<=(k:Int)
   omega
theorem XK (l:List Pt) (i:aCk) (hl:l.length<=140737488355328):∀ n k:Nat,k+n=l.length->
 ∃ m,ao oM m (Kh l i (k:Int))=some (cond (decide (0<=tL l i n k)) ⟨(.ret,m6),((tL l i n k,()),(i,()))⟩ ⟨(.exit 0,m7),((),(i,()))⟩)
 |0,k,h=>⟨1,aM (OT.ar (decide_eq_false (by dsimp only [Kh];omega)))⟩
 |n+1,k,h=>by
  have hin:inB (k:Int) l.length=true:=aN (by omega)
  have hgd:∀ z:OT (Sum bc aE),(gd [inB (k:Int) l.length] z).run=z.run:=λz=>ah (by rw [hin];rfl)
  unfold tL
  rcases (Bool.eq_false_or_eq_true (MD i.1 (l.getD k ac8))).symm with hb|hb
  ·obtain ⟨m,hm⟩:=XK l i hl n (k+1) (by omega)
   rw [hb]
   refine ⟨m+1,aF ?_ hm⟩
   refine (OT.ap (decide_eq_true (by dsimp only [Kh];omega))).trans ((hgd _).trans ((OT.ar hb).trans ((ah ?_).trans rfl)))
   simp only [List.all_cons,List.all_nil,Bool.and_true]
   exact aH (by dsimp only [Kh];omega)
  ·rw [hb]
   have e:decide ((0:Int)<=cond true (k:Int) (tL l i n (k+1)))=true:=decide_eq_true (by show (0:Int)<=(k:Int);omega)
   rw [e]
   refine ⟨1,aM ?_⟩
   exact (OT.ap (decide_eq_true (by dsimp only [Kh];omega))).trans ((hgd _).trans ((OT.ap hb).trans rfl))
theorem amd:∀ s:bc,Ke s=true->∃ m e,ao oM m s=some e/\(vF Kf P9 P8 s).run=some e:=by
 rintro ⟨⟨l,⟨⟩,n,k,⟨⟩⟩,⟨i,⟨⟩⟩⟩ h
 have h':=of_decide_eq_true h
 dsimp only at h'
 obtain ⟨rfl,rfl,hl⟩:=h'
 obtain ⟨m,hm⟩:=XK l i hl l.length 0 (by omega)
 refine ⟨m,_,hm,?_⟩
 show (OT.br (decide (0<=ks l i)) _ _:OT aE).run=some (cond (decide (0<=ks l i)) _ _)
 cases decide (0<=ks l i)<;>rfl
def yE (x:vG):Bool:=decide (x.1.1.length<=140737488355328)
def XJ (x:vG):OT e5.Y:=.ok ⟨jz,((ks x.1.1 x.2.1,()),x.2)⟩
theorem amc:ac Tryz.prog 112 (e5.aI yE XJ):=XI Ke Kf P9 P8 amd _ _ λx oy hp ho=>by
 rw [<-ho]
 clear ho
 obtain ⟨⟨l,⟨⟩,⟨⟩⟩,⟨i,⟨⟩⟩⟩:=x
 have hl:l.length<=140737488355328:=of_decide_eq_true hp
 refine (ah ?_).trans ?_
 ·simp only [List.all_cons,List.all_nil,Bool.and_true]
  exact decide_eq_true ⟨rfl,rfl,hl⟩
 ·show (OT.br (decide (0<=ks l i)) (.ok ⟨jz,((ks l i,()),(i,()))⟩) (.ok ⟨jz,(((-1:Int),()),(i,()))⟩):OT e5.Y).run=some ⟨jz,((ks l i,()),(i,()))⟩
  rcases QQ l i l.length 0 with h|h
  ·have h:ks l i= -1:=h
   rw [h]
   rfl
  ·exact OT.ap (decide_eq_true h)
def s7:cj:=(e5.aI yE XJ)
theorem To:ac Tryz.prog 112 s7:=amc
theorem Tn:aG s7:=aA
def uH:Env:=ay 112 s7 wZ
theorem uG:aR Tryz.prog uH:=ag To rE
theorem xN:ax uH:=ae Tn CI
theorem Vy:aW Tryz.prog te uH:=aK follows aq uG xN
def iN:aw:=⟨[.val false (.list (.prod .elem (.prod .elem .bool))),.fn 71 [0]],[(0,aJd)],false,1,true⟩
abbrev Eu:Type:=((List ((aa×(aa×Bool))))×(Unit)×Unit)×(((Int)×(Int)×(List ((aa×(aa×Bool))))×(UInt64)×(UInt64)×(UInt64)×(UInt64)×(UInt64)×(UInt64)×(UInt64)×(UInt64)×(Bool)×(UInt64)×(UInt64)×(UInt64)×(UInt64)×(UInt64)×(UInt64)×(UInt64)×(UInt64)×(Bool)×Unit)×Unit)
def Ko:az:=⟨[.val false .bool],[(0,.cells [.val false .int,.val false .int,.val false (.list (.prod .elem (.prod .elem .bool))),.val false .u64,.val false .u64,.val false .u64,.val false .u64,.val false .u64,.val false .u64,.val false .u64,.val false .u64,.val false .bool,.val false .u64,.val false .u64,.val false .u64,.val false .u64,.val false .u64,.val false .u64,.val false .u64,.val false .u64,.val false .bool])],false⟩
def Qd:SV->Option az:=λ_=>some Ko
def Tu (a0:List ((aa×(aa×Bool)))) (c0_0:Int) (c0_1:Int) (c0_2:List ((aa×(aa×Bool)))) (c0_3:UInt64) (c0_4:UInt64) (c0_5:UInt64) (c0_6:UInt64) (c0_7:UInt64) (c0_8:UInt64) (c0_9:UInt64) (c0_10:UInt64) (c0_11:Bool) (c0_12:UInt64) (c0_13:UInt64) (c0_14:UInt64) (c0_15:UInt64) (c0_16:UInt64) (c0_17:UInt64) (c0_18:UInt64) (c0_19:UInt64) (c0_20:Bool):OT iN.Y:=
 let z0:Int×Int×List (aa×aa×Bool)×UInt64×UInt64×UInt64×UInt64×UInt64×UInt64×UInt64×UInt64×Bool×UInt64×UInt64×UInt64×UInt64×UInt64×UInt64×UInt64×UInt64×Bool×PUnit:=(c0_0,c0_1,c0_2,c0_3,c0_4,c0_5,c0_6,c0_7,c0_8,c0_9,c0_10,c0_11,c0_12,c0_13,c0_14,c0_15,c0_16,c0_17,c0_18,c0_19,c0_20,())
 (gd [yE ((a0,(),()),z0,())] (.ok ⟨Ko,((decide ((0:Int)<=ks a0 z0),()),((c0_0,(c0_1,(c0_2,(c0_3,(c0_4,(c0_5,(c0_6,(c0_7,(c0_8,(c0_9,(c0_10,(c0_11,(c0_12,(c0_13,(c0_14,(c0_15,(c0_16,(c0_17,(c0_18,(c0_19,(c0_20,()))))))))))))))))))))),()))⟩))
theorem azy (x:Eu) (Q:iN.Y->Prop):wpf te uH av 1000 Tryz.f72 (iN.inp.inj x).tm (iN.inp.inj x).hp (fnK iN Qd Q) (λ_ _=>False)=(Tu (x.1.1) (x.2.1.1) (x.2.1.2.1) (x.2.1.2.2.1) (x.2.1.2.2.2.1) (x.2.1.2.2.2.2.1) (x.2.1.2.2.2.2.2.1) (x.2.1.2.2.2.2.2.2.1) (x.2.1.2.2.2.2.2.2.2.1) (x.2.1.2.2.2.2.2.2.2.2.1) (x.2.1.2.2.2.2.2.2.2.2.2.1) (x.2.1.2.2.2.2.2.2.2.2.2.2.1) (x.2.1.2.2.2.2.2.2.2.2.2.2.2.1) (x.2.1.2.2.2.2.2.2.2.2.2.2.2.2.1) (x.2.1.2.2.2.2.2.2.2.2.2.2.2.2.2.1) (x.2.1.2.2.2.2.2.2.2.2.2.2.2.2.2.2.1) (x.2.1.2.2.2.2.2.2.2.2.2.2.2.2.2.2.2.1) (x.2.1.2.2.2.2.2.2.2.2.2.2.2.2.2.2.2.2.1) (x.2.1.2.2.2.2.2.2.2.2.2.2.2.2.2.2.2.2.2.1) (x.2.1.2.2.2.2.2.2.2.2.2.2.2.2.2.2.2.2.2.2.1) (x.2.1.2.2.2.2.2.2.2.2.2.2.2.2.2.2.2.2.2.2.2.1) (x.2.1.2.2.2.2.2.2.2.2.2.2.2.2.2.2.2.2.2.2.2.2.1)).wpR Q:=by kernel_rfl
theorem acY (pre:Eu->Bool) (F:Eu->OT iN.Y) (hF:∀ (x:Eu) oy,pre x=true->(F x).run=some oy->(Tu (x.1.1) (x.2.1.1) (x.2.1.2.1) (x.2.1.2.2.1) (x.2.1.2.2.2.1) (x.2.1.2.2.2.2.1) (x.2.1.2.2.2.2.2.1) (x.2.1.2.2.2.2.2.2.1) (x.2.1.2.2.2.2.2.2.2.1) (x.2.1.2.2.2.2.2.2.2.2.1) (x.2.1.2.2.2.2.2.2.2.2.2.1) (x.2.1.2.2.2.2.2.2.2.2.2.2.1) (x.2.1.2.2.2.2.2.2.2.2.2.2.2.1) (x.2.1.2.2.2.2.2.2.2.2.2.2.2.2.1) (x.2.1.2.2.2.2.2.2.2.2.2.2.2.2.2.1) (x.2.1.2.2.2.2.2.2.2.2.2.2.2.2.2.2.1) (x.2.1.2.2.2.2.2.2.2.2.2.2.2.2.2.2.2.1) (x.2.1.2.2.2.2.2.2.2.2.2.2.2.2.2.2.2.2.1) (x.2.1.2.2.2.2.2.2.2.2.2.2.2.2.2.2.2.2.2.1) (x.2.1.2.2.2.2.2.2.2.2.2.2.2.2.2.2.2.2.2.2.1) (x.2.1.2.2.2.2.2.2.2.2.2.2.2.2.2.2.2.2.2.2.2.1) (x.2.1.2.2.2.2.2.2.2.2.2.2.2.2.2.2.2.2.2.2.2.2.1)).run=some oy):ac Tryz.prog 72 (iN.aI pre F):=
 aD aq uG Vy (f:=72) (fn:=Tryz.f72) (c:=aj Tryz.f72) (by kernel_rfl) (by kernel_rfl) (by kernel_rfl) (S:=iN) (k:=1) (by kernel_rfl) (λR hR=>af) (n:=1000) (sel:=Qd) (λv o h=>by cases h;rfl) (pre:=pre) (F:=F) (T:=λx=>Tu (x.1.1) (x.2.1.1) (x.2.1.2.1) (x.2.1.2.2.1) (x.2.1.2.2.2.1) (x.2.1.2.2.2.2.1) (x.2.1.2.2.2.2.2.1) (x.2.1.2.2.2.2.2.2.1) (x.2.1.2.2.2.2.2.2.2.1) (x.2.1.2.2.2.2.2.2.2.2.1) (x.2.1.2.2.2.2.2.2.2.2.2.1) (x.2.1.2.2.2.2.2.2.2.2.2.2.1) (x.2.1.2.2.2.2.2.2.2.2.2.2.2.1) (x.2.1.2.2.2.2.2.2.2.2.2.2.2.2.1) (x.2.1.2.2.2.2.2.2.2.2.2.2.2.2.2.1) (x.2.1.2.2.2.2.2.2.2.2.2.2.2.2.2.2.1) (x.2.1.2.2.2.2.2.2.2.2.2.2.2.2.2.2.2.1) (x.2.1.2.2.2.2.2.2.2.2.2.2.2.2.2.2.2.2.1) (x.2.1.2.2.2.2.2.2.2.2.2.2.2.2.2.2.2.2.2.1) (x.2.1.2.2.2.2.2.2.2.2.2.2.2.2.2.2.2.2.2.2.1) (x.2.1.2.2.2.2.2.2.2.2.2.2.2.2.2.2.2.2.2.2.2.1) (x.2.1.2.2.2.2.2.2.2.2.2.2.2.2.2.2.2.2.2.2.2.2.1)) (λx Q=>azy x Q) hF
def awd (l:List Pt) (i:aCk):Bool:=decide (0<=ks l i)
def Et (x:Eu):Bool:=decide (x.1.1.length<=140737488355328)
def aiG (x:Eu):OT iN.Y:=.ok ⟨Ko,((awd x.1.1 x.2.1,()),x.2)⟩
theorem asP:ac Tryz.prog 72 (iN.aI Et aiG):=acY _ _ λx oy hp ho=>by
 rw [<-ho]
 clear ho
 refine (ah ?_).trans rfl
 simp only [List.all_cons,List.all_nil,Bool.and_true]
 exact hp
def yF:cj:=(iN.aI Et aiG)
theorem XP:ac Tryz.prog 72 yF:=asP
theorem XO:aG yF:=aA
def CO:Env:=ay 72 yF uH
theorem zz:aR Tryz.prog CO:=ag XP uG
theorem CN:ax CO:=ae XO xN
theorem aax:aW Tryz.prog te CO:=aK follows aq zz CN
def gM:aw:=⟨[.val true aIV],[],true,0,false⟩
abbrev Ex:Type:=(((Int×(Int×(List ((aa×(aa×Bool)))×((aa×(aa×Bool))×(aa×(aa×Bool)))))))×Unit)×(Unit)
def fQ:az:=⟨[.val false .int],[],false⟩
def Qf:SV->Option az:=λ_=>some fQ
def A8 (a0:(Int×(Int×(List ((aa×(aa×Bool)))×((aa×(aa×Bool))×(aa×(aa×Bool))))))):OT gM.Y:=
 let z0:Int×Int×List (aa×aa×Bool)×UInt64×UInt64×UInt64×UInt64×UInt64×UInt64×UInt64×UInt64×Bool×UInt64×UInt64×UInt64×UInt64×UInt64×UInt64×UInt64×UInt64×Bool×PUnit:=(a0.fst,a0.snd.fst,a0.snd.snd.fst,a0.snd.snd.snd.fst.fst.w0,a0.snd.snd.snd.fst.fst.w1,a0.snd.snd.snd.fst.fst.w2,a0.snd.snd.snd.fst.fst.w3,a0.snd.snd.snd.fst.snd.fst.w0,a0.snd.snd.snd.fst.snd.fst.w1,a0.snd.snd.snd.fst.snd.fst.w2,a0.snd.snd.snd.fst.snd.fst.w3,a0.snd.snd.snd.fst.snd.snd,a0.snd.snd.snd.snd.fst.w0,a0.snd.snd.snd.snd.fst.w1,a0.snd.snd.snd.snd.fst.w2,a0.snd.snd.snd.snd.fst.w3,a0.snd.snd.snd.snd.snd.fst.w0,a0.snd.snd.snd.snd.snd.fst.w1,a0.snd.snd.snd.snd.snd.fst.w2,a0.snd.snd.snd.snd.snd.fst.w3,a0.snd.snd.snd.snd.snd.snd,())
 (.br (al a0.fst)
 (.br (decide (a0.snd.fst<(0:Int)))
  (.ok ⟨fQ,(((60:Int),()),())⟩)
  (.br (decide ((5:Int)<a0.snd.fst))
   (.ok ⟨fQ,(((60:Int),()),())⟩)
   (gd [decide ((0:Int)<=a0.snd.fst)] (.br (!(↑(List.length a0.snd.snd.fst):Int)==T5 (1:Int) a0.snd.fst)
    (.ok ⟨fQ,(((90:Int),()),())⟩)
    (gd [Et ((a0.snd.snd.fst,(),()),z0,())] (.br (awd a0.snd.snd.fst z0)
     (.ok ⟨fQ,(((90:Int),()),())⟩)
     (.br (MD a0.fst a0.snd.snd.snd.fst)
      (.ok ⟨fQ,(((90:Int),()),())⟩)
      (.br (MD a0.fst a0.snd.snd.snd.snd)
       (.ok ⟨fQ,(((90:Int),()),())⟩)
       (.ok ⟨fQ,(((0:Int),()),())⟩)))))))))
 (.ok ⟨fQ,(((40:Int),()),())⟩))
theorem azD (x:Ex) (Q:gM.Y->Prop):wpf te CO av 1000 Tryz.f35 (gM.inp.inj x).tm (gM.inp.inj x).hp (fnK gM Qf Q) (λ_ _=>False)=(A8 (x.1.1)).wpR Q:=by kernel_rfl
theorem ac1 (pre:Ex->Bool) (F:Ex->OT gM.Y) (hF:∀ (x:Ex) oy,pre x=true->(F x).run=some oy->(A8 (x.1.1)).run=some oy):ac Tryz.prog 35 (gM.aI pre F):=
 aD aq zz aax (f:=35) (fn:=Tryz.f35) (c:=aj Tryz.f35) (by kernel_rfl) (by kernel_rfl) (by kernel_rfl) (S:=gM) (k:=0) (by kernel_rfl) (λR hR=>af) (n:=1000) (sel:=Qf) (λv o h=>by cases h;rfl) (pre:=pre) (F:=F) (T:=λx=>A8 (x.1.1)) (λx Q=>azD x Q) hF
abbrev aGG:Type:=Int×(Int×(List Pt×(Pt×Pt)))
theorem akH (l:List Pt) (i:aCk):∀ n k:Nat,k+n=l.length->decide (0<=tL l i n k)=(l.drop k).any (MD i.1)
 |0,k,h=>by
  rw [List.drop_eq_nil_of_le (by omega)]
  rfl
 |n+1,k,h=>by
  have hk:k<l.length:=by omega
  have e1:l.drop k=l[k]::l.drop (k+1):=List.drop_eq_getElem_cons hk
  have e3:l.getD k ac8=l[k]:=by rw [List.getD_eq_getElem?_getD,List.getElem?_eq_getElem hk];rfl
  rw [e1,List.any_cons]
  unfold tL
  rw [e3]
  cases MD i.1 l[k]
  ·rw [cond_false,Bool.false_or]
   exact akH l i n (k+1) (by omega)
  ·rw [cond_true,Bool.true_or]
   exact decide_eq_true (by omega)
theorem aGC (l:List Pt) (i:aCk):awd l i=l.any (MD i.1):=akH l i l.length 0 (by omega)
def ue (p:aGG):Int:=cond (al p.1) (cond (decide (p.2.1<0)) 60 (cond (decide (5<p.2.1)) 60 (cond (!((p.2.2.1.length:Int)==T5 1 p.2.1)) 90 (cond (p.2.2.1.any (MD p.1)) 90 (cond (MD p.1 p.2.2.2.1) 90 (cond (MD p.1 p.2.2.2.2) 90 0)))))) 40
def vM (x:Ex):Bool:=decide (x.1.1.2.2.1.length<=140737488355328)
def aiH (x:Ex):OT gM.Y:=.ok ⟨fQ,((ue x.1.1,()),())⟩
theorem asV:ac Tryz.prog 35 (gM.aI vM aiH):=ac1 _ _ λx oy hp ho=>by
 rw [<-ho]
 clear ho
 obtain ⟨⟨p,⟨⟩⟩,⟨⟩⟩:=x
 show (A8 p).run=some (⟨fQ,((ue p,()),())⟩:gM.Y)
 have hp:decide (p.2.2.1.length<=140737488355328)=true:=hp
 unfold A8 ue
 simp only [aGC]
 rcases (Bool.eq_false_or_eq_true (al p.1)).symm with h1|h1
 ·rw [h1];exact (OT.ar rfl).trans rfl
 ·rw [h1]
  refine (OT.ap rfl).trans ?_
  by_cases h2:p.2.1<0
  ·rw [decide_eq_true h2];exact (OT.ap rfl).trans rfl
  ·rw [decide_eq_false h2]
   refine (OT.ar rfl).trans ?_
   by_cases h3:5<p.2.1
   ·rw [decide_eq_true h3];exact (OT.ap rfl).trans rfl
   ·rw [decide_eq_false h3]
    refine (OT.ar rfl).trans ((ah (by rw [decide_eq_true (show 0<=p.2.1 by omega)];rfl)).trans ?_)
    rcases (Bool.eq_false_or_eq_true (!((p.2.2.1.length:Int)==T5 1 p.2.1))).symm with h4|h4
    ·rw [h4]
     refine (OT.ar rfl).trans ((ah ?_).trans ?_)
     ·simp only [List.all_cons,List.all_nil,Bool.and_true]
      exact hp
     ·rcases (Bool.eq_false_or_eq_true (p.2.2.1.any (MD p.1))).symm with h5|h5
      ·rw [h5]
       refine (OT.ar rfl).trans ?_
       rcases (Bool.eq_false_or_eq_true (MD p.1 p.2.2.2.1)).symm with h6|h6
       ·rw [h6]
        refine (OT.ar rfl).trans ?_
        rcases (Bool.eq_false_or_eq_true (MD p.1 p.2.2.2.2)).symm with h7|h7
        ·rw [h7];exact (OT.ar rfl).trans rfl
        ·rw [h7];exact (OT.ap rfl).trans rfl
       ·rw [h6];exact (OT.ap rfl).trans rfl
      ·rw [h5];exact (OT.ap rfl).trans rfl
    ·rw [h4];exact (OT.ap rfl).trans rfl
def yI:cj:=(gM.aI vM aiH)
theorem XT:ac Tryz.prog 35 yI:=asV
theorem XS:aG yI:=aA
def CQ:Env:=ay 35 yI CO
theorem zC:aR Tryz.prog CQ:=ag XT zz
theorem CP:ax CQ:=ae XS CN
theorem aay:aW Tryz.prog te CQ:=aK follows aq zC CP
def lU:aw:=⟨[.val false (.list (.prod .elem (.prod .elem .bool)))],[],true,0,false⟩
abbrev Qc:Type:=((List ((aa×(aa×Bool))))×Unit)×(Unit)
def Tt:az:=⟨[.own 0],[(0,.row (.prod .elem (.prod .elem .bool)))],false⟩
def XN:SV->Option az:=λ_=>some Tt
def acX (a0:List ((aa×(aa×Bool)))):OT lU.Y:=
 (gd [decide ((0+List.length a0)*72<=140737488355328)] (.ok ⟨Tt,(((),()),([]++a0,()))⟩))
theorem aER (x:Qc) (Q:lU.Y->Prop):wpf te CQ av 1000 Tryz.f46 (lU.inp.inj x).tm (lU.inp.inj x).hp (fnK lU XN Q) (λ_ _=>False)=(acX (x.1.1)).wpR Q:=by kernel_rfl
theorem amm (pre:Qc->Bool) (F:Qc->OT lU.Y) (hF:∀ (x:Qc) oy,pre x=true->(F x).run=some oy->(acX (x.1.1)).run=some oy):ac Tryz.prog 46 (lU.aI pre F):=
 aD aq zC aay (f:=46) (fn:=Tryz.f46) (c:=aj Tryz.f46) (by kernel_rfl) (by kernel_rfl) (by kernel_rfl) (S:=lU) (k:=0) (by kernel_rfl) (λR hR=>af) (n:=1000) (sel:=XN) (λv o h=>by cases h;rfl) (pre:=pre) (F:=F) (T:=λx=>acX (x.1.1)) (λx Q=>aER x Q) hF
def Kn (x:Qc):Bool:=decide (x.1.1.length*72<=140737488355328)
def asO (x:Qc):OT lU.Y:=.ok ⟨Tt,(((),()),(x.1.1,()))⟩
theorem azx:ac Tryz.prog 46 (lU.aI Kn asO):=amm _ _ λx oy hp ho=>by
 rw [<-ho]
 have hp':x.1.1.length*72<=140737488355328:=of_decide_eq_true hp
 refine (ah ?_).trans rfl
 simp only [List.all_cons,List.all_nil,Bool.and_true,Bool.and_eq_true]
 exact decide_eq_true (by omega)
def Es:cj:=(lU.aI Kn asO)
theorem acW:ac Tryz.prog 46 Es:=azx
theorem acV:aG Es:=aA
def FR:Env:=ay 46 Es CQ
theorem xa:aR Tryz.prog FR:=ag acW zC
theorem G9:ax FR:=ae acV CP
theorem Nb:aW Tryz.prog te FR:=aK follows aq xa G9
end Go.Proofs.YtohjofabochgfaaGreat
