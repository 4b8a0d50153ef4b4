/- A symbolic machine for Go code over plain data, and functions of the program as it shows them. No statement is proved in this file. -/
import Derived.Lib.SliceRun
import Derived.Lib.ConvBytes
import Derived.Lib.SlBytesConst
import Derived.ProofKit
import Derived.Below
import Derived.OpenShut
import Derived.SizedLaws
import Derived.Test.YtohjofabochgfaaGreatXa
set_option linter.unusedSimpArgs false
set_option linter.unusedVariables false
set_option linter.unusedSectionVars false

namespace Go.Proofs.YtohjofabochgfaaGreat
namespace Sx
open Go
section
variable {P:Program} {R:Ctx} {w:World}
theorem sG {arr e:TypeId} {n:Nat} (a:Option Addr) (len cap:Nat) (h:P.underlying arr=some (.array n e)) (hn:n<=len):(Instr.arrayAt arr (.slice a len cap)).run P w=.ok (.pointer a) w:=by
 have h1:¬len<n:=by omega
 simp only [Instr.arrayAt,Sem.run_bind,run_underlying h,Result.andThen_ok,if_neg h1,Sem.run_pure]
theorem Px {te:TE} (hte:mZ P te) {T:TypeId} {x z:SV} {v:Value} (h:(xA te R.hp T x).run=some z) (hx:SV.rel R x v):kL P R w (Instr.arrayAt T v) z:=by
 unfold xA at h
 split at h
 ·rename_i sz by' n e ze ty hT
  obtain ⟨d,h1,h2⟩:=(hte T _ hT).desc
  simp only at h2
  subst h2
  split at h
  ·cases h
  ·rename_i ei hei
   split at h
   ·cases h
   ·rename_i hn0
    split at h
    ·rename_i c ep
     split at h
     ·rename_i hrs
      split at h
      ·rename_i m hm'
       obtain ⟨hg,h'⟩:=OT.aJ h
       cases h'
       have hnm:=of_decide_eq_true hg
       simp only [SV.rel] at hx
       obtain ⟨bb,hcc,hb1,hb2⟩:=dB hrs
       obtain ⟨bb',hcc',_,hb4⟩:=dm hm'
       rw [hcc] at hcc'
       cases Option.some.inj hcc'
       have hp:=Ctx.dl hcc hx.2
       rw [hb4] at hp
       obtain ⟨_,_,ad,cap,rfl,h4,h5⟩:=Ctx.di hcc hp
       refine ⟨_,sG ad m cap h1 hnm,?_⟩
       cases hσ:R.σ c with
       |none=>rw [hσ] at h5;simp only at h5;omega
       |some L=>
        rw [hσ] at h5
        have:=h5.2 (by omega)
        subst this
        simp only [SV.rel]
        refine ⟨⟨_,rfl⟩,_,hcc,Nat.le_refl _,λ_=>⟨L,hσ,?_⟩⟩
        simp
      ·cases h
     ·cases h
    ·rename_i c ep off len
     split at h
     ·rename_i hrs
      obtain ⟨hg,h'⟩:=OT.aJ h
      cases h'
      have hnm:=of_decide_eq_true hg
      simp only [SV.rel] at hx
      obtain ⟨bb,hcc,hb1,hb2⟩:=dB hrs
      obtain ⟨_,_,ad,cap,rfl,h4,h5⟩:=Ctx.di hcc hx.2
      refine ⟨_,sG ad len cap h1 hnm,?_⟩
      cases hσ:R.σ c with
      |none=>rw [hσ] at h5;simp only at h5;omega
      |some L=>
       rw [hσ] at h5
       have:=h5.2 (by omega)
       subst this
       simp only [SV.rel]
       exact ⟨⟨_,rfl⟩,_,hcc,Nat.le_refl _,λ_=>⟨L,hσ,by simp⟩⟩
     ·cases h
    ·rename_i t xs
     split at h
     ·rename_i hts
      obtain ⟨hg,h'⟩:=OT.aJ h
      cases h'
      have hnm:=of_decide_eq_true hg
      simp only [SV.rel] at hx
      obtain ⟨_,ad,cap,hv,hc,hr⟩:=hx
      cases hv
      refine ⟨_,sG ad xs.length cap h1 hnm,?_⟩
      rcases hr with hr|⟨b,o,arr,E,fz,rfl,hF,hs,hr⟩
      ·rw [hr] at hnm;simp at hnm;omega
      ·simp only [SV.rel]
       exact ⟨λe=>by rw [e] at hnm;simp at hnm;omega,by omega,b,o,arr,E,fz,rfl,hF,hs,hr⟩
     ·cases h
    ·cases h
 ·cases h
def Ctx.more (R:Ctx) (w w':World):Ctx:= {R with F:=λb=>if b<w.heap.size then R.F b else w'.heap[b]?}
theorem aGn (hm:dt R w) {w₁:World} (kN:∀ b,b<w.heap.size->w₁.heap[b]? =w.heap[b]?) (hs:aga w w₁:=by exact ⟨rfl,rfl,rfl⟩):fy R (R.more w w₁) w₁ []:=by
 have hFlt:∀ b o,R.F b=some o->b<w.heap.size:=λb o h=>(Array.getElem?_eq_some_iff.1 (hm.F b o h)).1
 have hx2:R.Ext (R.more w w₁):=⟨λb o h=>by simp [Ctx.more,hFlt b o h,h],rfl,λc ch hc=>⟨ch,hc,Nat.le_refl _,λ_=>⟨rfl,rfl⟩⟩⟩
 refine ⟨hx2,rfl,λb o h=> ?_,λb o h=> ?_,λc ch hc=> ?_,hm.apart,λb o h=> ?_,hm.env.trans hs⟩
 rotate_right
 ·simp only [Ctx.more] at h⊢
  split at h
  ·exact hm.FU b o h
  ·cases hU:R.U b with
   |none=>rfl
   |some o'=>exact absurd (Array.getElem?_eq_some_iff.1 (hm.U b o' hU)).1 (by assumption)
 ·simp only [Ctx.more] at h
  split at h
  ·rename_i hb
   rw [kN b hb];exact hm.F b o h
  ·exact h
 ·have:=hm.U b o h
  rw [kN b (Array.getElem?_eq_some_iff.1 this).1,this]
 ·have hch:=hm.ch c ch hc
  obtain ⟨ep,body⟩:=ch
  cases body with
  |row t xs=>
   simp only [eV] at hch⊢
   refine ⟨hch.1,hch.2.1,?_⟩
   replace hch:=hch.2.2
   show match R.σ c with|none=>_|some L=>_
   cases hL:R.σ c with
   |none=>rw [hL] at hch;exact hch
   |some L=>
    rw [hL] at hch
    obtain ⟨c1,c2,arr,E,c3,c4,c5,c6⟩:=hch
    have hb:=(Array.getElem?_eq_some_iff.1 c3).1
    refine ⟨by simp only [Ctx.more,hb,if_true];exact c1,c2,arr,E,(kN _ hb).trans c3,c4,c5,λi hi=>cn hx2.F _ _ _ (c6 i hi)⟩
  |frz t xs=>
   simp only [eV] at hch⊢
   refine ⟨hch.1,hch.2.1,?_⟩
   replace hch:=hch.2.2
   show match R.σ c with|none=>_|some L=>_
   cases hL:R.σ c with
   |none=>rw [hL] at hch;exact hch
   |some L=>
    rw [hL] at hch
    obtain ⟨arr,E,fz,c3,c4,c5,c6⟩:=hch
    exact ⟨arr,E,fz,hx2.F _ _ c3,c4,c5,λi hi=>cn hx2.F _ _ _ (c6 i hi)⟩
  |cells vs=>
   simp only [eV] at hch⊢
   obtain ⟨L,hL,c1,c2,arr,E,c3,c4,c5,c6,c7⟩:=hch
   have hb:=(Array.getElem?_eq_some_iff.1 c3).1
   exact ⟨L,hL,by simp only [Ctx.more,hb,if_true];exact c1,c2,arr,E,(kN _ hb).trans c3,c4,c5,SV.dN hx2 _ _ c6,c7⟩
theorem VS (hm:dt R w) {te:TE} (hte:mZ P te) {src dst:TypeId} {x:SV} {v:Value} {s:List UInt8} (h:bytesOf te src dst x=some s) (hx:SV.rel R x v):
 ∃ u w' R',(convert src dst v).run P w=.ok u w'/\fy R R' w' []/\SV.rel R' (.lst .u8 s) u:=by
 unfold bytesOf at h
 split at h
 ·rename_i sz by' e ze ty hT
  obtain ⟨d,h1,h2⟩:=(hte dst _ hT).desc
  simp only at h2
  subst h2
  split at h
  ·rename_i sz2 by2 ze2 ty2 hE
   obtain ⟨d2,g1,g2⟩:=(hte e _ hE).desc
   simp only at g2
   subst g2
   split at h
   ·rename_i s'
    split at h
    ·rename_i hs
     cases h
     obtain ⟨ti,hti⟩:=Option.isSome_iff_exists.1 hs
     obtain ⟨d3,k1,_⟩:=(hte src ti hti).desc
     simp only [SV.rel] at hx
     obtain ⟨rfl,hl⟩:=hx
     have hrun:=Lib.run_convert_string_bytes (P:=P) w src dst e ⟨s.toArray⟩ k1 h1 g1
     have kN:∀ b,b<w.heap.size->(Lib.bytesWorld w e ⟨s.toArray⟩).heap[b]? =w.heap[b]? :=λb hb=>Lib.bytesWorld_at_old w e _ b hb
     refine ⟨_,_,R.more w (Lib.bytesWorld w e ⟨s.toArray⟩),hrun,aGn hm kN,?_⟩
     have hsz:(⟨s.toArray⟩:ByteArray).size=s.length:=by simp [ByteArray.size]
     simp only [SV.rel]
     refine ⟨hl,some ⟨w.heap.size,0,none⟩,_,by rw [hsz],?_,?_⟩
     ·have:=grownCap_ge w (⟨s.toArray⟩:ByteArray).size 0 e
      rw [hsz] at this
      exact this
     ·by_cases he:s= []
      ·exact .inl he
      ·right
       refine ⟨w.heap.size,0,Lib.bytesCells w e ⟨s.toArray⟩,e,((Lib.bytesCells w e ⟨s.toArray⟩).size,(Lib.bytesCells w e ⟨s.toArray⟩).size+1),rfl,?_,?_,λi hi=> ?_⟩
       ·simp only [Ctx.more,Nat.lt_irrefl,if_false]
        exact Lib.bytesWorld_at_new w e _
       ·simp [Lib.bytesCells,Ty.size]
       ·have hc:(Lib.bytesCells w e ⟨s.toArray⟩).toList=(s.map vu8)++List.replicate (grownCap w (⟨s.toArray⟩:ByteArray).size 0 e-(⟨s.toArray⟩:ByteArray).size) (.int .u8 0):=by
         simp [Lib.bytesCells,vu8]
        rw [hc]
        simp only [Ty.size,Nat.mul_one,Nat.zero_add]
        have hseg:seg ((s.map vu8)++List.replicate (grownCap w (⟨s.toArray⟩:ByteArray).size 0 e-(⟨s.toArray⟩:ByteArray).size) (.int .u8 0)) i 1= [vu8 (s.getD i 0)]:=by
         simp only [seg]
         rw [List.drop_append_of_le_length (by simp;omega),List.drop_eq_getElem_cons (by simpa using hi)]
         simp [List.getD_eq_getElem?_getD,hi]
        rw [hseg]
        rfl
    ·cases h
   ·cases h
  ·cases h
 ·cases h
def Ctx.n8 (R:Ctx) (c:Nat) (ch:Ch) (b:Nat) (o:Obj):Ctx:=
 ⟨λb'=>if b'=b then some o else R.F b',R.U,λc'=>if c'=c then none else R.σ c',λc'=>if c'=c then some ch else R.hp c'⟩
theorem aka (hm:dt R w) {c e:Nat} {t:Ty} {xs:List t.T} {L:Loc} {w₁:World} {o:Obj} (hc:R.hp c=some ⟨e,.row t xs⟩) (hσ:R.σ c=some L)
 (kN:∀ b,b≠L.block->w₁.heap[b]? =w.heap[b]?) (hb:w₁.heap[L.block]? =some o) (hs:aga w w₁):fy R (R.n8 c ⟨e+1,.row .u8 []⟩ L.block o) w₁ [(c,⟨e+1,.row .u8 []⟩)]:=by
 have h0:=hm.ch c _ hc
 simp only [eV,hσ] at h0
 obtain ⟨_,_,hF,hU,_⟩:=h0
 have hx:R.Ext (R.n8 c ⟨e+1,.row .u8 []⟩ L.block o):=⟨λb o' h=>by
  have:b≠L.block:=λe'=>by rw [e',hF] at h;cases h
  simp only [Ctx.n8,if_neg this,h],rfl,λc' ch' hc'=>by
  by_cases h1:c'=c
  ·subst h1
   rw [hc] at hc'
   cases hc'
   exact ⟨⟨e+1,.row .u8 []⟩,by simp only [Ctx.n8,if_true],Nat.le_succ e,λe'=>absurd e' (by simp)⟩
  ·exact ⟨ch',by simp only [Ctx.n8,if_neg h1,hc'],Nat.le_refl _,λ_=>⟨rfl,by simp only [Ctx.n8,if_neg h1]⟩⟩⟩
 refine ⟨hx,rfl,λb o' h=> ?_,λb o' h=> ?_,λc' ch' hc'=> ?_,λc1 c2 ch1 ch2 L1 L2 g1 g2 g3 g4 g5 g6 g7=> ?_,λb o' h=> ?_,hm.env.trans hs⟩
 ·simp only [Ctx.n8] at h
  split at h
  ·rename_i h1
   subst h1
   rw [hb];exact h
  ·rename_i h1
   rw [kN b h1];exact hm.F b o' h
 ·have h1:b≠L.block:=λe'=>by
   have h':R.U b=some o':=h
   rw [e',hU] at h';cases h'
  rw [kN b h1];exact hm.U b o' h
 ·by_cases h1:c'=c
  ·subst h1
   simp only [Ctx.n8,if_true] at hc'
   cases hc'
   simp only [eV,Ctx.n8,if_true]
   exact ⟨by decide,by simp,trivial⟩
  ·simp only [Ctx.n8,if_neg h1] at hc'
   have hch:=hm.ch c' ch' hc'
   have hs:(R.n8 c ⟨e+1,.row .u8 []⟩ L.block o).σ c'=R.σ c':=by simp only [Ctx.n8,if_neg h1]
   have hblk:∀ L',R.σ c'=some L'->ch'.body.mut=true->L'.block≠L.block:=λL' h2 h3 h4=>h1 (hm.apart c' c _ _ _ _ hc' hc h3 rfl h2 hσ h4)
   have hFn:∀ b,b≠L.block->R.F b=none->(R.n8 c ⟨e+1,.row .u8 []⟩ L.block o).F b=none:=λb h2 h3=>by simp only [Ctx.n8,if_neg h2,h3]
   obtain ⟨ep,body⟩:=ch'
   cases body with
   |row t ys=>
    simp only [eV] at hch⊢
    rw [hs]
    refine ⟨hch.1,hch.2.1,?_⟩
    replace hch:=hch.2.2
    cases hL:R.σ c' with
    |none=>rw [hL] at hch;exact hch
    |some L'=>
     rw [hL] at hch
     obtain ⟨c1,c2,arr,E,c3,c4,c5,c6⟩:=hch
     have hne:=hblk L' hL rfl
     exact ⟨hFn _ hne c1,c2,arr,E,(kN _ hne).trans c3,c4,c5,λi hi=>cn hx.F _ _ _ (c6 i hi)⟩
   |frz t ys=>
    simp only [eV] at hch⊢
    rw [hs]
    refine ⟨hch.1,hch.2.1,?_⟩
    replace hch:=hch.2.2
    cases hL:R.σ c' with
    |none=>rw [hL] at hch;exact hch
    |some L'=>
     rw [hL] at hch
     obtain ⟨arr,E,fz,c3,c4,c5,c6⟩:=hch
     exact ⟨arr,E,fz,hx.F _ _ c3,c4,c5,λi hi=>cn hx.F _ _ _ (c6 i hi)⟩
   |cells vs=>
    simp only [eV] at hch⊢
    obtain ⟨L',hL,c1,c2,arr,E,c3,c4,c5,c6,c7⟩:=hch
    have hne:=hblk L' hL rfl
    exact ⟨L',by rw [hs];exact hL,hFn _ hne c1,c2,arr,E,(kN _ hne).trans c3,c4,c5,SV.dN hx _ _ c6,c7⟩
 ·by_cases h1:c1=c
  ·subst h1
   simp only [Ctx.n8,if_true] at g5
   cases g5
  ·by_cases h2:c2=c
   ·subst h2
    simp only [Ctx.n8,if_true] at g6
    cases g6
   ·simp only [Ctx.n8,if_neg h1] at g1 g5
    simp only [Ctx.n8,if_neg h2] at g2 g6
    exact hm.apart _ _ _ _ _ _ g1 g2 g3 g4 g5 g6 g7
 ·simp only [Ctx.n8] at h
  split at h
  ·rename_i h1
   subst h1
   exact hU
  ·exact hm.FU b o' h
theorem uK {te:TE} {hp:Hp} {src dst:TypeId} {x:SV} {c e:Nat} {s:List UInt8} (h:gJ te hp src dst x=some (c,e,s)):
 src=dst/\(∃ sz by' E ze ty sz2 by2 ze2 ty2,te dst=some ⟨sz,by',.slice E,ze,ty⟩/\te E=some ⟨sz2,by2,.int .u8,ze2,ty2⟩)/\x=.own c e/\eh hp c e=some (.row .u8 s)/\s≠ []:=by
 unfold gJ at h
 split at h
 ·rename_i hs
  split at h
  ·rename_i h1
   split at h
   ·rename_i h2
    split at h
    ·split at h
     ·rename_i h3
      cases h
      exact ⟨Nat.eq_of_beq_eq_true hs,⟨_,_,_,_,_,_,_,_,_,h1,h2⟩,rfl,h3,by simp⟩
     ·cases h
    ·cases h
   ·cases h
  ·cases h
 ·cases h
theorem Is (hm:dt R w) {te:TE} (hte:mZ P te) {src dst:TypeId} {x:SV} {v:Value} {c e:Nat} {s:List UInt8} (h:gJ te R.hp src dst x=some (c,e,s)) (hx:SV.rel R x v):
 Nu P R w (convert src dst v) ⟨.lst .u8 s,[(c,⟨e+1,.row .u8 []⟩)]⟩:=by
 obtain ⟨rfl,⟨sz,by',E,ze,ty,sz2,by2,ze2,ty2,hT,hE⟩,rfl,hc,hs⟩:=uK h
 obtain ⟨d,h1,h2⟩:=(hte src _ hT).desc
 simp only at h2
 subst h2
 obtain ⟨d2,g1,g2⟩:=(hte E _ hE).desc
 simp only at g2
 subst g2
 have hc:=cH hc
 simp only [SV.rel] at hx
 have hp:=Ctx.dl hc hx.2
 obtain ⟨_,_,ad,cap,rfl,h4,h5⟩:=Ctx.di hc hp
 have hlen:0<s.length:=List.length_pos_iff.2 hs
 cases hσ:R.σ c with
 |none=>
  rw [hσ] at h5
  simp only [Chunk.shape] at h4 h5
  omega
 |some L=>
  rw [hσ] at h5
  simp only [Chunk.shape,Ty.size] at h4 h5
  have hcap:0<cap:=by omega
  have had:=h5.2 hcap
  subst had
  have h0:=hm.ch c _ hc
  simp only [eV,hσ] at h0
  obtain ⟨_,hl,hF,hU,arr,E',k1,k2,k3,k4⟩:=h0
  have hsh:w.shape? L.block=some (E',arr.size):=by unfold World.shape?;rw [k1]
  have hfr:(w.freeze ⟨L.block,arr.size,none⟩ 1).heap=w.heap.modify L.block fun
   |.cells c elem (lo,hi)=>.cells c elem (if lo==hi then (arr.size,arr.size+1) else (min lo arr.size,max hi (arr.size+1)))
   |o=>o:=rfl
  have hlt:=(Array.getElem?_eq_some_iff.1 k1).1
  have hb:(w.freeze ⟨L.block,arr.size,none⟩ 1).heap[L.block]? =some (.cells arr E' (arr.size,arr.size+1)):=by
   rw [hfr,Array.getElem?_modify,if_pos rfl,k1]
   rfl
  have kN:∀ b,b≠L.block->(w.freeze ⟨L.block,arr.size,none⟩ 1).heap[b]? =w.heap[b]? :=λb hb=>by
   rw [hfr,Array.getElem?_modify,if_neg (λe=>hb e.symm)]
  have hlk:aga w (w.freeze ⟨L.block,arr.size,none⟩ 1):=⟨rfl,rfl,rfl⟩
  refine ⟨.slice (some ⟨L.block,L.base+0*1,none⟩) s.length cap,w.freeze ⟨L.block,arr.size,none⟩ 1,R.n8 c ⟨e+1,.row .u8 []⟩ L.block _,?_,aka hm hc hσ kN hb hlk,?_⟩
  ·simp [convert,run_underlying h1,run_underlying g1,markStringish,hsh,Chunk.shape]
  ·simp only [SV.rel,Rep]
   refine ⟨hl,_,cap,rfl,h4,.inr ⟨L.block,L.base,arr,E',(arr.size,arr.size+1),by simp,by simp only [Ctx.n8,if_true],by omega,λi hi=> ?_⟩⟩
   have hr:=k4 i hi
   simp only [Ty.size] at hr⊢
   exact cn (aka hm hc hσ kN hb hlk).ext.F _ _ _ hr
theorem UD {te:TE} (hte:mZ P te) {T:TypeId} {x z:SV} {v y:Value} (h:(aeb te T x).run=some z) (hx:SV.rel R x v) (hy:∃ n c,y=.slice none n c):
 (∃ q l k,v=.slice q l k)/\∃ u,(binOp .eql T v y).run P w=.ok u w/\SV.rel R z u:=by
 unfold aeb at h
 split at h
 ·rename_i sz by' e ze ty hT
  obtain ⟨d,h1,h2⟩:=(hte T _ hT).desc
  simp only at h2
  subst h2
  obtain ⟨n,c,rfl⟩:=hy
  split at h
  ·rename_i t xs
   simp only [SV.rel] at hx
   obtain ⟨_,ad,cap,hv,_,hr⟩:=hx
   cases hv
   refine ⟨⟨_,_,_,rfl⟩,?_⟩
   have hrun:=Lib.run_eql_slice_nil (P:=P) w T e ad xs.length cap n c h1
   refine ⟨_,hrun,?_⟩
   cases hb:xs.isEmpty
   ·rw [hb] at h
    cases h
    simp only [SV.rel]
    rcases hr with rfl|⟨b,o,arr,E,fz,rfl,_⟩
    ·cases hb
    ·rfl
   ·rw [hb] at h
    cases h
    simp only [SV.rel]
    exact ⟨_,rfl⟩
  ·cases h
   simp only [SV.rel] at hx
   obtain ⟨ad,rfl⟩:=hx
   refine ⟨⟨_,_,_,rfl⟩,_,Lib.run_eql_slice_nil w T e ad 0 0 n c h1,?_⟩
   simp only [SV.rel]
   exact ⟨_,rfl⟩
  ·cases h
 ·cases h
end
end Sx
end Go.Proofs.YtohjofabochgfaaGreat

namespace Go.Proofs.YtohjofabochgfaaGreat
namespace Sx
open Go
def xX (R:Ctx):Out->Ending->World->Prop
 |.ret e,en,w'=>∃ v R',en=.returned v/\fy R R' w' e.upd/\SV.rel R' e.v v
 |.pan sv u,en,w'=>∃ v R',en=.panicked [{v,recovered:=false}]/\fy R R' w' u/\SV.rel R' sv v
def aJT (P:Program) (f:FuncId) (vs:Array Value) (w:World) (Q:Ending->World->Prop):Prop:=
 (∃ fn,P.funcs[f]? =some fn/\(fn.name== "runtime.NumGoroutine")=false/\fn.body.isNone=false/\Calls P f vs w Q)\/
 ∃ v w',(callFunc f vs).run P w=.ok (.value v) w'/\Q (.returned v) w'
structure ac (P:Program) (f:FuncId) (s:cj):Prop where
 calls:∀ (R:Ctx) (w:World) (d:Nat) (args:List SV) (vs:List Value) (out:Out),dt R w->SV.bV R args vs->(s.f d args R.hp).run=some out->aJT P f vs.toArray w (xX R out)
def aQ (P:Program) (Φ:Env):Prop:=∀ f s,Φ f=some s->ac P f s
section
variable {P:Program} {R:Ctx} {w:World}
theorem Zz {x:SV} {i:Int} {v:Value} (h:idxOf x=some i) (hx:SV.rel R x v):∃ kd,v=.int kd i:=by
 unfold idxOf at h
 split at h
 ·cases h
  simp only [SV.rel] at hx
  exact ⟨_,hx.1⟩
 ·cases h
  simp only [SV.rel] at hx
  exact ⟨_,hx⟩
 ·cases h
  simp only [SV.rel] at hx
  exact ⟨_,hx⟩
 ·cases h
theorem Rl:∀ {ms:List (String×FuncId)} {name:String} {f:FuncId},aj2 ms name=some f->(name,f) ∈ ms
 | [],_,_,h=>by cases h
 |(n,g)::r,name,f,h=>by
  simp only [aj2] at h
  cases hb:n==name
  ·rw [hb] at h
   exact List.mem_cons_of_mem _ (Rl h)
  ·rw [hb] at h
   cases h
   have:n=name:=by simpa using hb
   subst this
   exact List.mem_cons_self ..
theorem anX {te:TE} (hte:mZ P te) {t:TypeId} {name:String} {f:FuncId} (h:auF te t name=some f) (y:Value) (n:Nat) (hn:n=P.types.size+Made.depth):(method n t y name).run P w=.ok (f,y) w:=by
 unfold auF at h
 split at h
 ·rename_i sz by' ms ze ty hT
  obtain ⟨d,hu,hd⟩:=(hte t _ hT).desc
  obtain ⟨⟨e,rfl⟩,hm⟩:=hd
  obtain ⟨i,m,h1,h2,h3,h4⟩:=hm _ (Rl h)
  subst hn
  have hfuel:P.types.size+Made.depth=(P.types.size+Made.depth-1)+1:=by
   have:0<Made.depth:=by decide
   omega
  rw [hfuel]
  simp [method,typeInfo,h1,h2,h3,h4,follow,receiverAt,run_underlying hu,Place.get]
 ·cases h
theorem xd {st:St} {a:Act} (h:yr R st a w) (x:Operand):SV.rel R (st.eval x) (a.eval x):=by
 cases x with
 |tmp t=>
  simp only [St.eval,Act.eval]
  have hl:=SV.aV h.tm
  simp only [Array.length_toList] at hl
  by_cases ht:t<st.tm.length
  ·have ht':t<a.tmps.size:=by simpa [hl] using ht
   have:=SV.m8 h.tm t ht (by simpa using ht')
   simpa [List.getD_eq_getElem?_getD,List.getElem?_eq_getElem ht,Array.getD,ht'] using this
  ·simp [List.getD_eq_getElem?_getD,List.getElem?_eq_none (Nat.le_of_not_lt ht),SV.rel]
 |const v=>
  simp only [St.eval,Act.eval,aF7]
  split
  ·rename_i cs
   split
   ·rename_i h1
    simp only [SV.rel]
    exact ⟨cs.toList,by simp,yX _,λu hu=>List.all_eq_true.1 h1 u hu⟩
   ·simp only [SV.rel]
  ·exact P3 _
 |global g=>simp [St.eval,SV.rel]
 |func f=>
  simp [St.eval,Act.eval,SV.rel,SV.bV]
theorem UX {α β:Type} (f:α->β) (xs:Array α):Array.map f xs=(xs.toList.map f).toArray:=by
 apply Array.ext'
 simp
theorem To {st:St} {a:Act} (h:yr R st a w):∀ (l:List Operand),SV.bV R (l.map st.eval) (l.map a.eval)
 | []=>vH
 |x::l=>by
  simp only [List.map_cons,SV.bV]
  exact ⟨_,_,rfl,xd h x,To h l⟩
theorem Y5 {st:St} {a:Act} (h:yr R st a w) (ps:Array (Nat×Operand)):Wm R (ps.toList.map λp=>(p.1,st.eval p.2)) (ps.map λ(i,x)=>(i,a.eval x)).toList:=by
 refine ⟨by simp,λi hi hi'=> ?_⟩
 simp only [List.getElem_map,Array.toList_map,true_and]
 exact xd h _
theorem bJ {x:OT SV} {o:Out} (h:(iP x).run=some o):∃ z,x.run=some z/\o=.ret ⟨z,[]⟩:=by
 obtain ⟨z,h1,h2⟩:=OT.run_map h
 exact ⟨z,h1,h2⟩
theorem rA {x:OT Eff} {o:Out} (h:(eff x).run=some o):∃ e,x.run=some e/\o=.ret e:=by
 obtain ⟨z,h1,h2⟩:=OT.run_map h
 exact ⟨z,h1,h2⟩
def axl (R:Ctx) (a:Act) (dst:Option Tmp) (out:Out) (next:Act->World->Prop) (Q:Exit->Act->World->Prop):Prop:=
 match out with
 |.ret e=>∀ R' w' v,fy R R' w' e.upd->SV.rel R' e.v v->next (a.put dst v) w'
 |.pan sv u=>∀ R' w' v,fy R R' w' u->SV.rel R' sv v->Q (.panic [{v,recovered:=false}]) a w'
theorem ec {o:Oper} {a:Act} {z:SV} {next:Act->World->Prop} {Q:Exit->Act->World->Prop} {s:Sem Value} (hm:dt R w) (hs:execOp a.eval o=do pure (.value (<-s))) (h:kL P R w s z)
 (hn:axl R a o.dst (.ret ⟨z,[]⟩) next Q):o.wp P a w next Q:=by
 obtain ⟨v,h1,h2⟩:=h
 unfold Oper.wp
 rw [hs]
 simp only [Sem.run_bind,h1,Result.andThen_ok,Sem.run_pure]
 exact hn R w v (fy.nothing hm) h2
theorem m4 {o:Oper} {a:Act} {e:Eff} {next:Act->World->Prop} {Q:Exit->Act->World->Prop} {s:Sem Value} (hs:execOp a.eval o=do pure (.value (<-s))) (h:Nu P R w s e)
 (hn:axl R a o.dst (.ret e) next Q):o.wp P a w next Q:=by
 obtain ⟨v,w',R',h1,h2,h3⟩:=h
 unfold Oper.wp
 rw [hs]
 simp only [Sem.run_bind,h1,Result.andThen_ok,Sem.run_pure]
 exact hn R' w' v h2 h3
theorem B9 (hm:dt R w) {te:TE} (hte:mZ P te) {T:TypeId} {ti:TI} (hT:te T=some ti) {x:SV} {v:Value} {cs:List SV} (hx:SV.rel R x v) (h:(Sx.loadCells R.hp ti.size x).run=some cs):
 ∃ ad,v=.pointer (some ad)/\kL P R w (loadVar T ad) (sr ti.desc.agg cs):=by
 have ht:=hte T ti hT
 obtain ⟨b,o,arr,E,fz,rfl,hb,hsz,hr,hone⟩:=LO hm hx h
 refine ⟨_,rfl,?_⟩
 cases ha:ti.desc.agg
 ·have h1:=ht.one ha
  rw [h1] at hsz hr
  refine ⟨arr[o],?_,auD hsz hr⟩
  simp only [loadVar,Sem.run_bind,ht.JF w,ha,Result.andThen_ok,Bool.false_eq_true,if_false]
  exact Xl hb hsz
 ·refine ⟨_,?_,B5 hr hone⟩
  simp only [loadVar,Sem.run_bind,ht.JF w,ha,Result.andThen_ok,if_true,ht.cu w,GV hb hsz,Sem.run_pure]
theorem O3 (hm:dt R w) {te:TE} (hte:mZ P te) {T:TypeId} {ti:TI} (hT:te T=some ti) {x y:SV} {v u:Value} {l:List SV} {up:List (Nat×Ch)} (hx:SV.rel R x v) (hy:SV.rel R y u) (hl:y.cells=some l)
 (hsz:l.length=ti.size) (h:(Sx.storeCells R.hp l x).run=some up):∃ ad w' R',v=.pointer (some ad)/\(storeVar T ad u).run P w=.ok () w'/\fy R R' w' up:=by
 have ht:=hte T ti hT
 obtain ⟨vs,h1,h2,h3⟩:=JS hy hl
 have hlen:=SV.aV h2
 obtain ⟨ad,w',R',rfl,h4,h5⟩:=Ij (P:=P) hm hx h2 h
 refine ⟨ad,w',R',rfl,?_,h5⟩
 simp only [storeVar,Sem.run_bind,ht.cu w,Result.andThen_ok,h1,Sem.run_ite,List.size_toArray]
 rw [if_neg (by omega)]
 exact h4
theorem RR {te:TE} {Φ:Env} (hte:mZ P te) (hΦ:aQ P Φ) {st:St} {a:Act} {o:Oper} {d:Nat} {out:Out} (hst:yr R st a w) (h:(Iq te Φ st.hp d st.eval o.op).run=some out)
 {next:Act->World->Prop} {Q:Exit->Act->World->Prop} (hn:axl R a o.dst out next Q):o.wp P a w next Q:=by
 have hm:=hst.mem
 have ev:=xd hst
 rw [<-hst.hp] at h
 obtain ⟨dst,op,type,pos,after,guard⟩:=o
 simp only at h hn
 cases op<;>simp only [Iq] at h<;>try (cases h;done)
 case move x=>
  obtain ⟨z,h1,rfl⟩:=bJ h
  cases h1
  exact hn R w _ (fy.nothing hm) (ev x)
 case assign x=>
  obtain ⟨z,h1,rfl⟩:=bJ h
  cases h1
  exact hn R w _ (fy.nothing hm) (ev x)
 case pick c x y=>
  split at h
  ·rename_i b hb
   obtain ⟨z,h1,rfl⟩:=bJ h
   have hc:=ev c
   rw [hb] at hc
   simp only [SV.rel] at hc
   have hrun:(execOp a.eval (Oper.mk dst (.pick c x y) type pos after guard)).run P w=.ok (.value (if b then a.eval x else a.eval y)) w:=by
    simp [execOp,hc,asBool]
   unfold Oper.wp
   rw [hrun]
   cases b
   ·cases h1;exact hn R w _ (fy.nothing hm) (ev y)
   ·cases h1;exact hn R w _ (fy.nothing hm) (ev x)
  ·cases h
 case alloc T=>
  split at h
  ·rename_i ti hT
   obtain ⟨e,h1,rfl⟩:=rA h
   have ht:=hte T ti hT
   obtain ⟨i,z,z1,z2,z3,z4,z5,z6,z7⟩:=ht.vx (R:=R)
   obtain ⟨ad,w',R',r1,r2,r3⟩:=Hd (P:=P) hm (v:=z) (vs:=z.cells.toList) (by simp) z5 z7 (by have:=ht.small;simp [z6,cW];omega) h1
   refine m4 rfl ⟨_,w',R',?_,r2,r3⟩ hn
   simp only [Instr.alloc,Sem.run_bind,zeroValue,typeInfo,run_program,Result.andThen_ok,z1,z4,Sem.run_pure,r1]
  ·cases h
 case box T x=>
  split at h
  ·rename_i l hl
   obtain ⟨e,h1,rfl⟩:=rA h
   obtain ⟨vs,v1,v2,v3⟩:=JS (ev x) hl
   have hlen:=SV.aV v2
   have hsz:l.length<=16777216:=by
    unfold Sx.newVar at h1
    split at h1
    ·cases h1
    ·rename_i ti hT
     split at h1
     ·cases h1
     ·rename_i hh
      have:=(hte T ti hT).small
      have hh:l.length=ti.size:=by simpa using hh
      omega
   obtain ⟨ad,w',R',r1,r2,r3⟩:=Hd (P:=P) hm (v:=a.eval x) (vs:=vs) v1 v2 v3 (by unfold cW;omega) h1
   refine m4 rfl ⟨_,w',R',?_,r2,r3⟩ hn
   simp only [Instr.box,Sem.run_bind,Sem.run_pure,Result.andThen_ok,r1]
  ·cases h
 case build T ps=>
  obtain ⟨z,h1,rfl⟩:=bJ h
  exact ec hm rfl (afE hte h1 (Y5 hst ps)) hn
 case buildSlice T len ps=>
  obtain ⟨e,h1,rfl⟩:=rA h
  exact m4 rfl (Iu hm hte h1 (Y5 hst ps)) hn
 case load T x=>
  split at h
  ·rename_i ti hT
   obtain ⟨z,h1,rfl⟩:=bJ h
   obtain ⟨cs,h2,rfl⟩:=OT.run_map h1
   obtain ⟨ad,hv,hg⟩:=B9 (P:=P) hm hte hT (ev x) h2
   refine ec hm rfl ?_ hn
   obtain ⟨v,g1,g2⟩:=hg
   refine ⟨v,?_,g2⟩
   simp only [Instr.loadAt,hv,Instr.sureAddr,Sem.run_bind,Sem.run_pure,Result.andThen_ok,g1]
  ·cases h
 case store T x y=>
  split at h
  ·rename_i ti hT
   split at h
   ·rename_i l hl
    split at h
    ·rename_i hsz
     obtain ⟨u,h1,rfl⟩:=OT.run_map h
     obtain ⟨ad,w',R',hv,g1,g2⟩:=O3 (P:=P) hm hte hT (ev x) (ev y) hl hsz h1
     have hrun:(execOp a.eval (Oper.mk dst (.store T x y) type pos after guard)).run P w=.ok .skip w':=by
      simp only [execOp,Instr.storeAt,hv,Instr.sureAddr,Sem.run_bind,Sem.run_pure,Result.andThen_ok,g1]
     unfold Oper.wp
     rw [hrun]
     exact hn R' w' _ g2 (by simp only [SV.rel])
    ·cases h
   ·cases h
  ·cases h
 case nilCheck x=>
  have hx:=ev x
  have hrun:∀ ad,a.eval x=.pointer (some ad)->(execOp a.eval (Oper.mk dst (.nilCheck x) type pos after guard)).run P w=.ok (.value (a.eval x)) w:=λad hv=>by
   simp [execOp,hv]
  split at h
  ·rename_i c e i off hs
   obtain ⟨z,h1,rfl⟩:=bJ h
   cases h1
   rw [hs] at hx
   have hx':=hx
   simp only [SV.rel] at hx
   obtain ⟨⟨ad,hv⟩,_⟩:=hx
   unfold Oper.wp
   rw [hrun ad hv]
   exact hn R w _ (fy.nothing hm) hx'
  ·rename_i t xs i off hs
   obtain ⟨z,h1,rfl⟩:=bJ h
   cases h1
   rw [hs] at hx
   have hx':=hx
   simp only [SV.rel] at hx
   obtain ⟨_,b,o,arr,E,fz,hv,_⟩:=hx
   unfold Oper.wp
   rw [hrun _ hv]
   exact hn R w _ (fy.nothing hm) hx'
  ·rename_i t y hs
   obtain ⟨z,h1,rfl⟩:=bJ h
   cases h1
   rw [hs] at hx
   have hx':=hx
   simp only [SV.rel] at hx
   obtain ⟨y',hv,_⟩:=hx
   have hrun2:(execOp a.eval (Oper.mk dst (.nilCheck x) type pos after guard)).run P w=.ok (.value (a.eval x)) w:=by simp [execOp,hv]
   unfold Oper.wp
   rw [hrun2]
   exact hn R w _ (fy.nothing hm) hx'
  ·cases h
 case binOp op T x y T2=>
  split at h
  ·rename_i hy
   obtain ⟨z,h1,rfl⟩:=bJ h
   have hy':∃ n c,a.eval y=.slice none n c:=by
    unfold Rs at hy
    split at hy
    ·exact ⟨_,_,rfl⟩
    ·cases hy
   obtain ⟨n,c,hyv⟩:=hy'
   obtain ⟨⟨q,l,k,hxv⟩,u,hu1,hu2⟩:=UD (P:=P) (w:=w) hte h1 (ev x) ⟨n,c,hyv⟩
   exact ec hm rfl ⟨u,fO (X:=x) (Y:=y) (by rw [hxv,hyv];simp [eqGuard]) hu1,hu2⟩ hn
  ·obtain ⟨z,h1,rfl⟩:=bJ h
   exact ec hm rfl (aba hte h1 (ev x) (ev y)) hn
 case sliceToArrayPointer T x=>
  obtain ⟨z,h1,rfl⟩:=bJ h
  exact ec hm rfl (Px hte h1 (ev x)) hn
 case unOp op T x=>
  obtain ⟨z,h1,rfl⟩:=bJ h
  exact ec hm rfl (alZ h1 (ev x)) hn
 case convert src dst' x=>
  split at h
  ·rename_i s hs
   obtain ⟨z,h1,rfl⟩:=bJ h
   cases h1
   obtain ⟨u,w',R',r1,r2,r3⟩:=VS (P:=P) hm hte hs (ev x)
   exact m4 rfl ⟨u,w',R',r1,r2,r3⟩ hn
  ·split at h
   ·rename_i hs
    obtain ⟨z,h1,rfl⟩:=rA h
    cases h1
    exact m4 rfl (Is (P:=P) hm hte hs (ev x)) hn
   ·obtain ⟨z,h1,rfl⟩:=bJ h
    exact ec hm rfl (VF hte h1 (ev x)) hn
 case makeInterface T x=>
  split at h
  ·rename_i ti hT
   obtain ⟨ds,hu,hd⟩:=(hte T ti hT).desc
   have hmk:∀ y:Value,(Instr.makeInterface T y).run P w=.ok (.iface T y) w\/(match ti.desc with|.iface=>True|.other=>True|_=>False):=λy=>by
    unfold Instr.makeInterface
    simp only [Sem.run_bind,run_underlying hu,Result.andThen_ok]
    cases hk:ti.desc<;>rw [hk] at hd<;>simp only at hd<;>first
     |(exact .inr trivial;done)
     |(left;obtain ⟨_,rfl,_⟩:=hd;rfl)
     |(left;obtain ⟨⟨_,rfl⟩,_⟩:=hd;rfl)
     |(left;subst hd;rfl)
   have hq:¬(match ti.desc with|.iface=>True|.other=>True|_=>False):=λhq=>by
    cases hk:ti.desc<;>rw [hk] at hq h<;>first|exact hq|(simp only at h;cases h)
   have h2:(iP (.ok (.iface T (st.eval x)))).run=some out:=by
    cases hk:ti.desc<;>rw [hk] at h hq<;>first|exact h|(exact absurd trivial hq)
   obtain ⟨z,h1,rfl⟩:=bJ h2
   cases h1
   refine ec hm rfl ⟨.iface T (a.eval x),(hmk _).resolve_right hq,?_⟩ hn
   simp only [SV.rel]
   exact ⟨_,rfl,ev x⟩
  ·cases h
 case makeFunc f first caps=>
  obtain ⟨z,h1,rfl⟩:=bJ h
  cases h1
  refine ec hm rfl ⟨_,rfl,?_⟩ hn
  simp only [SV.rel]
  exact ⟨first.toList.map a.eval,caps.toList.map a.eval,by rw [UX,UX],To hst _,To hst _⟩
 case makeSlice T l c=>
  split at h
  ·rename_i l' c' hl hc
   obtain ⟨e,h1,rfl⟩:=rA h
   have e1:=ev l
   have e2:=ev c
   rw [hl] at e1
   rw [hc] at e2
   simp only [SV.rel] at e1 e2
   have:=LI (P:=P) hm hte h1
   rw [<-e1.1,<-e2.1] at this
   exact m4 rfl this hn
  ·cases h
 case slice T x lo hi mx=>
  obtain ⟨z,h1,rfl⟩:=bJ h
  have some_rel:∀ (q:Option Operand) (y:SV),q.map st.eval=some y->∃ v,q.map a.eval=some v/\SV.rel R y v:=λq y hy=>by
   cases q with
   |none=>cases hy
   |some u=>cases hy;exact ⟨_,rfl,ev u⟩
  have none_rel:∀ (q:Option Operand),q.map st.eval=none->q.map a.eval=none:=λq hq=>by
   cases q with
   |none=>rfl
   |some u=>cases hq
  exact ec hm rfl (S6 hm hte h1 (ev x) (some_rel lo) (none_rel lo) (some_rel hi) (none_rel hi) (some_rel mx) (none_rel mx)) hn
 case fieldAddr S x f=>
  split at h
  ·rename_i fs _ _ hS
   split at h
   ·rename_i o fi hf
    split at h
    ·cases h
    ·rename_i h0
     obtain ⟨z,h1,rfl⟩:=bJ h
     exact ec hm rfl (Mt hte hS rfl hf h0 h1 (ev x)) hn
   ·cases h
  ·cases h
 case field S x f=>
  split at h
  ·rename_i fs _ _ l hS hl
   split at h
   ·rename_i o fi hf
    split at h
    ·rename_i hle
     obtain ⟨z,h1,rfl⟩:=bJ h
     cases h1
     have hx:=ev x
     rw [hl] at hx
     exact ec hm rfl (ae1 hte hS rfl hf hle hx) hn
    ·cases h
   ·cases h
  ·cases h
 case indexAddr T x k=>
  split at h
  ·rename_i i hk
   obtain ⟨z,h1,rfl⟩:=bJ h
   obtain ⟨kd,e1⟩:=Zz hk (ev k)
   have:=LW (P:=P) (w:=w) (kd:=kd) hte h1 (ev x)
   rw [<-e1] at this
   exact ec hm rfl this hn
  ·cases h
 case index T x k=>
  split at h
  ·rename_i i hk
   obtain ⟨z,h1,rfl⟩:=bJ h
   obtain ⟨kd,e1⟩:=Zz hk (ev k)
   have:=Po (P:=P) (w:=w) (kd:=kd) hte h1 (ev x)
   rw [<-e1] at this
   exact ec hm rfl this hn
  ·cases h
 case extract t i=>
  split at h
  ·rename_i l hl
   split at h
   ·rename_i v hv
    obtain ⟨z,h1,rfl⟩:=bJ h
    cases h1
    have hx:=ev t
    rw [hl] at hx
    simp only [SV.rel] at hx
    obtain ⟨vs,he,hr⟩:=hx
    have hlen:=SV.aV hr
    obtain ⟨hi,hvi⟩:=List.getElem?_eq_some_iff.1 hv
    refine ec hm rfl ⟨vs[i]'(by omega),?_,?_⟩ hn
    ·simp [Instr.extract,he,show i<vs.length by omega]
    ·rw [<-hvi];exact SV.m8 hr i hi (by omega)
   ·cases h
  ·cases h
 case call c=>
  obtain ⟨callee,args,argTypes⟩:=c
  simp only at h
  have hargs:=To hst args.toList
  have go:∀ (f':FuncId) (s:cj) (us:List SV) (l:List Value),Φ f'=some s->SV.bV R us l->(s.f d us R.hp).run=some out->
   (∀ r,(execOp a.eval (Oper.mk dst (.call {callee:=callee,args,argTypes}) type pos after guard)).run P w=r ↔ (callFunc f' l.toArray).run P w=r)->(Oper.mk dst (.call {callee:=callee,args,argTypes}) type pos after guard).wp P a w next Q:=by
   intro f' s us l hs hr hout hexec
   have hc:=(hΦ _ _ hs).calls R w d us l out hm hr hout
   rcases hc with ⟨fn,f1,f2,f3,hc⟩|⟨v,w',hv,hp⟩
   ·have hrun:(callFunc f' l.toArray).run P w=.ok (.enter f' l.toArray) w:=by
     have f2':¬fn.name= "runtime.NumGoroutine" :=by simpa using f2
     have f3':¬fn.body=none:=λe=>by rw [e] at f3;simp at f3
     simp [callFunc,f1,f2',f3']
    unfold Oper.wp
    rw [(hexec _).2 hrun,Oper.upon_enter]
    refine hc.mono λen w' hp=> ?_
    cases out with
    |ret e=>
     obtain ⟨v,R',rfl,p1,p2⟩:=hp
     exact hn R' w' v p1 p2
    |pan sv u=>
     obtain ⟨v,R',rfl,p1,p2⟩:=hp
     exact hn R' w' v p1 p2
   ·unfold Oper.wp
    rw [(hexec _).2 hv]
    cases out with
    |ret e=>
     obtain ⟨v',R',he,p1,p2⟩:=hp
     cases he
     exact hn R' w' v p1 p2
    |pan sv u=>
     obtain ⟨v',R',he,p1,p2⟩:=hp
     cases he
  split at h
  ·rename_i f
   unfold awt at h
   split at h
   ·rename_i f' first caps hf
    split at h
    ·rename_i s hs
     have hx:=ev f
     rw [hf] at hx
     simp only [SV.rel] at hx
     obtain ⟨l1,l2,he,r1,r2⟩:=hx
     refine go f' s _ (l1++args.toList.map a.eval++l2) hs (SV.cq (SV.cq r1 hargs) r2) h λr=> ?_
     have:(execOp a.eval (Oper.mk dst (.call {callee:=.value f,args,argTypes}) type pos after guard)).run P w=(callFunc f' (l1++args.toList.map a.eval++l2).toArray).run P w:=by
      simp [execOp,resolve,he,Deferred.ofValue,invoke,UX]
     rw [this]
    ·cases h
   ·cases h
  ·rename_i recv name
   unfold VR at h
   split at h
   ·rename_i t v hv
    split at h
    ·rename_i f' hf
     split at h
     ·rename_i s hs
      have hx:=ev recv
      rw [hv] at hx
      simp only [SV.rel] at hx
      obtain ⟨y,he,hy⟩:=hx
      refine go f' s (v::args.toList.map st.eval) (y::args.toList.map a.eval) hs (by simp only [SV.bV];exact ⟨_,_,rfl,hy,hargs⟩) h λr=> ?_
      have hmeth:=anX (P:=P) (w:=w) hte hf y _ rfl
      have:(execOp a.eval (Oper.mk dst (.call {callee:=.invoke recv name,args,argTypes}) type pos after guard)).run P w=(callFunc f' (y::args.toList.map a.eval).toArray).run P w:=by
       have e1:(Array.map a.eval args)=(args.toList.map a.eval).toArray:=UX _ _
       have e2:(#[Value.iface t y]++(args.toList.map a.eval).toArray)[0]? =some (.iface t y):=by simp
       have e3:(#[Value.iface t y]++(args.toList.map a.eval).toArray).extract 1 (#[Value.iface t y]++(args.toList.map a.eval).toArray).size=(args.toList.map a.eval).toArray:=by
        apply Array.ext'
        simp only [Array.toList_extract,Array.toList_append,List.extract_eq_take_drop]
        simp
        exact List.take_of_length_le (by simp)
       have e4: #[y]++(args.toList.map a.eval).toArray=(y::args.toList.map a.eval).toArray:=by simp
       simp only [execOp,resolve,he,e1,Sem.run_bind,Sem.run_pure,Result.andThen_ok,invoke,e2,e3,callMethod,run_program,hmeth,e4]
      rw [this]
     ·cases h
    ·cases h
   ·cases h
  ·split at h
   ·rename_i x T Ts hax hat
    obtain ⟨z,h1,rfl⟩:=bJ h
    have ha:args= #[x]:=by apply Array.ext';simpa using hax
    have hat':argTypes=(T::Ts).toArray:=by apply Array.ext';simpa using hat
    subst ha
    have:=aeC (P:=P) (Tr:=type) (Ts:=Ts) hm hte h1 (ev x)
    rw [<-hat'] at this
    refine ec hm ?_ this hn
    simp [execOp,resolve,invoke,builtin]
   ·cases h
  ·split at h
   ·rename_i s x T T' hax hat
    split at h
    ·rename_i hsl
     obtain ⟨e,h1,rfl⟩:=rA h
     have ha:args= #[s,x]:=by apply Array.ext';simpa using hax
     have hat':argTypes= #[T,T']:=by apply Array.ext';simpa using hat
     subst ha
     subst hat'
     have:=Pz (P:=P) (Tr:=type) hm hte hsl h1 (ev s) (ev x)
     refine m4 ?_ this hn
     simp [execOp,resolve,invoke,builtin]
    ·cases h
   ·cases h
  ·split at h
   ·rename_i s x T T' hax hat
    obtain ⟨e,h1,rfl⟩:=rA h
    have ha:args= #[s,x]:=by apply Array.ext';simpa using hax
    have hat':argTypes= #[T,T']:=by apply Array.ext';simpa using hat
    subst ha
    subst hat'
    have:=aav (P:=P) (Tr:=type) (T':=T') hm hte h1 (ev s) (ev x)
    refine m4 ?_ this hn
    simp [execOp,resolve,invoke,builtin]
   ·cases h
  ·split at h
   ·rename_i x y hax
    split at h
    ·rename_i p q hp hq
     obtain ⟨z,h1,rfl⟩:=bJ h
     cases h1
     have ha:args= #[x,y]:=by apply Array.ext';simpa using hax
     subst ha
     have e1:=ev x
     have e2:=ev y
     rw [hp] at e1
     rw [hq] at e2
     simp only [SV.rel] at e1 e2
     refine ec (s:=Builtin.max_ argTypes type #[a.eval x,a.eval y]) hm ?_ ?_ hn
     ·simp [execOp,resolve,invoke,builtin]
     ·refine cP ?_ ?_
      ·simp [Builtin.max_,e1.1,e2.1,Builtin.max2]
      ·split
       ·exact e2.2
       ·exact e1.2
    ·cases h
   ·cases h
  ·cases h
end
end Sx
end Go.Proofs.YtohjofabochgfaaGreat

namespace Go.Proofs.YtohjofabochgfaaGreat
namespace Sx
open Go
section
variable {P:Program} {te:TE} {Φ:Env}
structure SR (R₀:Ctx) (K:SE->St->Prop) (Q:Exit->Act->World->Prop):Prop where
 normal:∀ R st a w,R₀.Ext R->yr R st a w->K .normal st->Q .normal a w
 ret:∀ R st a w,R₀.Ext R->yr R st a w->K .ret st->Q .ret a w
 exit:∀ R st a w id,R₀.Ext R->yr R st a w->K (.exit id) st->Q (.exit id) a w
 pan:∀ R st a w sv v,R₀.Ext R->yr R st a w->SV.rel R sv v->K (.pan sv) st->Q (.panic [{v,recovered:=false}]) a w
theorem yr.put {R R':Ctx} {st:St} {a:Act} {w w':World} {e:Eff} {v:Value} (h:yr R st a w) (ha:fy R R' w' e.upd) (hv:SV.rel R' e.v v) (dst:Option Tmp):yr R' (st.put dst e) (a.put dst v) w':=by
 refine ⟨?_,ha.mem,?_,?_⟩
 ·rw [ha.hp,h.hp];rfl
 ·have:=SV.dN ha.ext _ _ h.tm
  cases dst with
  |none=>exact this
  |some d=>
   simp only [St.put,E4,Act.put,Array.toList_setIfInBounds]
   exact SV.ai6 this d hv
 ·cases dst<;>exact h.defers
theorem yr.undef {R:Ctx} {st:St} {a:Act} {w:World} (h:yr R st a w) (dst:Option Tmp):yr R (st.put dst ⟨.undef,[]⟩) (a.put dst Go.undef) w:=
 h.put (fy.nothing h.mem) (by simp only [SV.rel]) dst
theorem yr.aIe {R R':Ctx} {st:St} {a:Act} {w w':World} {u:List (Nat×Ch)} (h:yr R st a w) (ha:fy R R' w' u):yr R' ⟨st.tm,eu st.hp u⟩ a w':=
 ⟨by rw [ha.hp,h.hp],ha.mem,SV.dN ha.ext _ _ h.tm,h.defers⟩
theorem yn {R:Ctx} {st:St} {a:Act} {w:World} (h:yr R st a w) {ops:Array Oper} {o:Oper} {b:Bool} (hg:guarded ops.toList st.tm o=some b):Region.wanted o (yielded ops a.tmps)=b:=by
 unfold guarded at hg
 unfold Region.wanted
 split at hg
 ·rename_i hn
  rw [hn]
  exact Option.some.inj hg
 ·rename_i j want hj
  rw [hj]
  simp only
  split at hg
  ·rename_i d hd
   have hd':(ops[j]?).bind (·.dst)=some d:=by simpa using hd
   have hl:=SV.aV h.tm
   simp only [Array.length_toList] at hl
   have get:st.tm.getD d .bT≠ .bT->∃ hlt:d<a.tmps.size,SV.rel R (st.tm.getD d .bT) a.tmps[d]:=λhne=>by
    by_cases ht:d<st.tm.length
    ·have ht':d<a.tmps.size:=Nat.lt_of_lt_of_eq ht hl.symm
     refine ⟨ht',?_⟩
     have:=SV.m8 h.tm d ht (by simpa using ht')
     simpa [List.getD_eq_getElem?_getD,List.getElem?_eq_getElem ht] using this
    ·exact absurd (by simp [List.getD_eq_getElem?_getD,List.getElem?_eq_none (Nat.le_of_not_lt ht)]) hne
   split at hg
   ·rename_i q hq
    obtain ⟨hlt,hr⟩:=get (by rw [hq];exact λe=>by cases e)
    rw [hq] at hr
    simp only [SV.rel] at hr
    have hy:yielded ops a.tmps j=some q:=by
     unfold yielded
     rw [hd']
     simp [hlt,hr]
    rw [hy,<-Option.some.inj hg]
    rfl
   ·rename_i hq
    obtain ⟨hlt,hr⟩:=get (by rw [hq];exact λe=>by cases e)
    rw [hq] at hr
    simp only [SV.rel] at hr
    have hy:yielded ops a.tmps j=none:=by
     unfold yielded
     rw [hd']
     simp [hlt,hr,Go.undef]
    rw [hy,<-Option.some.inj hg]
    rfl
   ·cases hg
  ·cases hg
theorem qt (hte:mZ P te) (hΦ:aQ P Φ) {R₀:Ctx} {ops:Array Oper} {K:SE->St->Prop} {Q:Exit->Act->World->Prop} (hK:SR R₀ K Q):
 ∀ (l:List Oper) (R:Ctx) (st:St) (a:Act) (w:World),R₀.Ext R->yr R st a w->kr te Φ ops.toList K l st->wpList P ops Q l a w
 | [],R,st,a,w,hx,hst,h=>hK.normal R st a w hx hst h
 |o::r,R,st,a,w,hx,hst,h=>by
  simp only [kr] at h
  split at h
  ·exact h.elim
  ·rename_i b hb
   have hw:=yn hst hb
   simp only [wpList,hw]
   cases b
   ·simp only [Bool.false_eq_true,if_false]
    exact qt hte hΦ hK r R _ _ w hx (hst.undef o.dst) h
   ·simp only [if_true]
    refine .inl ?_
    obtain ⟨out,h1,h2⟩:=OT.agJ h
    refine RR hte hΦ hst h1 ?_
    cases out with
    |ret e=>exact λR' w' v ha hv=>qt hte hΦ hK r R' _ _ w' (hx.trans ha.ext) (hst.put ha hv o.dst) h2
    |pan sv u=>exact λR' w' v ha hv=>hK.pan R' _ a w' sv v (hx.trans ha.ext) (hst.aIe ha) hv h2
def WK (P:Program) (R₀:Ctx) (b:Code) (l:St->(SE->St->Prop)->Prop):Prop:=
 ∀ (R:Ctx) (st:St) (a:Act) (w:World) (K:SE->St->Prop) (Q:Exit->Act->World->Prop),R₀.Ext R->yr R st a w->l st K->SR R₀ K Q->b.wp P Q a w
def blocks:Code->List (Nat×Code)
 |.seq a b=>blocks a++blocks b
 |.cond _ a b=>blocks a++blocks b
 |.block id c=>(id,c)::blocks c
 |.loop c=>blocks c
 |.scope c=>blocks c
 |_=> []
def yd (P:Program) (R₀:Ctx) (Λ:Lam) (c:Code):Prop:=∀ p ∈ blocks c,∀ l,Λ p.1=some l->WK P R₀ (.block p.1 p.2) l
def aW (P:Program) (te:TE) (Φ:Env):Prop:=∀ (R₀:Ctx) (id:Nat) (ops:Array Oper) (K:SE->St->Prop) (Q:Exit->Act->World->Prop) (R:Ctx) (st:St) (a:Act) (w:World),SR R₀ K Q->R₀.Ext R->yr R st a w->
 gq Φ ops (sn ops)=true->gm te Φ ops.toList (sn ops) (an4 te Φ ops (sn ops) st) K st 0 ops.toList []->(Code.region id ops true).wp P Q a w
theorem axA {Λ:Lam} {n:Nat} {c:Code} {st:St} {K:SE->St->Prop}:wps te Φ Λ (n+1) c st K=(match c with
 |.skip=>K .normal st
 |.region _ ops draw=>cond draw (cond (gq Φ ops (sn ops)) (gm te Φ ops.toList (sn ops) (an4 te Φ ops (sn ops) st) K st 0 ops.toList []) False) (kr te Φ ops.toList K ops.toList st)
 |.seq a b=>wps te Φ Λ n a st λe st'=>match e with
  |.normal=>wps te Φ Λ n b st' K
  |e=>K e st'
 |.cond c a b=>match st.eval c with
  |.bool t=>cond t (wps te Φ Λ n a st K) (wps te Φ Λ n b st K)
  |.aCq=>(wps te Φ Λ n a st K)/\(wps te Φ Λ n b st K)
  |_=>False
 |.block id body=>match Λ id with
  |some l=>l st K
  |none=>wps te Φ Λ n body st λe st'=>match e with
   |.exit j=>cond (j==id) (K .normal st') (K (.exit j) st')
   |e=>K e st'
 |.loop body=>wps te Φ Λ n body st λe st'=>match e with
  |.normal=>wps te Φ Λ n (.loop body) st' K
  |e=>K e st'
 |.exit id=>K (.exit id) st
 |.ret=>K .ret st
 |_=>False):=by
 cases c<;>try rfl
 case region id ops draw=>
  simp only
  rw [<-wO,<-ae9]
  rfl
 case block id body=>
  simp only
  have:∀ (e:SE) (st':St),(match e with
   |.exit j=>ifB (Nat.beq j id) (K .normal st') (K (.exit j) st')
   |e=>K e st')=(match e with
   |.exit j=>cond (j==id) (K .normal st') (K (.exit j) st')
   |e=>K e st'):=λe st'=>by
   cases e<;>try rfl
   rename_i j
   have hb:Nat.beq j id=(j==id):=by
    rw [Bool.eq_iff_iff,beq_iff_eq]
    exact ⟨Nat.eq_of_beq_eq_true,λe=>by rw [e];exact Nat.beq_refl id⟩
   simp only [hb,akd]
  show (match Λ id with
   |some l=>l st K
   |none=>wps te Φ Λ n body st λe st'=>match e with
    |.exit j=>ifB (Nat.beq j id) (K .normal st') (K (.exit j) st')
    |e=>K e st')=_
  simp only [this]
def alJ (P:Program) (c:Code) (Q:Exit->Act->World->Prop) (a:Act) (w:World):Prop:=
 ∀ (b:Frame) (k:List Item) (cs:List Frame),∃ e a' w',Q e a' w'/\Arrives P (lone (b.at a (.code c:: .inLoop c::k)) cs w) b k cs e a' w'
theorem GS {c:Code} {Q:Exit->Act->World->Prop} {a:Act} {w:World} (h:alJ P c Q a w):(Code.loop c).wp P Q a w:=
 λb k cs=>let ⟨e,a',w',hq,harr⟩:=h b k cs;⟨e,a',w',hq,.of_steps (.one step_loop) harr⟩
theorem LN {c:Code} {Q:Exit->Act->World->Prop} {a:Act} {w:World} (h:c.wp P (λe a' w'=>match e with|.normal=>alJ P c Q a' w'|e=>Q e a' w') a w):alJ P c Q a w:=by
 intro b k cs
 obtain ⟨e,a₁,w₁,hq,harr⟩:=h b (.inLoop c::k) cs
 cases e with
 |normal=>
  obtain ⟨e₂,a₂,w₂,hq₂,harr₂⟩:=hq b k cs
  exact ⟨e₂,a₂,w₂,hq₂,.of_steps (Steps.trans harr (.one step_inLoop)) harr₂⟩
 |exit id=>exact ⟨_,a₁,w₁,hq,.pass (x:=.inLoop c) rfl (λ_ _=>.inl (by simp)) harr⟩
 |goto l=>exact ⟨_,a₁,w₁,hq,.pass (x:=.inLoop c) rfl (λ_ _=>.inl (by simp)) harr⟩
 |ret=>exact ⟨_,a₁,w₁,hq,.pass (x:=.inLoop c) rfl (λ_ _=>.inl (by simp)) harr⟩
 |panic ch=>exact ⟨_,a₁,w₁,hq,.pass (x:=.inLoop c) rfl (λ_ _=>.inl (by simp)) harr⟩
 |outgrown=>exact ⟨_,a₁,w₁,hq,.pass (x:=.inLoop c) rfl (λ_ _=>.inl (by simp)) harr⟩
def Shown (P:Program) (c:Code) (Q:Exit->Act->World->Prop) (a:Act) (w:World):Prop:=
 match c with
 |.loop body=>alJ P body Q a w
 |c=>c.wp P Q a w
theorem Shown.wp {c:Code} {Q:Exit->Act->World->Prop} {a:Act} {w:World} (h:Shown P c Q a w):c.wp P Q a w:=by
 cases c<;>first|exact h|exact GS h
theorem gM (hte:mZ P te) (hΦ:aQ P Φ) (hany:aW P te Φ) {R₀:Ctx} {Λ:Lam}:∀ (n:Nat) (c:Code) (R:Ctx) (st:St) (a:Act) (w:World) (K:SE->St->Prop) (Q:Exit->Act->World->Prop),yd P R₀ Λ c->
 R₀.Ext R->yr R st a w->wps te Φ Λ n c st K->SR R₀ K Q->Shown P c Q a w
 |0,c,R,st,a,w,K,Q,_,_,_,h,_=>h.elim
 |n+1,c,R,st,a,w,K,Q,hΛ,hx,hst,h,hK=>by
  rw [axA] at h
  cases c<;>simp only at h<;>try (exact h.elim)
  case skip=>exact wp_skip (hK.normal R st a w hx hst h)
  case region id ops draw=>
   cases draw
   ·exact wp_region_list (qt hte hΦ hK _ R st a w hx hst h)
   ·cases hr:gq Φ ops (sn ops)
    ·rw [hr] at h;exact h.elim
    ·rw [hr] at h
     exact hany R₀ id ops K Q R st a w hK hx hst hr h
  case seq x y=>
   refine wp_seq (gM hte hΦ hany n x R st a w _ _ (λp hp=>hΛ p (by simp [blocks,hp])) hx hst h ⟨?_,?_,?_,?_⟩).wp
   ·exact λR' st' a' w' hx' hst' hk=>(gM hte hΦ hany n y R' st' a' w' K Q (λp hp=>hΛ p (by simp [blocks,hp])) hx' hst' hk hK).wp
   ·exact λR' st' a' w' hx' hst' hk=>hK.ret R' st' a' w' hx' hst' hk
   ·exact λR' st' a' w' id hx' hst' hk=>hK.exit R' st' a' w' id hx' hst' hk
   ·exact λR' st' a' w' sv v hx' hst' hv hk=>hK.pan R' st' a' w' sv v hx' hst' hv hk
  case cond c x y=>
   split at h
   ·rename_i t ht
    have hc:=xd hst c
    rw [ht] at hc
    simp only [SV.rel] at hc
    refine wp_cond hc ?_
    cases t
    ·exact (gM hte hΦ hany n y R st a w K Q (λp hp=>hΛ p (by simp [blocks,hp])) hx hst h hK).wp
    ·exact (gM hte hΦ hany n x R st a w K Q (λp hp=>hΛ p (by simp [blocks,hp])) hx hst h hK).wp
   ·rename_i ht
    have hc:=xd hst c
    rw [ht] at hc
    simp only [SV.rel] at hc
    obtain ⟨t,hc⟩:=hc
    refine wp_cond hc ?_
    cases t
    ·exact (gM hte hΦ hany n y R st a w K Q (λp hp=>hΛ p (by simp [blocks,hp])) hx hst h.2 hK).wp
    ·exact (gM hte hΦ hany n x R st a w K Q (λp hp=>hΛ p (by simp [blocks,hp])) hx hst h.1 hK).wp
   ·exact h.elim
  case block id body=>
   split at h
   ·rename_i l hl
    exact hΛ (id,body) (by simp [blocks]) l hl R st a w K Q hx hst h hK
   ·refine wp_block (gM hte hΦ hany n body R st a w _ _ (λp hp=>hΛ p (by simp [blocks,hp])) hx hst h ⟨?_,?_,?_,?_⟩).wp
    ·exact λR' st' a' w' hx' hst' hk=>hK.normal R' st' a' w' hx' hst' hk
    ·exact λR' st' a' w' hx' hst' hk=>hK.ret R' st' a' w' hx' hst' hk
    ·intro R' st' a' w' j hx' hst' hk
     simp only [Exit.inBlock]
     by_cases e:j=id
     ·subst e
      simp only [BEq.rfl,cond_true] at hk
      simp only [if_true]
      exact hK.normal R' st' a' w' hx' hst' hk
     ·have:(j==id)=false:=by simpa using e
      simp only [this,cond_false] at hk
      simp only [e,if_false]
      exact hK.exit R' st' a' w' j hx' hst' hk
    ·exact λR' st' a' w' sv v hx' hst' hv hk=>hK.pan R' st' a' w' sv v hx' hst' hv hk
  case loop body=>
   refine LN (gM hte hΦ hany n body R st a w _ _ (λp hp=>hΛ p (by simp [blocks,hp])) hx hst h ⟨?_,?_,?_,?_⟩).wp
   ·exact λR' st' a' w' hx' hst' hk=>gM hte hΦ hany n (.loop body) R' st' a' w' K Q hΛ hx' hst' hk hK
   ·exact λR' st' a' w' hx' hst' hk=>hK.ret R' st' a' w' hx' hst' hk
   ·exact λR' st' a' w' id hx' hst' hk=>hK.exit R' st' a' w' id hx' hst' hk
   ·exact λR' st' a' w' sv v hx' hst' hv hk=>hK.pan R' st' a' w' sv v hx' hst' hv hk
  case exit id=>exact wp_exit (hK.exit R st a w id hx hst h)
  case ret=>exact wp_ret (hK.ret R st a w hx hst h)
theorem WW (hte:mZ P te) (hΦ:aQ P Φ) (hany:aW P te Φ) {R₀:Ctx} {Λ:Lam} {n:Nat} {c:Code} {R:Ctx} {st:St} {a:Act} {w:World} {K:SE->St->Prop} {Q:Exit->Act->World->Prop} (hΛ:yd P R₀ Λ c)
 (hx:R₀.Ext R) (hst:yr R st a w) (h:wps te Φ Λ n c st K) (hK:SR R₀ K Q):c.wp P Q a w:=(gM hte hΦ hany n c R st a w K Q hΛ hx hst h hK).wp
end
end Sx
end Go.Proofs.YtohjofabochgfaaGreat

namespace Go.Proofs.YtohjofabochgfaaGreat
namespace Sx
open Go
section
variable {P:Program} {te:TE} {Φ:Env}
theorem au4 {R:Ctx} {st:St} {a:Act} {w:World} (h:yr R st a w) (t:Nat):SV.rel R (st.tm.getD t .bT) (a.tmps.getD t Go.undef):=xd h (.tmp t)
def ai3 (tmps:Array Value):ResultVar->Sem Value
 |.tmp t=>pure (tmps.getD t Go.undef)
 |.cell b t=>do loadVar t (<-asAddr (tmps.getD b Go.undef))
theorem af7 (ad:Addr):asAddr (.pointer (some ad))=pure ad:=rfl
theorem lP (hte:mZ P te) {R:Ctx} {st:St} {a:Act} {w:World} (h:yr R st a w):∀ (rs:List ResultVar) (K:List SV->Prop),sP te st rs K->
 ∃ l vs,K l/\SV.bV R l vs/\(rs.mapM (ai3 a.tmps)).run P w=.ok vs w
 | [],K,hk=>⟨[],[],hk,vH,rfl⟩
 |.tmp t::r,K,hk=>by
  obtain ⟨l,vs,h1,h2,h3⟩:=lP hte h r _ hk
  refine ⟨_,a.tmps.getD t Go.undef::vs,h1,?_,?_⟩
  ·simp only [SV.bV];exact ⟨_,_,rfl,au4 h t,h2⟩
  ·simp only [List.mapM_cons,ai3,Sem.run_bind,Sem.run_pure,Result.andThen_ok,h3]
 |.cell b T::r,K,hk=>by
  simp only [sP] at hk
  split at hk
  ·rename_i ti hT
   obtain ⟨cs,h0,h1⟩:=OT.agJ hk
   obtain ⟨l,vs,h1,h2,h3⟩:=lP hte h r _ h1
   rw [<-h.hp] at h0
   obtain ⟨ad,hv,v,g1,g2⟩:=B9 (P:=P) h.mem hte hT (au4 h b) h0
   refine ⟨_,v::vs,h1,?_,?_⟩
   ·simp only [SV.bV];exact ⟨_,_,rfl,g2,h2⟩
   ·simp only [List.mapM_cons,ai3,Sem.run_bind,hv,af7,Sem.run_pure,Result.andThen_ok,g1,h3]
  ·exact hk.elim
theorem yf (hte:mZ P te) {R:Ctx} {st:St} {a:Act} {w:World} (h:yr R st a w) {fn:Func} {K:SV->Prop} (hk:ai2 te fn st K):
 ∃ x v,K x/\SV.rel R x v/\(results fn a.tmps).run P w=.ok v w:=by
 obtain ⟨l,vs,h1,h2,h3⟩:=lP hte h _ _ hk
 have hrun:(results fn a.tmps).run P w=.ok (if h:vs.toArray.size=1 then vs.toArray[0] else .tuple vs.toArray) w:=by
  have hfun:results fn a.tmps=(do
   let vs <-fn.results.mapM (ai3 a.tmps)
   pure (if h:vs.size=1 then vs[0] else .tuple vs)):=by
   unfold results
   congr 1
  rw [hfun,Sem.run_bind,Array.mapM_eq_mapM_toList,Sem.run_map,h3]
  rfl
 refine ⟨_,_,h1,?_,hrun⟩
 have hl:=SV.aV h2
 cases l with
 |nil=>
  simp only [SV.bV] at h2
  subst h2
  simp only [oneOf,SV.rel]
  exact ⟨[],by simp,vH⟩
 |cons x l=>
  cases l with
  |nil=>
   obtain ⟨v,rfl,hv⟩:=cJ h2
   simpa [oneOf] using hv
  |cons y l=>
   have hne:¬vs.toArray.size=1:=by simp at hl⊢;omega
   rw [dif_neg hne]
   simp only [oneOf,SV.rel]
   exact ⟨vs,rfl,h2⟩
def aJQ (R:Ctx) (K Kp:SV->Hp->Prop) (en:Ending) (w':World):Prop:=
 (∃ x v R',en=.returned v/\R.Ext R'/\dt R' w'/\SV.rel R' x v/\K x R'.hp)\/(∃ x v R',en=.panicked [{v,recovered:=false}]/\R.Ext R'/\dt R' w'/\SV.rel R' x v/\Kp x R'.hp)
theorem AF (hte:mZ P te) (hΦ:aQ P Φ) (hany:aW P te Φ) {f:FuncId} {fn:Func} {c:Code} (hf:P.funcs[f]? =some fn) (hb:fn.body=some c) {R:Ctx} {Λ:Lam} (hΛ:yd P R Λ c) {w:World} {n:Nat}
 {args:List SV} {vs:List Value} {K Kp:SV->Hp->Prop} (hm:dt R w) (ha:SV.bV R args vs) (h:wpf te Φ Λ n fn args R.hp K Kp):Calls P f vs.toArray w (aJQ R K Kp):=by
 unfold wpf at h
 rw [hb] at h
 simp only at h
 refine calls_of_wp hf hb (WW (R₀:=R) (R:=R) hte hΦ hany hΛ (Ctx.Ext.refl R) ⟨rfl,hm,?_,rfl⟩ h ⟨?_,?_,?_,?_⟩)
 ·have hl:=SV.aV ha
  simp only [Array.toList_append,List.toList_toArray,Array.toList_replicate,List.size_toArray,hl]
  refine SV.cq ha (SV.sQ (by simp) λi h1 h2=> ?_)
  simp [SV.rel]
 ·intro R' st a w' hx hst hk
  obtain ⟨x,v,h1,h2,h3⟩:=yf hte hst hk
  refine ⟨hst.defers,v,h3,.inl ⟨x,v,R',rfl,hx,hst.mem,h2,?_⟩⟩
  rw [hst.hp];exact h1
 ·intro R' st a w' hx hst hk
  obtain ⟨x,v,h1,h2,h3⟩:=yf hte hst hk
  refine ⟨hst.defers,v,h3,.inl ⟨x,v,R',rfl,hx,hst.mem,h2,?_⟩⟩
  rw [hst.hp];exact h1
 ·intro R' st a w' id hx hst hk
  exact hk.elim
 ·intro R' st a w' sv v hx hst hv hk
  refine ⟨hst.defers,.inr ⟨sv,v,R',rfl,hx,hst.mem,hv,?_⟩⟩
  rw [hst.hp];exact hk
end
end Sx
end Go.Proofs.YtohjofabochgfaaGreat

namespace Go.Proofs.YtohjofabochgfaaGreat
namespace Sx
open Go
def ATy:List (Bool×Ty)->Type
 | []=>Unit
 |(_,t)::r=>t.T×ATy r
def aua (hp:Hp):(t:Ty)->List SV->Option t.T
 |.bool,cs=>auc cs
 |.u64,cs=>aIN cs
 |.u8,cs=>pU8 cs
 |.int,cs=>aIQ cs
 |.str,cs=>aIO cs
 |.elem,cs=>aub cs
 |.prod a b,cs=>q9 (aua hp a (cs.take a.size)) (aua hp b (cs.drop a.size))
 |.arr n t,cs=>if cs.length=n*t.size then (List.range n).mapM λi=>aua hp t ((cs.drop (i*t.size)).take t.size) else none
 |.list t,cs=>if 0<t.size then aCV (yq t hp) cs else none
def aJe (hp:Hp) (b:Bool) (t:Ty) (x:SV):Option t.T:=
 match b,x with
 |true,.agg l=>aua hp t l
 |true,_=>none
 |false,x=>aua hp t [x]
def au5 (hp:Hp):(as:List (Bool×Ty))->List SV->Option (ATy as)
 | [],[]=>some ()
 |(b,t)::r,x::l=>q9 (aJe hp b t x) (au5 hp r l)
 |_,_=>none
def inj (b:Bool) (t:Ty) (x:t.T):SV:=sr b (unpack t x)
def aC2:(as:List (Bool×Ty))->ATy as->List SV
 | [],_=> []
 |(b,t)::r,x=>inj b t x.1::aC2 r x.2
def Ctx.all (R:Ctx) (w:World):Ctx:=⟨λb=>w.heap[b]?,⟨λ_=>none,R.U.env⟩,λ_=>none,λ_=>none⟩
section
variable {P:Program} {R:Ctx} {w:World}
def Ty.plain:Ty->Bool
 |.list _=>false
 |.prod a b=>a.plain&&b.plain
 |.arr _ t=>t.plain
 |_=>true
def SV.flat:SV->Bool
 |.bool _|.u64 _|.u8 _|.int _|.str _=>true
 |_=>false
theorem akD {R R':Ctx}:∀ {x:SV} {v:Value},x.flat=true->SV.rel R x v->SV.rel R' x v:=by
 intro x v hf h
 cases x<;>first|(cases hf;done)|(simpa only [SV.rel] using h)
theorem Z6 {R R':Ctx}:∀ {l:List SV} {vs:List Value},l.all SV.flat=true->SV.bV R l vs->SV.bV R' l vs
 | [],vs,_,h=>by simpa only [SV.bV] using h
 |x::l,vs,hf,h=>by
  simp only [List.all_cons,Bool.and_eq_true] at hf
  simp only [SV.bV] at h⊢
  obtain ⟨v,r,h1,h2,h3⟩:=h
  exact ⟨v,r,h1,akD hf.1 h2,Z6 hf.2 h3⟩
theorem lF:∀ (t:Ty) (_:t.plain=true) (x:t.T),(unpack t x).all SV.flat=true
 |.bool,_,_=>rfl
 |.u64,_,_=>rfl
 |.u8,_,_=>rfl
 |.int,_,_=>rfl
 |.str,_,_=>rfl
 |.elem,_,_=>rfl
 |.prod a b,hp,x=>by
  simp only [Ty.plain,Bool.and_eq_true] at hp
  simp only [unpack,List.all_append,lF a hp.1,lF b hp.2,Bool.and_self]
 |.arr n t,hp,x=>by
  simp only [unpack,List.all_flatMap,List.all_eq_true]
  intro i _
  simpa [List.all_eq_true] using lF t hp _
structure alI where
 as:List (Bool×Ty)
 rs:List (Bool×Ty)
 pre:ATy as->Bool
 F:ATy as->ATy rs
def alI.aI (S:alI):cj:=⟨false,λ_ args hp=>match au5 hp S.as args with
 |some x=>.guard (S.pre x) (.ok (.ret ⟨oneOf (aC2 S.rs (S.F x)),[]⟩))
 |none=>.fail⟩
def Ctx.behind (R R₁:Ctx) (w:World):Ctx:= {R with F:=λb=>if b<w.heap.size then R.F b else R₁.F b}
end
end Sx
end Go.Proofs.YtohjofabochgfaaGreat

namespace Go.Proofs.YtohjofabochgfaaGreat
namespace Sx
open Go
def k9 (d n:Nat):Prop:=n/4096=d+1
structure apL (d:Nat) (hp hp':Hp):Prop where
 kN:∀ c ch,hp c=some ch->hp' c=some ch
 free:∀ n,k9 d n->hp n=none->hp' n=none
theorem A7 {c e n:Nat} {hp:Hp} (h:eI hp c e=some n):∃ b,eh hp c e=some b:=by
 unfold eI at h
 cases hq:eh hp c e with
 |none=>rw [hq] at h;cases h
 |some b=>exact ⟨b,rfl⟩
theorem n4 {c e n:Nat} {hp:Hp} (h:dG hp c e=some n):∃ b,eh hp c e=some b:=by
 unfold dG at h
 cases hq:eh hp c e with
 |none=>rw [hq] at h;cases h
 |some b=>exact ⟨b,rfl⟩
section
variable {d:Nat} {hp hp':Hp} (hg:apL d hp hp')
include hg
theorem ct {c e:Nat} {b:Chunk} (h:eh hp c e=some b):eh hp' c e=some b:=by
 have:=hg.kN _ _ (cH h)
 simp [eh,this]
theorem tZ:∀ (n k:Nat),n+k<=4000->eT hp' d n k=eT hp d n k
 |0,k,_=>rfl
 |n+1,k,hk=>by
  simp only [eT]
  cases h:hp ((d+1)*4096+k) with
  |none=>
   have:hp' ((d+1)*4096+k)=none:=hg.free _ (by unfold k9;omega) h
   rw [this]
  |some ch=>
   rw [hg.kN _ _ h]
   exact tZ n (k+1) (by omega)
theorem jQ:fresh hp' d=fresh hp d:=tZ hg 4000 0 (by omega)
theorem Xu {c e n:Nat} (h:eI hp c e=some n):eI hp' c e=some n:=by
 unfold eI at h⊢
 cases hq:eh hp c e with
 |none=>rw [hq] at h;cases h
 |some b=>rw [ct hg hq];rw [hq] at h;exact h
theorem A6 {c e n:Nat} (h:dG hp c e=some n):dG hp' c e=some n:=by
 unfold dG at h⊢
 cases hq:eh hp c e with
 |none=>rw [hq] at h;cases h
 |some b=>rw [ct hg hq];rw [hq] at h;exact h
theorem af5 {t:Ty} {x:SV} {ys:List t.T} (h:af6 t hp x=some ys):af6 t hp' x=some ys:=by
 cases x<;>simp only [af6] at h⊢ <;>try (first|exact h|(cases h;done))
 case own c e=>
  cases hc:hp c with
  |none=>rw [hc] at h;cases h
  |some ch=>rw [hg.kN _ _ hc];rw [hc] at h;exact h
 case part c e off len=>
  cases hc:hp c with
  |none=>rw [hc] at h;cases h
  |some ch=>rw [hg.kN _ _ hc];rw [hc] at h;exact h
theorem abp {t:Ty} {x:SV} {ys:List t.T} (h:yq t hp x=some ys):yq t hp' x=some ys:=by
 cases x<;>simp only [yq] at h⊢ <;>try (first|exact h|(cases h;done))
 case own c e=>
  cases hc:hp c with
  |none=>rw [hc] at h;cases h
  |some ch=>rw [hg.kN _ _ hc];rw [hc] at h;exact h
 case part c e off len=>
  cases hc:hp c with
  |none=>rw [hc] at h;cases h
  |some ch=>rw [hg.kN _ _ hc];rw [hc] at h;exact h
 case clip c e=>
  cases hc:hp c with
  |none=>rw [hc] at h;cases h
  |some ch=>rw [hg.kN _ _ hc];rw [hc] at h;exact h
theorem lm:∀ {t:Ty} {cs:List SV} {x:t.T},pack hp t cs=some x->pack hp' t cs=some x
 |.bool,_,_,h=>h
 |.u64,_,_,h=>h
 |.u8,_,_,h=>h
 |.int,_,_,h=>h
 |.str,_,_,h=>h
 |.elem,_,_,h=>h
 |.prod a b,cs,x,h=>by
  obtain ⟨h1,h2⟩:=bn h
  simp only [pack,lm h1,lm h2,q9]
 |.arr n t,cs,x,h=>by
  simp only [pack] at h⊢
  split at h
  ·rename_i hl
   rw [if_pos hl]
   exact ln (λ_ _=>lm) h
  ·cases h
 |.list t,cs,x,h=>by
  obtain ⟨y,rfl,hy⟩:=pc h
  simp only [pack,aCV]
  exact af5 hg hy
theorem LP {n:Nat} {x:SV} {cs:List SV} (h:(loadCells hp n x).run=some cs):(loadCells hp' n x).run=some cs:=by
 unfold loadCells at h⊢
 split at h
 ·rename_i c e i off
  cases hq:eh hp c e with
  |none=>rw [hq] at h;cases h
  |some b=>rw [ct hg hq];rw [hq] at h;exact h
 ·exact h
 ·exact h
 ·cases h
theorem Py {te:TE} {T:TypeId} {x z:SV} (h:(xA te hp T x).run=some z):(xA te hp' T x).run=some z:=by
 unfold xA at h⊢
 split at h
 ·split at h
  ·cases h
  ·split at h
   ·cases h
   ·rename_i hn
    rw [if_neg hn]
    split at h
    ·split at h
     ·rename_i hrs
      rw [if_pos (A6 hg hrs)]
      split at h
      ·rename_i m hm
       rw [Xu hg hm]
       exact h
      ·cases h
     ·cases h
    ·split at h
     ·rename_i hrs
      rw [if_pos (A6 hg hrs)]
      exact h
     ·cases h
    ·exact h
    ·cases h
 ·cases h
theorem AV {t:Ty} {cs:List SV}:∀ {m j i:Nat} {xs ys:List t.T},sF t hp cs m j i xs=some ys->sF t hp' cs m j i xs=some ys
 |0,_,_,_,_,h=>h
 |m+1,j,i,xs,ys,h=>by
  simp only [sF] at h⊢
  split at h
  ·rename_i x hx
   rw [lm hg hx]
   exact AV h
  ·cases h
theorem Ik {cs:List SV} {x:SV} {u:List (Nat×Ch)} (h:(storeCells hp cs x).run=some u):(storeCells hp' cs x).run=some u:=by
 unfold storeCells at h⊢
 split at h
 ·rename_i c e i off
  cases hq:eh hp c e with
  |none=>rw [hq] at h;cases h
  |some b=>
   rw [ct hg hq]
   rw [hq] at h
   cases b with
   |frz t xs=>cases h
   |cells vs=>exact h
   |row t xs=>
    simp only at h⊢
    split at h
    ·rename_i h1
     rw [if_pos h1]
     obtain ⟨h2,h3⟩:=OT.aJ h
     rw [h2]
     split at h3
     ·rename_i y hy
      rw [lm hg hy]
      exact h3
     ·cases h3
    ·rename_i h1
     rw [if_neg h1]
     split at h
     ·rename_i h4
      rw [if_pos h4]
      obtain ⟨h2,h3⟩:=OT.aJ h
      rw [h2]
      split at h3
      ·rename_i ys hy
       rw [AV hg hy]
       exact h3
      ·cases h3
     ·cases h
 ·cases h
theorem fQ {c e:Nat} {b:Chunk} (h:eh hp c e=some b):dG hp' c e=dG hp c e:=by
 unfold dG
 rw [ct hg h,h]
theorem e5 {c e:Nat} {b:Chunk} (h:eh hp c e=some b):eI hp' c e=eI hp c e:=by
 unfold eI
 rw [ct hg h,h]
theorem LX {te:TE} {T:TypeId} {x z:SV} {k:Int} (h:(indexAddr te hp T x k).run=some z):(indexAddr te hp' T x k).run=some z:=by
 unfold indexAddr at h⊢
 split at h
 ·cases h
 ·split at h
  ·split at h
   ·cases h
   ·split at h
    ·rename_i ei _ c ep i off
     cases hq:eh hp c ep with
     |none=>
      have:dG hp c ep=none:=by unfold dG;rw [hq]
      rw [this,hq] at h
      simp at h
      cases h
     |some b=>
      rw [fQ hg hq,ct hg hq]
      rw [hq] at h
      exact h
    ·exact h
    ·cases h
  ·split at h
   ·cases h
   ·split at h
    ·split at h
     ·rename_i n hn
      obtain ⟨b,hb⟩:=A7 hn
      rw [e5 hg hb,hn,fQ hg hb]
      exact h
     ·cases h
    ·split at h
     ·rename_i n hn
      obtain ⟨b,hb⟩:=A7 hn
      rw [e5 hg hb,hn,fQ hg hb]
      exact h
     ·cases h
    ·split at h
     ·rename_i hs
      obtain ⟨b,hb⟩:=n4 hs
      rw [fQ hg hb,if_pos hs]
      exact h
     ·cases h
    ·exact h
    ·cases h
  ·cases h
end
end Sx
end Go.Proofs.YtohjofabochgfaaGreat

namespace Go.Proofs.YtohjofabochgfaaGreat
namespace Sx
open Go
theorem jD {hp:Hp} {c e:Nat} (h:eh hp c e=none):eI hp c e=none:=by unfold eI;rw [h]
section
variable {d:Nat} {hp hp':Hp} (hg:apL d hp hp')
include hg
theorem AN {size c ep off len:Nat} {lo hi:Option SV} {z:SV} (h:(yQ hp size c ep off len lo hi).run=some z):(yQ hp' size c ep off len lo hi).run=some z:=by
 unfold yQ at h⊢
 split at h
 ·rename_i hs
  obtain ⟨b,hb⟩:=n4 hs
  rw [fQ hg hb,if_pos hs]
  exact h
 ·cases h
theorem S7 {te:TE} {T:TypeId} {x z:SV} {lo hi mx:Option SV} (h:(qA te hp T x lo hi mx).run=some z):(qA te hp' T x lo hi mx).run=some z:=by
 unfold qA at h⊢
 split at h
 ·cases h
 ·split at h
  ·split at h
   ·rename_i ei c ep i off _
    split at h
    ·rename_i hc
     obtain ⟨b,hb⟩:=n4 hc.2.2
     rw [fQ hg hb,if_pos hc,e5 hg hb]
     exact h
    ·cases h
   ·cases h
  ·split at h
   ·cases h
   ·rename_i ei _
    have h0:=OT.aCN h
    clear h
    rcases h0 with ⟨hn,h⟩|⟨hn,h⟩
    ·rw [hn,OT.aIy]
     cases x<;>first|exact h|(cases h;done)|skip
     case own c ep|clip c ep|part c ep _ _=>
      cases hq:eh hp c ep with
      |none=>simp only [jD hq] at h;cases h
      |some b=>simp only [e5 hg hq];exact h
    ·rw [hn,OT.aIz]
     cases mx with
     |some m=>
      cases m<;>cases x<;>first|exact h|(cases h;done)|skip
      case int.own m c ep=>
       cases hq:eh hp c ep with
       |none=>simp only [jD hq] at h;cases h
       |some b=>simp only [e5 hg hq,fQ hg hq];exact h
     |none=>
      cases x<;>first|exact h|(cases h;done)|skip
      case own c ep=>
       cases hq:eh hp c ep with
       |none=>simp only [jD hq] at h;cases h
       |some b=>
        simp only [e5 hg hq]
        simp only at h
        split at h
        ·exact AN hg h
        ·cases h
      case part c ep off len=>exact AN hg h
  ·exact h
  ·cases h
theorem aeD {te:TE} {T:TypeId} {x z:SV} (h:(Pm te hp T x).run=some z):(Pm te hp' T x).run=some z:=by
 unfold Pm at h⊢
 split at h
 ·cases h
 ·rename_i ti hT
  cases hd:ti.desc<;>rw [hd] at h<;>cases x<;>first|exact h|(cases h;done)|skip
  case slice.own _ c ep=>
   simp only at h⊢
   cases hq:eh hp c ep with
   |none=>simp only [jD hq] at h;cases h
   |some b=>simp only [e5 hg hq];exact h
  case slice.clip _ c ep=>
   simp only at h⊢
   cases hq:eh hp c ep with
   |none=>simp only [jD hq] at h;cases h
   |some b=>simp only [e5 hg hq];exact h
  case slice.part _ c ep off len=>
   simp only at h⊢
   cases hq:eh hp c ep with
   |none=>simp only [jD hq] at h;cases h
   |some b=>simp only [e5 hg hq];exact h
omit hg in
theorem tY:∀ (n k:Nat),n+k<=4000->k9 d (eT hp d n k)
 |0,k,h=>by unfold k9;simp only [eT];omega
 |n+1,k,h=>by
  simp only [eT]
  split
  ·unfold k9;omega
  ·exact tY n (k+1) (by omega)
omit hg in
theorem L8 (d:Nat) (hp:Hp):k9 d (fresh hp d):=tY 4000 0 (by omega)
theorem ej (h:¬(hp (fresh hp d)).isSome=true):¬(hp' (fresh hp d)).isSome=true:=by
 rw [hg.free _ (L8 d hp) (pB h)]
 simp
theorem Rq {t:Ty} {x:SV} {ys:List t.T}:(match x with
 |.str b=>cp t .u8 b
 |_=>yq t hp x)=some ys->(match x with
 |.str b=>cp t .u8 b
 |_=>yq t hp' x)=some ys:=λh=>by
 cases x<;>first|exact h|exact abp hg h
theorem PA {te:TE} {T:TypeId} {s x:SV} {e:Eff} (h:(xB te hp d T s x).run=some e):(xB te hp' d T s x).run=some e:=by
 unfold xB at h⊢
 split at h
 ·split at h
  ·rename_i size bytes _ _ t hte
   split at h
   ·cases h
   ·rename_i hb
    rw [if_neg hb]
    split at h
    ·rename_i ys hys
     have key:=Rq hg hys
     split
     case h_2 hno=>exact absurd (hno.symm.trans key) (by simp)
     rename_i ys' hys'
     have:ys'=ys:=Option.some.inj (hys'.symm.trans key)
     subst this
     cases s<;>first|(cases h;done)|skip
     case own c ep=>
      simp only at h⊢
      cases hq:eh hp c ep with
      |none=>rw [hq] at h;cases h
      |some b=>rw [ct hg hq];rw [hq] at h;exact h
     case emp=>
      simp only at h⊢
      split at h
      ·cases h
      ·rename_i hf
       rw [jQ hg,if_neg (ej hg hf)]
       exact h
     case clip c ep=>
      simp only at h⊢
      cases hq:eh hp c ep with
      |none=>rw [hq] at h;cases h
      |some b=>
       rw [ct hg hq];rw [hq] at h
       cases b<;>first|(cases h;done)|skip
       case row t' xs=>
        simp only at h⊢
        split at h
        ·split at h
         ·cases h
         ·rename_i hf
          rw [jQ hg,if_neg (ej hg hf)]
          exact h
        ·cases h
    ·cases h
  ·cases h
 ·cases h
theorem aaw {te:TE} {T:TypeId} {x y:SV} {e:Eff} (h:(RS te hp T x y).run=some e):(RS te hp' T x y).run=some e:=by
 unfold RS at h⊢
 split at h
 ·split at h
  ·split at h
   ·cases h
   ·rename_i hb
    rw [if_neg hb]
    split at h
    ·rename_i ys hys
     have key:=Rq hg hys
     split
     case h_2 hno=>exact absurd (hno.symm.trans key) (by simp)
     rename_i ys' hys'
     have:ys'=ys:=Option.some.inj (hys'.symm.trans key)
     subst this
     cases x<;>first|(cases h;done)|skip
     case own c ep=>
      simp only at h⊢
      cases hq:eh hp c ep with
      |none=>rw [hq] at h;cases h
      |some b=>rw [ct hg hq];rw [hq] at h;exact h
     case part c ep off len=>
      simp only at h⊢
      cases hq:eh hp c ep with
      |none=>rw [hq] at h;cases h
      |some b=>rw [ct hg hq];rw [hq] at h;exact h
    ·cases h
  ·cases h
 ·cases h
theorem He {te:TE} {T:TypeId} {cs:List SV} {e:Eff} (h:(newVar te hp d T cs).run=some e):(newVar te hp' d T cs).run=some e:=by
 unfold newVar at h⊢
 split at h
 ·cases h
 ·split at h
  ·cases h
  ·rename_i hl
   rw [if_neg hl]
   simp only at h⊢
   split at h
   ·cases h
   ·rename_i hf
    rw [jQ hg,if_neg (ej hg hf)]
    exact h
theorem Iv {te:TE} {T:TypeId} {len:Nat} {ps:List (Nat×SV)} {e:Eff} (h:(buildSlice te hp d T len ps).run=some e):(buildSlice te hp' d T len ps).run=some e:=by
 unfold buildSlice at h⊢
 split at h
 ·split at h
  ·simp only at h⊢
   split at h
   ·cases h
   ·rename_i hf
    rw [jQ hg]
    rw [if_neg (by rintro (h1|h1);exact ej hg (λh2=>hf (.inl h2)) h1;exact hf (.inr h1))]
    split at h
    ·split at h
     ·rename_i xs hxs
      rw [ln (λ_ _=>lm hg) hxs]
      exact h
     ·cases h
    ·cases h
  ·cases h
 ·cases h
theorem LJ {te:TE} {T:TypeId} {l c:Int} {e:Eff} (h:(makeSlice te hp d T l c).run=some e):(makeSlice te hp' d T l c).run=some e:=by
 unfold makeSlice at h⊢
 split at h
 ·split at h
  ·simp only at h⊢
   split at h
   ·cases h
   ·rename_i hf
    rw [jQ hg]
    rw [if_neg (by rintro (h1|h1);exact ej hg (λh2=>hf (.inl h2)) h1;exact hf (.inr h1))]
    exact h
  ·cases h
 ·cases h
end
end Sx
end Go.Proofs.YtohjofabochgfaaGreat

namespace Go.Proofs.YtohjofabochgfaaGreat
namespace Sx
open Go
def aG (s:cj):Prop:=∀ (d:Nat) (args:List SV) (hp hp':Hp) (out:Out),apL d hp hp'->(s.f d args hp).run=some out->(s.f d args hp').run=some out
def ax (Φ:Env):Prop:=∀ f s,Φ f=some s->aG s
theorem eS {α β:Type} {f:α->β} {x y:OT α} {z:β} (hxy:∀ a,x.run=some a->y.run=some a) (h:(x.map f).run=some z):(y.map f).run=some z:=by
 obtain ⟨a,h1,rfl⟩:=OT.run_map h
 have:=hxy a h1
 clear h h1 hxy
 induction y with
 |ok b=>cases this;rfl
 |br b u v hu hv=>
  cases b
  ·exact hv this
  ·exact hu this
 |fail=>cases this
theorem It {te:TE} {d:Nat} {hp hp':Hp} (hg:apL d hp hp') {src dst:TypeId} {x:SV} {y:Nat×Nat×List UInt8} (h:gJ te hp src dst x=some y):gJ te hp' src dst x=some y:=by
 unfold gJ at h⊢
 split at h
 ·rename_i hs
  rw [if_pos hs]
  split at h
  ·split at h
   ·split at h
    ·split at h
     ·rename_i h3
      rw [ct hg h3]
      exact h
     ·cases h
    ·cases h
   ·cases h
  ·cases h
 ·cases h
theorem ao6 {te:TE} {Φ:Env} (hΦ:ax Φ) {d:Nat} {hp hp':Hp} (hg:apL d hp hp') {ρ:Operand->SV} {op:Op} {out:Out} (h:(Iq te Φ hp d ρ op).run=some out):
 (Iq te Φ hp' d ρ op).run=some out:=by
 cases op<;>simp only [Iq] at h⊢ <;>try (first|exact h|(cases h;done))
 case alloc T=>
  split at h
  ·exact eS (λ_=>He hg) h
  ·cases h
 case box T x=>
  split at h
  ·exact eS (λ_=>He hg) h
  ·cases h
 case buildSlice T len ps=>exact eS (λ_=>Iv hg) h
 case load T a=>
  split at h
  ·exact eS (λ_ hq=>eS (λ_=>LP hg) hq) h
  ·cases h
 case store T a x=>
  split at h
  ·split at h
   ·split at h
    ·rename_i hl
     rw [if_pos hl]
     exact eS (λ_=>Ik hg) h
    ·cases h
   ·cases h
  ·cases h
 case slice T x lo hi mx=>exact eS (λ_=>S7 hg) h
 case sliceToArrayPointer T x=>exact eS (λ_=>Py hg) h
 case indexAddr T x k=>
  split at h
  ·exact eS (λ_=>LX hg) h
  ·cases h
 case convert src dst x=>
  split at h
  ·exact h
  ·split at h
   ·rename_i hs
    rw [It hg hs]
    exact h
   ·rename_i hs
    split
    ·rename_i c e s hs'
     obtain ⟨_,_,hx,_,_⟩:=uK hs'
     rw [hx] at h
     unfold I7 at h
     split at h<;>first|(cases h;done)|(split at h<;>first|(cases h;done)|skip)
     all_goals (rename_i he;simp_all)
    ·exact h
 case makeSlice T l c=>
  split at h
  ·exact eS (λ_=>LJ hg) h
  ·cases h
 case call c=>
  cases hc:c.callee<;>simp only [hc] at h⊢ <;>try (cases h;done)
  case value f=>
   unfold awt at h⊢
   split at h
   ·split at h
    ·rename_i s hs
     exact hΦ _ _ hs _ _ _ _ _ hg h
    ·cases h
   ·cases h
  case invoke recv name=>
   unfold VR at h⊢
   split at h
   ·split at h
    ·split at h
     ·rename_i s hs
      exact hΦ _ _ hs _ _ _ _ _ hg h
     ·cases h
    ·cases h
   ·cases h
  case builtin b=>
   cases b<;>simp only at h⊢ <;>try (cases h;done)
   case len=>
    split at h
    ·exact eS (λ_=>aeD hg) h
    ·cases h
   case append=>
    split at h
    ·split at h
     ·rename_i hl
      rw [if_pos hl]
      exact eS (λ_=>PA hg) h
     ·cases h
    ·cases h
   case copy=>
    split at h
    ·exact eS (λ_=>aaw hg) h
    ·cases h
   case max=>exact h
def Wn (d:Nat) (hp hp':Hp):Prop:=∀ n,k9 d n->(hp n=none ↔ hp' n=none)
theorem Hj {d:Nat} {hp hp':Hp} (hf:Wn d hp hp'):∀ (n k:Nat),n+k<=4000->eT hp' d n k=eT hp d n k
 |0,k,_=>rfl
 |n+1,k,hk=>by
  simp only [eT]
  have hb:k9 d ((d+1)*4096+k):=by unfold k9;omega
  cases h:hp ((d+1)*4096+k) with
  |none=>rw [(hf _ hb).1 h]
  |some ch=>
   cases h':hp' ((d+1)*4096+k) with
   |none=>rw [(hf _ hb).2 h'] at h;cases h
   |some ch'=>exact Hj hf n (k+1) (by omega)
theorem akq {d:Nat} {hp hp':Hp} (hf:Wn d hp hp'):fresh hp' d=fresh hp d:=Hj hf 4000 0 (by omega)
theorem Zu {d:Nat} {hp hp':Hp} (hf:Wn d hp hp'):(hp' (fresh hp d)).isSome=(hp (fresh hp d)).isSome:=by
 have:=hf _ (L8 d hp)
 cases h:hp (fresh hp d) with
 |none=>rw [this.1 h]
 |some ch=>
  cases h':hp' (fresh hp d) with
  |none=>rw [this.2 h'] at h;cases h
  |some ch'=>rfl
theorem av8 {te:TE} {Φ:Env} {d:Nat} {hp hp':Hp} (hf:Wn d hp hp') {ρ:Operand->SV} {op:Op} (hk:eX Φ op=0):
 Iq te Φ hp' d ρ op=Iq te Φ hp d ρ op:=by
 cases op<;>simp only [Iq]<;>(first|(exfalso;simp [eX] at hk;done)|skip)
 case convert src dst x=>
  have hne:¬Nat.beq src dst=true:=λe=>by simp [eX,e] at hk
  have:∀ hp,gJ te hp src dst (ρ x)=none:=λhp=>by unfold gJ;rw [if_neg hne]
  rw [this,this]
 case alloc T=>
  split
  ·congr 1
   unfold newVar
   rw [akq hf]
   simp only [Zu hf]
  ·rfl
 case makeSlice T l c=>
  split
  ·congr 1
   unfold makeSlice
   rw [akq hf]
   simp only [Zu hf]
  ·rfl
 case call c=>
  cases hc:c.callee<;>(try simp only)
  case value f=>
   exfalso
   simp only [eX,hc] at hk
   cases f<;>simp only at hk<;>first|(cases hk;done)|skip
   split at hk
   ·split at hk<;>cases hk
   ·cases hk
  case invoke recv name=>
   exfalso
   simp only [eX,hc] at hk
   cases hk
  case builtin b=>
   cases b<;>(try simp only)<;>(simp only [eX,hc] at hk;try (cases hk;done))
theorem ao7 {te:TE} {Φ:Env} {d:Nat} {hp:Hp} {ρ ρ':Operand->SV} {op:Op} (h:∀ x ∈ op.operands,ρ x=ρ' x):Iq te Φ hp d ρ op=Iq te Φ hp d ρ' op:=by
 have pairs:∀ ps:Array (Nat×Operand),(∀ x ∈ (ps.toList.map (·.2)).toArray,ρ x=ρ' x)->(ps.toList.map λp=>(p.1,ρ p.2))=(ps.toList.map λp=>(p.1,ρ' p.2)):=λps hp=>
  List.map_congr_left λp hm=>by
   rw [hp p.2 (by simpa using ⟨p.1,by simpa using hm⟩)]
 cases op<;>simp only [Op.operands] at h<;>simp only [Iq]
 case build t ps=>rw [pairs ps h]
 case buildSlice t n ps=>rw [pairs ps h]
 case makeFunc f first caps=>
  rw [List.map_congr_left (l:=first.toList) λx hx=>h x (by simp at hx;simp [hx]),List.map_congr_left (l:=caps.toList) λx hx=>h x (by simp at hx;simp [hx])]
 case call c=>
  have hargs:c.args.toList.map ρ=c.args.toList.map ρ':=List.map_congr_left λx hx=>h x (by simp at hx;simp [Call.operands,hx])
  have harr:∀ x ∈ c.args.toList,ρ x=ρ' x:=λx hx=>h x (by simp at hx;simp [Call.operands,hx])
  cases hc:c.callee<;>(try simp only)
  case value f=>
   have hf:ρ f=ρ' f:=h f (by simp [Call.operands,hc])
   rw [hargs,hf]
  case invoke recv name=>
   have hf:ρ recv=ρ' recv:=h recv (by simp [Call.operands,hc])
   rw [hargs,hf]
  case builtin b=>
   cases b<;>(try simp only)
   all_goals (
    rcases ha:c.args.toList with _|⟨x,_|⟨y,_|⟨z,r⟩⟩⟩<;>rcases hT:c.argTypes.toList with _|⟨T,_|⟨T',_|⟨T'',r'⟩⟩⟩<;>
     first
     |rfl
     |(have hx:=harr x (by rw [ha];simp);simp only [hx];done)
     |(have hx:=harr x (by rw [ha];simp);have hy:=harr y (by rw [ha];simp);simp only [hx,hy];done))
 case slice t x lo hi mx=>cases lo<;>cases hi<;>cases mx<;>simp_all
 all_goals (first|rfl|(simp_all;done))
end Sx
end Go.Proofs.YtohjofabochgfaaGreat

namespace Go.Proofs.YtohjofabochgfaaGreat
namespace Sx
open Go
def bF (u:List (Nat×Ch)):List Nat:=u.map (·.1)
theorem zf {m:Nat}:∀ (u:List (Nat×Ch)) {hp hp':Hp},hp m=hp' m->eu hp u m=eu hp' u m
 | [],_,_,h=>h
 |(c,ch)::r,hp,hp',h=>zf r (by show (if m=c then some ch else hp m)=(if m=c then some ch else hp' m);rw [h])
theorem ee {m:Nat}:∀ (u:List (Nat×Ch)) {hp:Hp},m ∉ bF u->eu hp u m=hp m
 | [],_,_=>rfl
 |(c,ch)::r,hp,h=>by
  have h1:m≠c:=λe=>h (by simp [bF,e])
  have h2:m ∉ bF r:=λe=>h (by simp only [bF,List.map_cons,List.mem_cons];exact .inr e)
  simp only [eu]
  rw [ee r h2]
  simp [h1]
theorem ajy {m:Nat}:∀ (u:List (Nat×Ch)) {hp hp':Hp},m ∈ bF u->eu hp u m=eu hp' u m
 | [],_,_,h=>by simp [bF] at h
 |(c,ch)::r,hp,hp',h=>by
  by_cases h2:m ∈ bF r
  ·exact ajy r h2
  ·have h1:m=c:=by
    simp only [bF,List.map_cons,List.mem_cons] at h
    exact h.resolve_right h2
   simp only [eu]
   rw [ee r h2,ee r h2]
   simp [h1]
theorem QL {m:Nat}:∀ (u:List (Nat×Ch)) {hp:Hp},hp m≠none->eu hp u m≠none
 | [],_,h=>h
 |(c,ch)::r,hp,h=>QL r (by
  show (if m=c then some ch else hp m)≠none
  split
  ·simp
  ·exact h)
theorem aAt {s:St} {d d':Option Tmp} {e e':Eff} (hd:∀ t,d=some t->d'≠some t) (hn:∀ m,m ∈ bF e.upd->m ∉ bF e'.upd):(s.put d e).put d' e'=(s.put d' e').put d e:=by
 unfold St.put
 congr 1
 ·cases d with
  |none=>rfl
  |some t=>
   cases d' with
   |none=>rfl
   |some t'=>
    simp only [E4]
    exact List.set_comm _ _ (λh=>hd t rfl (by rw [h]))
 ·funext m
  simp only
  by_cases h':m ∈ bF e'.upd
  ·have h:m ∉ bF e.upd:=λh=>hn m h h'
   rw [ajy e'.upd (hp':=s.hp) h',ee e.upd h]
  ·rw [ee e'.upd h']
   exact zf _ (ee e'.upd h').symm
theorem wR (st:St) (D:Nat->Bool):∀ (F:mY),(bE st D F).tm.length=st.tm.length
 | []=>rfl
 |x::r=>by
  simp only [bE]
  cases D x.1
  ·exact wR st D r
  ·simp only [cond_true,St.put]
   unfold E4
   split<;>simp [wR st D r]
theorem nH {st:St} {D D':Nat->Bool}:∀ {F:mY},(∀ x ∈ F,D x.1=D' x.1)->bE st D F=bE st D' F
 | [],_=>rfl
 |x::r,h=>by
  simp only [bE]
  rw [h x (by simp),nH (F:=r) λy hy=>h y (by simp [hy])]
theorem Mg {st:St} {D D':Nat->Bool} {m:Nat}:∀ {F:mY},(∀ x ∈ F,D' x.1=true->D x.1=true)->(∀ x ∈ F,D x.1=true->D' x.1=false->m ∉ bF x.2.2.upd)->
 (bE st D F).hp m=(bE st D' F).hp m
 | [],_,_=>rfl
 |x::r,h1,h2=>by
  have ih:=Mg (st:=st) (D:=D) (D':=D') (m:=m) (F:=r) (λy hy=>h1 y (by simp [hy])) (λy hy=>h2 y (by simp [hy]))
  simp only [bE]
  cases hd':D' x.1
  ·cases hd:D x.1
   ·exact ih
   ·simp only [cond_true,cond_false,St.put]
    rw [ee _ (h2 x (by simp) hd hd')]
    exact ih
  ·rw [h1 x (by simp) hd']
   simp only [cond_true,St.put]
   exact zf _ ih
theorem KL {st:St} {dst:Option Tmp} {v:SV} {t:Nat} (h:dst≠some t):(E4 st dst v).getD t .bT=st.tm.getD t .bT:=by
 cases dst with
 |none=>rfl
 |some d=>
  have:d≠t:=λe=>h (by rw [e])
  simp [E4,List.getD_eq_getElem?_getD,List.getElem?_set_ne this]
theorem am2 {st st':St} {dst:Option Tmp} {v:SV} {t:Nat} (hl:st.tm.length=st'.tm.length) (h:st.tm.getD t .bT=st'.tm.getD t .bT):(E4 st dst v).getD t .bT=(E4 st' dst v).getD t .bT:=by
 cases dst with
 |none=>exact h
 |some d=>
  by_cases e:d=t
  ·subst e
   simp only [E4,List.getD_eq_getElem?_getD,List.getElem?_set,if_true,hl]
  ·rw [KL (by simpa using e),KL (by simpa using e)]
   exact h
theorem ZV {st:St} {D D':Nat->Bool} {t:Nat}:∀ {F:mY},(∀ x ∈ F,D' x.1=true->D x.1=true)->(∀ x ∈ F,D x.1=true->D' x.1=false->x.2.1.dst≠some t)->
 (bE st D F).tm.getD t .bT=(bE st D' F).tm.getD t .bT
 | [],_,_=>rfl
 |x::r,h1,h2=>by
  have ih:=ZV (st:=st) (D:=D) (D':=D') (t:=t) (F:=r) (λy hy=>h1 y (by simp [hy])) (λy hy=>h2 y (by simp [hy]))
  simp only [bE]
  cases hd':D' x.1
  ·cases hd:D x.1
   ·exact ih
   ·simp only [cond_true,cond_false,St.put]
    rw [KL (h2 x (by simp) hd hd')]
    exact ih
  ·rw [h1 x (by simp) hd']
   simp only [cond_true,St.put]
   exact am2 (by rw [wR,wR]) ih
theorem Cr {st:St} {D:Nat->Bool} {i:Nat} {o:Oper} {e:Eff}:∀ {F:mY},(i,o,e) ∈ F->(∀ x ∈ F,x.1=i->x=(i,o,e))->F.Pairwise (λx y=>y.1<x.1)->D i=false->
 (∀ x ∈ F,D x.1=true->i<x.1->(∀ t,o.dst=some t->x.2.1.dst≠some t)/\∀ m,m ∈ bF e.upd->m ∉ bF x.2.2.upd)->
 bE st (λk=>D k||Nat.beq k i) F=(bE st D F).put o.dst e
 | [],hm,_,_,_,_=>by cases hm
 |x::r,hm,hu,hp,hD,hc=>by
  have hp':=List.pairwise_cons.1 hp
  simp only [bE]
  by_cases hx:x.1=i
  ·have:=hu x (by simp) hx
   subst this
   simp only [hD,Bool.false_or,Nat.beq_refl,cond_true,cond_false]
   congr 1
   exact nH λy hy=>by
    have:y.1≠i:=Nat.ne_of_lt (hp'.1 y hy)
    simp [this]
  ·have hmr:(i,o,e) ∈ r:=by
    rcases List.mem_cons.1 hm with h|h
    ·exact absurd (by rw [<-h]) hx
    ·exact h
   have hlt:i<x.1:=hp'.1 _ hmr
   have ih:=Cr (st:=st) (F:=r) hmr (λy hy=>hu y (by simp [hy])) hp'.2 hD (λy hy=>hc y (by simp [hy]))
   have hb:Nat.beq x.1 i=false:=by
    cases hq:Nat.beq x.1 i
    ·rfl
    ·exact absurd (Nat.eq_of_beq_eq_true hq) hx
   simp only [hb,Bool.or_false]
   cases hd:D x.1
   ·exact ih
   ·simp only [cond_true]
    obtain ⟨c1,c2⟩:=hc x (by simp) hd hlt
    rw [ih,aAt c1 c2]
end Sx
end Go.Proofs.YtohjofabochgfaaGreat

namespace Go.Proofs.YtohjofabochgfaaGreat
namespace Sx
open Go
section
variable {te:TE} {Φ:Env} {ops:Array Oper} {bs:Array Nat} {H:Hid} {st:St}
structure aDt (te:TE) (Φ:Env) (ops:Array Oper) (bs:Array Nat) (H:Hid) (st:St) (r:mY) (i:Nat) (o:Oper) (e:Eff):Prop where
 run:∃ b,guarded ops.toList (bE st (dp bs i) r).tm o=some b/\
  (b=true->(Iq te Φ (aC3 (hid H i) (bE st (dp bs i) r).hp) (fe i o) (bE st (dp bs i) r).eval o.op).run=some (.ret e)/\ZA H i o e.upd=true)/\(b=false->e=⟨.undef,[]⟩)
 upd:aci Φ bs ops.toList st i o r e.upd=true
def Good (te:TE) (Φ:Env) (ops:Array Oper) (bs:Array Nat) (H:Hid) (st:St):mY->Prop
 | []=>True
 |x::r=>x.1=r.length/\ops[r.length]? =some x.2.1/\aDt te Φ ops bs H st r x.1 x.2.1 x.2.2/\Good te Φ ops bs H st r
theorem Jv {K:SE->St->Prop}:∀ (l:List Oper) (done:mY),Good te Φ ops bs H st done->(∀ k,l[k]? =ops[done.length+k]?)->gm te Φ ops.toList bs H K st done.length l done->
 ∃ F,Good te Φ ops bs H st F/\F.length=done.length+l.length/\K .normal (bE st (λ_=>true) F)
 | [],done,hg,_,h=>⟨done,hg,rfl,h⟩
 |o::r,done,hg,hl,h=>by
  have ho:ops[done.length]? =some o:=by have:=hl 0;simpa using this.symm
  have hl':∀ k,r[k]? =ops[done.length+1+k]? :=λk=>by
   have:=hl (k+1)
   rw [List.getElem?_cons_succ] at this
   rw [this]
   congr 1
   omega
  simp only [gm] at h
  split at h
  ·exact h.elim
  ·rename_i b hb
   cases b
   ·simp only [cond_false] at h
    obtain ⟨F,h1,h2,h3⟩:=Jv r ((done.length,o,⟨.undef,[]⟩)::done) ⟨rfl,ho,⟨⟨_,hb,(λh=>by cases h),λ_=>rfl⟩,rfl⟩,hg⟩ hl' h
    exact ⟨F,h1,by rw [h2];simp only [List.length_cons];omega,h3⟩
   ·simp only [cond_true] at h
    obtain ⟨out,h1,h2⟩:=OT.agJ h
    cases out with
    |pan v u=>exact h2.elim
    |ret e=>
     simp only at h2
     cases hu:aci Φ bs ops.toList st done.length o done e.upd
     ·rw [hu] at h2;exact h2.elim
     ·cases hv:ZA H done.length o e.upd
      ·rw [hu,hv] at h2;exact h2.elim
      rw [hu,hv] at h2
      obtain ⟨F,h4,h5,h6⟩:=Jv r ((done.length,o,e)::done) ⟨rfl,ho,⟨⟨_,hb,(λ_=>⟨h1,hv⟩),λh=>by cases h⟩,hu⟩,hg⟩ hl' h2
      exact ⟨F,h4,by rw [h5];simp only [List.length_cons];omega,h6⟩
theorem Good.mem:∀ {F:mY},Good te Φ ops bs H st F->∀ x ∈ F,x.1<F.length/\ops[x.1]? =some x.2.1
 | [],_,x,hx=>by cases hx
 |y::r,hg,x,hx=>by
  rcases List.mem_cons.1 hx with h|h
  ·subst h
   exact ⟨by rw [hg.1];simp,by rw [hg.1];exact hg.2.1⟩
  ·obtain ⟨h1,h2⟩:=Good.mem hg.2.2.2 x h
   exact ⟨by simp only [List.length_cons];omega,h2⟩
theorem Good.pairwise:∀ {F:mY},Good te Φ ops bs H st F->F.Pairwise (λx y=>y.1<x.1)
 | [],_=>List.Pairwise.nil
 |y::r,hg=>List.pairwise_cons.2 ⟨λx hx=>by rw [hg.1];exact (Good.mem hg.2.2.2 x hx).1,Good.pairwise hg.2.2.2⟩
theorem Good.aKD:∀ {F:mY},Good te Φ ops bs H st F->∀ x ∈ F,∀ y ∈ F,x.1=y.1->x=y
 | [],_,x,hx,_,_,_=>by cases hx
 |z::r,hg,x,hx,y,hy,he=>by
  rcases List.mem_cons.1 hx with h|h<;>rcases List.mem_cons.1 hy with h'|h'
  ·rw [h,h']
  ·have:=(Good.mem hg.2.2.2 y h').1
   rw [h,hg.1] at he
   omega
  ·have:=(Good.mem hg.2.2.2 x h).1
   rw [h',hg.1] at he
   omega
  ·exact Good.aKD hg.2.2.2 x h y h' he
theorem Good.at:∀ {F:mY},Good te Φ ops bs H st F->∀ i,i<F.length->∃ o e r,(i,o,e) ∈ F/\(∀ y ∈ r,y ∈ F)/\r.length=i/\(∀ D:Nat->Bool,(∀ k,i<=k->D k=false)->bE st D F=bE st D r)/\Good te Φ ops bs H st r/\aDt te Φ ops bs H st r i o e
 | [],_,i,h=>by simp at h
 |y::r,hg,i,h=>by
  by_cases hi:i=r.length
  ·subst hi
   have h1:y.1=r.length:=hg.1
   refine ⟨y.2.1,y.2.2,r,?_,λz hz=>by simp [hz],rfl,λD hD=> ?_,hg.2.2.2,?_⟩
   ·rw [<-h1];simp
   ·simp only [bE]
    rw [hD y.1 (by rw [h1];omega)]
    rfl
   ·have:=hg.2.2.1
    rw [h1] at this
    exact this
  ·have hlt:i<r.length:=by simp only [List.length_cons] at h;omega
   obtain ⟨o,e,r',h1,h2,h3,h4,h5,h6⟩:=Good.at hg.2.2.2 i hlt
   refine ⟨o,e,r',by simp [h1],λz hz=>by simp [h2 z hz],h3,λD hD=> ?_,h5,h6⟩
   simp only [bE]
   rw [hD y.1 (by rw [hg.1];omega)]
   exact h4 D hD
theorem akc {d n:Nat} (h:Zx d n=true):k9 d n:=Nat.eq_of_beq_eq_true h
theorem Good.names:∀ {F:mY},Good te Φ ops bs H st F->∀ x ∈ F,∀ m ∈ bF x.2.2.upd,(k9 (fe x.1 x.2.1) m/\st.hp m=none)\/
 (eX Φ x.2.1.op=2/\(st.hp m≠none\/∃ y ∈ F,dp bs x.1 y.1=true/\k9 (fe y.1 y.2.1) m/\y.2.2.upd≠ []))
 | [],_,x,hx,_,_=>by cases hx
 |z::r,hg,x,hx,m,hm=>by
  rcases List.mem_cons.1 hx with h|h
  ·subst h
   obtain ⟨c,hc,rfl⟩:=List.mem_map.1 hm
   have hu:=hg.2.2.1.upd
   unfold aci at hu
   have hne:x.2.2.upd.isEmpty=false:=by
    cases hq:x.2.2.upd with
    |nil=>rw [hq] at hc;cases hc
    |cons=>rfl
   rw [hne,Bool.false_or,Bool.and_eq_true,List.all_eq_true,List.all_eq_true] at hu
   have h1:=hu.2 c hc
   simp only [Bool.or_eq_true,Bool.and_eq_true,Option.isNone_iff_eq_none,List.any_eq_true,Bool.not_eq_true'] at h1
   rcases h1 with ⟨h1,h2⟩|⟨h1,h2⟩
   ·exact .inl ⟨akc h1,h2⟩
   ·refine .inr ⟨Nat.eq_of_beq_eq_true h1,?_⟩
    rcases h2 with h2|⟨y,hy,⟨h3,h4⟩,h5⟩
    ·exact .inl λhq=>by rw [hq] at h2;cases h2
    ·exact .inr ⟨y,by simp [hy],h3,akc h4,λhq=>by rw [hq] at h5;cases h5⟩
  ·rcases Good.names hg.2.2.2 x h m hm with h1|⟨h1,h2|⟨y,hy,h3⟩⟩
   ·exact .inl h1
   ·exact .inr ⟨h1,.inl h2⟩
   ·exact .inr ⟨h1,.inr ⟨y,by simp [hy],h3⟩⟩
theorem kl {o:Oper} {i:Nat} (h:ops[i]? =some o):ops.getD i default=o:=by
 rw [Array.getD_eq_getD_getElem?,h];rfl
theorem Io {o:Oper} {i:Nat} (h:ops[i]? =some o):ops.toList.getD i default=o:=by
 rw [List.getD_eq_getElem?_getD,Array.getElem?_toList,h];rfl
theorem Good.own:∀ {F:mY},Good te Φ ops bs H st F->∀ x ∈ F,x.2.2.upd≠ []->∀ (k:Nat) (o:Oper),ops[k]? =some o->k≠x.1->fe k o≠fe x.1 x.2.1
 | [],_,x,hx,_,_,_,_,_=>by cases hx
 |z::r,hg,x,hx,hne,k,o,hk,hkx=>by
  rcases List.mem_cons.1 hx with h|h
  ·subst h
   have hu:=hg.2.2.1.upd
   unfold aci at hu
   have hne:x.2.2.upd.isEmpty=false:=by
    cases hq:x.2.2.upd with
    |nil=>exact absurd hq hne
    |cons=>rfl
   rw [hne,Bool.false_or,Bool.and_eq_true,List.all_eq_true,List.all_eq_true] at hu
   have hlt:k<ops.size:=by
    rcases Nat.lt_or_ge k ops.size with h'|h'
    ·exact h'
    ·rw [Array.getElem?_eq_none h'] at hk;cases hk
   have h1:=hu.1 k (by simpa using hlt)
   rw [Io hk] at h1
   simp only [Bool.or_eq_true,Bool.not_eq_true'] at h1
   rcases h1 with h1|h1
   ·exact absurd (Nat.eq_of_beq_eq_true h1) hkx
   ·intro he
    rw [he,Nat.beq_refl] at h1
    cases h1
  ·exact Good.own hg.2.2.2 x h hne k o hk hkx
def ab6 (bs:Array Nat) (n:Nat) (D:Nat->Bool):Prop:=∀ k,k<n->D k=true->∀ l,dp bs k l=true->D l=true
theorem Good.origin {F:mY} (hF:Good te Φ ops bs H st F) {D:Nat->Bool} (hD:ab6 bs F.length D) {m:Nat} (hm:st.hp m=none):∀ (L:mY),(∀ x ∈ L,x ∈ F)->(bE st D L).hp m≠none->
 ∃ y ∈ F,D y.1=true/\k9 (fe y.1 y.2.1) m/\y.2.2.upd≠ []
 | [],_,h=>absurd hm h
 |x::r,hL,h=>by
  have ih:=Good.origin hF hD hm r (λy hy=>hL y (by simp [hy]))
  simp only [bE] at h
  cases hd:D x.1
  ·rw [hd] at h;exact ih h
  ·rw [hd] at h
   simp only [cond_true,St.put] at h
   by_cases hn:m ∈ bF x.2.2.upd
   ·have hx:=hL x (by simp)
    rcases hF.names x hx m hn with ⟨h1,_⟩|⟨_,h1|⟨y,hy,h2,h3,h4⟩⟩
    ·exact ⟨x,hx,hd,h1,λhq=>by rw [hq] at hn;simp [bF] at hn⟩
    ·exact absurd hm h1
    ·exact ⟨y,hy,hD x.1 (hF.mem x hx).1 hd _ h2,h3,h4⟩
   ·rw [ee _ hn] at h
    exact ih h
theorem zI {D:Nat->Bool} {m:Nat} (hm:st.hp m≠none):∀ (L:mY),(bE st D L).hp m≠none
 | []=>hm
 |x::r=>by
  have ih:=zI (D:=D) hm r
  simp only [bE]
  cases D x.1
  ·exact ih
  ·exact QL _ ih
end
end Sx
end Go.Proofs.YtohjofabochgfaaGreat

namespace Go.Proofs.YtohjofabochgfaaGreat
namespace Sx
open Go
theorem dW {a b:Nat} (h:Nat.blt a b=true):a<b:=Nat.le_of_ble_eq_true h
theorem aa4 {a b:Nat} (h:a<b):Nat.blt a b=true:=Nat.ble_eq_true_of_le h
section
variable {te:TE} {Φ:Env} {ops:Array Oper} {bs:Array Nat} {H:Hid} {st:St}
structure SS (Φ:Env) (ops:Array Oper) (i j:Nat) (x y:Oper):Prop where
 xy:∀ d,x.dst=some d->d ∉ y.looksAt ops
 dd:∀ d,x.dst=some d->y.dst≠some d
 yx:∀ d,y.dst=some d->d ∉ x.looksAt ops
 slot:fe i x≠fe j y
theorem SS.symm {i j:Nat} {x y:Oper} (h:SS Φ ops i j x y):SS Φ ops j i y x:=
 ⟨h.yx,λd hd he=>h.dd d he hd,h.xy,λe=>h.slot e.symm⟩
theorem zt {a b:Nat} (h:Nat.beq a b=false):a≠b:=λe=>by
 subst e
 rw [Nat.beq_refl] at h
 cases h
theorem abb (hok:gq Φ ops bs=true) {i j:Nat} {x y:Oper} (hx:ops[i]? =some x) (hy:ops[j]? =some y) (hij:i<j) (h:dp bs j i=false):SS Φ ops i j x y:=by
 have hj:j<ops.size:=by
  rcases Nat.lt_or_ge j ops.size with h'|h'
  ·exact h'
  ·rw [Array.getElem?_eq_none h'] at hy;cases hy
 unfold gq at hok
 rw [List.all_eq_true] at hok
 have h1:=hok j (by simpa using hj)
 rw [Bool.and_eq_true,List.all_eq_true] at h1
 have h2:=h1.2 i (by simpa using hij)
 unfold aCT at h2
 simp only [kl hx,kl hy,h,Bool.false_or,Bool.and_eq_true,Bool.not_eq_true'] at h2
 obtain ⟨h3,h4⟩:=h2
 obtain ⟨a1,a2,a3⟩:=Oper.apart_spec h3
 exact ⟨a1,a2,a3,zt h4⟩
theorem ak6 {i j:Nat} {x y:Oper} (hx:ops[i]? =some x) (hy:ops[j]? =some y) (hij:i<j) (h:dp bs j i=false) (hk:(eX Φ x.op=2/\eX Φ y.op≠0)\/(eX Φ y.op=2/\eX Φ x.op≠0)):(i,j) ∈ uD Φ ops bs:=by
 have hj:j<ops.size:=by
  rcases Nat.lt_or_ge j ops.size with h'|h'
  ·exact h'
  ·rw [Array.getElem?_eq_none h'] at hy;cases hy
 unfold uD
 refine List.mem_flatMap.2 ⟨j,by simpa using hj,List.mem_flatMap.2 ⟨i,by simpa using hij,?_⟩⟩
 have:awi Φ ops bs i j=true:=by
  unfold awi
  simp only [kl hx,kl hy,h,Bool.not_false,Bool.true_and,Bool.or_eq_true,Bool.and_eq_true,Bool.not_eq_true']
  have nb:∀ {n:Nat},n≠0->Nat.beq n 0=false:=λ{n} h=>by
   cases hq:Nat.beq n 0
   ·rfl
   ·exact absurd (Nat.eq_of_beq_eq_true hq) h
  exact hk.imp (λ⟨a,b⟩=>⟨by rw [a];rfl,nb b⟩) λ⟨a,b⟩=>⟨by rw [a];rfl,nb b⟩
 rw [this]
 exact List.mem_singleton.2 rfl
theorem aC4 (hH:H.1=uD Φ ops bs) {i j:Nat} {x y:Oper} (hx:ops[i]? =some x) (hy:ops[j]? =some y) (hij:i≠j) (h:dp bs j i=false) (h':dp bs i j=false) (hk:(eX Φ x.op=2/\eX Φ y.op≠0)\/(eX Φ y.op=2/\eX Φ x.op≠0)):
 wL H i=true/\wL H j=true/\(∀ n ∈ H.2.getD j [],n ∈ hid H i)/\(∀ n ∈ H.2.getD i [],n ∈ hid H j):=by
 have nb:∀ {a b:Nat},a≠b->Nat.beq a b=false:=λ{a b} h=>by
  cases hq:Nat.beq a b
  ·rfl
  ·exact absurd (Nat.eq_of_beq_eq_true hq) h
 unfold wL hid
 rw [hH]
 rcases Nat.lt_or_gt_of_ne hij with hlt|hlt
 ·have hm:=ak6 hx hy hlt h hk
  refine ⟨List.any_eq_true.2 ⟨_,hm,by simp⟩,List.any_eq_true.2 ⟨_,hm,by simp⟩,λn hn=>List.mem_flatMap.2 ⟨_,hm,?_⟩,λn hn=>List.mem_flatMap.2 ⟨_,hm,?_⟩⟩
  ·simp only [Nat.beq_refl,cond_true]
   exact hn
  ·simp only [nb hij,Nat.beq_refl,cond_true,cond_false]
   exact hn
 ·have hm:=ak6 hy hx hlt h' hk.symm
  refine ⟨List.any_eq_true.2 ⟨_,hm,by simp⟩,List.any_eq_true.2 ⟨_,hm,by simp⟩,λn hn=>List.mem_flatMap.2 ⟨_,hm,?_⟩,λn hn=>List.mem_flatMap.2 ⟨_,hm,?_⟩⟩
  ·simp only [nb (Ne.symm hij),Nat.beq_refl,cond_true,cond_false]
   exact hn
  ·simp only [Nat.beq_refl,cond_true]
   exact hn
theorem auU {R:List Nat} {hp:Hp} {n:Nat} {ch:Ch} (h:aC3 R hp n=some ch):n ∉ R/\hp n=some ch:=by
 cases R with
 |nil=>exact ⟨by simp,h⟩
 |cons a r=>
  have h:cond ((a::r).any λm=>Nat.beq m n) none (hp n)=some ch:=h
  cases hq:(a::r).any λm=>Nat.beq m n
  ·rw [hq] at h
   refine ⟨λhm=> ?_,h⟩
   have:=List.any_eq_false.1 hq n hm
   rw [Nat.beq_refl] at this
   exact this rfl
  ·rw [hq] at h
   cases h
theorem akf {R:List Nat} {hp:Hp} {n:Nat} (h:n ∉ R):aC3 R hp n=hp n:=by
 cases R with
 |nil=>rfl
 |cons a r=>
  show cond ((a::r).any λm=>Nat.beq m n) none (hp n)=hp n
  have:((a::r).any λm=>Nat.beq m n)=false:=List.any_eq_false.2 λm hm hq=>h (by rw [<-Nat.eq_of_beq_eq_true hq];exact hm)
  rw [this]
  rfl
theorem auV {i n:Nat} (h:n ∈ hid H i):wL H i=true:=by
 unfold hid at h
 obtain ⟨p,hp,h⟩:=List.mem_flatMap.1 h
 refine List.any_eq_true.2 ⟨p,hp,?_⟩
 cases h1:Nat.beq p.1 i
 ·cases h2:Nat.beq p.2 i
  ·rw [h1,h2] at h;cases h
  ·rfl
 ·rfl
theorem rn {i:Nat} {o:Oper} {u:List (Nat×Ch)} (h:ZA H i o u=true) (hc:wL H i=true):
 (∀ m ∈ bF u,m ∈ H.2.getD i []/\m ∉ hid H i)/\∀ n ∈ hid H i,¬k9 (fe i o) n:=by
 unfold ZA at h
 rw [hc,Bool.not_true,Bool.false_or,Bool.and_eq_true,List.all_eq_true,List.all_eq_true] at h
 refine ⟨λm hm=> ?_,λn hn hb=> ?_⟩
 ·obtain ⟨c,hc,rfl⟩:=List.mem_map.1 hm
  have h1:=h.1 c hc
  rw [Bool.and_eq_true,List.any_eq_true,Bool.not_eq_true'] at h1
  obtain ⟨⟨k,hk,he⟩,h2⟩:=h1
  refine ⟨by rw [<-Nat.eq_of_beq_eq_true he];exact hk,λhm=> ?_⟩
  have:=List.any_eq_false.1 h2 c.1 hm
  rw [Nat.beq_refl] at this
  exact this rfl
 ·have h1:=h.2 n hn
  rw [Bool.not_eq_true'] at h1
  unfold k9 at hb
  unfold Zx at h1
  rw [hb,Nat.beq_refl] at h1
  cases h1
theorem Good.hid:∀ {F:mY},Good te Φ ops bs H st F->∀ x ∈ F,x.2.2.upd≠ []->ZA H x.1 x.2.1 x.2.2.upd=true
 | [],_,x,hx,_=>by cases hx
 |z::r,hg,x,hx,hne=>by
  rcases List.mem_cons.1 hx with h|h
  ·subst h
   obtain ⟨b,h1,h2,h3⟩:=hg.2.2.1.run
   cases b
   ·rw [h3 rfl] at hne
    exact absurd rfl hne
   ·exact (h2 rfl).2
  ·exact Good.hid hg.2.2.2 x h hne
theorem beside (hok:gq Φ ops bs=true) {i j:Nat} {x y:Oper} (hx:ops[i]? =some x) (hy:ops[j]? =some y) (hij:i≠j) (h:dp bs j i=false) (h':dp bs i j=false):SS Φ ops i j x y:=by
 rcases Nat.lt_or_gt_of_ne hij with hlt|hlt
 ·exact abb hok hx hy hlt h
 ·exact (abb hok hy hx hlt h').symm
theorem V6 (hok:gq Φ ops bs=true) {i:Nat} {o:Oper} (ho:ops[i]? =some o):
 (∀ e ∈ o.after,Region.binds .any e=true->e.on<i/\dp bs i e.on=true)/\
 ∀ k,dp bs i k=true->(∀ l,dp bs k l=true->dp bs i l=true)/\∃ e ∈ o.after,Region.binds .any e=true/\(e.on=k\/dp bs e.on k=true):=by
 have hi:i<ops.size:=by
  rcases Nat.lt_or_ge i ops.size with h'|h'
  ·exact h'
  ·rw [Array.getElem?_eq_none h'] at ho;cases ho
 unfold gq at hok
 rw [List.all_eq_true] at hok
 have h1:=hok i (by simpa using hi)
 rw [Bool.and_eq_true] at h1
 have h2:=h1.1
 unfold aDp at h2
 rw [Bool.and_eq_true,kl ho,Array.all_eq_true_iff_forall_mem,List.all_eq_true] at h2
 refine ⟨λe he hb=> ?_,λk hk=> ?_⟩
 ·have h3:=h2.1 e he
  rw [hb] at h3
  simp only [Bool.not_true,Bool.false_or,Bool.and_eq_true] at h3
  exact ⟨dW h3.1,by unfold dp;rw [h3.1,h3.2];rfl⟩
 ·unfold dp at hk
  rw [Bool.and_eq_true] at hk
  have h3:=h2.2 k (by simpa using dW hk.1)
  rw [hk.2] at h3
  simp only [Bool.not_true,Bool.false_or,Bool.and_eq_true] at h3
  refine ⟨λl hl=> ?_,?_⟩
  ·unfold dp at hl⊢
   rw [Bool.and_eq_true] at hl⊢
   refine ⟨aa4 (Nat.lt_trans (dW hl.1) (dW hk.1)),?_⟩
   have h4:=Nat.eq_of_beq_eq_true h3.1
   have h5:=hl.2
   rw [<-h4,Nat.testBit_and,Bool.and_eq_true] at h5
   exact h5.2
  ·obtain ⟨e,he,h4⟩:=Array.any_eq_true'.1 h3.2
   rw [Bool.and_eq_true,Bool.or_eq_true] at h4
   exact ⟨e,he,h4.1,h4.2.imp Nat.eq_of_beq_eq_true id⟩
theorem apd (hok:gq Φ ops bs=true) {n i:Nat} (hi:i<ops.size):ab6 bs n (dp bs i):=λk _ hk l hl=>
 ((V6 hok (Array.getElem?_eq_getElem hi)).2 k hk).1 l hl
structure At (te:TE) (Φ:Env) (ops:Array Oper) (bs:Array Nat) (st:St) (F:mY) (D:Nat->Bool) (i:Nat) (o:Oper) (e:Eff):Prop where
 guard:∃ b,guarded ops.toList (bE st D F).tm o=some b/\(b=true->(Iq te Φ (bE st D F).hp (fe i o) (bE st D F).eval o.op).run=some (.ret e))/\(b=false->e=⟨.undef,[]⟩)
 put:bE st (λk=>D k||Nat.beq k i) F=(bE st D F).put o.dst e
theorem U8 {tm tm':List SV} {o:Oper} (h:∀ t ∈ o.looksAt ops,tm.getD t .bT=tm'.getD t .bT):guarded ops.toList tm o=guarded ops.toList tm' o:=by
 unfold guarded
 split
 ·rfl
 ·rename_i j want hj
  have:(ops.toList[j]?).bind (·.dst)=(ops[j]?).bind (·.dst):=by simp
  rw [this]
  split
  ·rename_i d hd
   rw [h d (by simp [Oper.looksAt,hj,hd])]
  ·rfl
theorem aGv (op:Op):eX Φ op=0\/eX Φ op=1\/eX Φ op=2:=by
 unfold eX
 repeat' split
 all_goals first|(simp;done)|(rename_i s d _;cases Nat.beq s d<;>simp)
theorem aKA (hm:ax Φ) (hH:H.1=uD Φ ops bs) (hok:gq Φ ops bs=true) {F:mY} (hF:Good te Φ ops bs H st F) (hl:F.length=ops.size) {D:Nat->Bool} (hD:ab6 bs F.length D) {i:Nat} (hi:i<ops.size) (hDi:D i=false)
 (hpre:∀ k,dp bs i k=true->D k=true):∃ o e,ops[i]? =some o/\At te Φ ops bs st F D i o e:=by
 obtain ⟨o,e,r,hmem,hr,hrl,hback,hgr,hgo⟩:=hF.at i (by omega)
 have ho:ops[i]? =some o:=(hF.mem _ hmem).2
 refine ⟨o,e,ho,?_⟩
 --those that are done and needn't come ahead
 have side:∀ x ∈ F,D x.1=true->dp bs i x.1=false->SS Φ ops i x.1 o x.2.1/\dp bs x.1 i=false/\x.1≠i:=λx hx hd hn=>by
  have hne:i≠x.1:=λe=>by rw [e,hd] at hDi;cases hDi
  have h2:dp bs x.1 i=false:=by
   cases hq:dp bs x.1 i
   ·rfl
   ·rw [hD x.1 (hF.mem x hx).1 hd i hq] at hDi;cases hDi
  exact ⟨beside hok ho (hF.mem x hx).2 hne h2 hn,h2,λe=>hne e.symm⟩
 have hsame:bE st (dp bs i) F=bE st (dp bs i) r:=hback _ λk hk=>by
  unfold dp
  have:Nat.blt k i=false:=by
   cases hq:Nat.blt k i
   ·rfl
   ·have:=dW hq;omega
  rw [this];rfl
 obtain ⟨b,hb1,hb2,hb3⟩:=hgo.run
 rw [<-hsame] at hb1 hb2
 have htm:∀ t ∈ o.looksAt ops,(bE st D F).tm.getD t .bT=(bE st (dp bs i) F).tm.getD t .bT:=λt ht=>
  ZV (λx _ h=>hpre _ h) λx hx hd hn he=>(side x hx hd hn).1.yx t he ht
 have hev:∀ x ∈ o.op.operands,(bE st D F).eval x=(bE st (dp bs i) F).eval x:=λx hx=>by
  cases x with
  |tmp t=>
   exact htm t (by
    unfold Oper.looksAt
    exact List.mem_append_left _ (List.mem_filterMap.2 ⟨.tmp t,by simpa using hx,rfl⟩))
  |const v=>rfl
  |global g=>rfl
  |func f=>rfl
 have hown:=hF.own _ hmem
 have hnone:∀ n,k9 (fe i o) n->((bE st (dp bs i) F).hp n=none ↔ (bE st D F).hp n=none):=λn hn=>by
  by_cases hs:st.hp n=none
  ·have:(bE st D F).hp n=(bE st (dp bs i) F).hp n:=Mg (λx _ h=>hpre _ h) λx hx hd hp hin=>by
    obtain ⟨s1,s2,s3⟩:=side x hx hd hp
    rcases hF.names x hx n hin with ⟨h1,_⟩|⟨_,h1|⟨y,hy,h2,h3,h4⟩⟩
    ·exact s1.slot (by unfold k9 at hn h1;omega)
    ·exact h1 hs
    ·by_cases hyi:y.1=i
     ·rw [hyi,s2] at h2;cases h2
     ·exact hF.own y hy h4 i o ho (λe=>hyi e.symm) (by unfold k9 at hn h3;omega)
   rw [this]
  ·exact ⟨λh=>absurd h (zI hs F),λh=>absurd h (zI hs F)⟩
 refine ⟨⟨b,(U8 htm).trans hb1,λhb=> ?_,hb3⟩,?_⟩
 ·obtain ⟨h0,hh⟩:=hb2 hb
  have hfree:∀ n,k9 (fe i o) n->n ∉ hid H i:=λn hn hm=>(rn hh (auV hm)).2 n hm hn
  rw [ao7 hev]
  rcases aGv (Φ:=Φ) o.op with hk|hk
  ·rw [av8 (d:=fe i o) (hp:=aC3 (hid H i) (bE st (dp bs i) F).hp) (λn hn=>by rw [akf (hfree n hn)];exact hnone n hn) hk]
   exact h0
  ·refine ao6 hm (d:=fe i o) (hp:=aC3 (hid H i) (bE st (dp bs i) F).hp) ⟨λc ch hc=> ?_,λn hn h=>(hnone n hn).1 (by rw [akf (hfree n hn)] at h;exact h)⟩ h0
   obtain ⟨hcn,hc⟩:=auU hc
   rw [<-hc]
   refine Mg (λx _ h=>hpre _ h) λx hx hd hp hin=> ?_
   obtain ⟨s1,s2,s3⟩:=side x hx hd hp
   have hk2:eX Φ x.2.1.op≠2:=λe=>by
    have hk0:eX Φ o.op≠0:=by omega
    obtain ⟨_,q2,q3,_⟩:=aC4 hH ho (hF.mem x hx).2 (Ne.symm s3) s2 hp (.inr ⟨e,hk0⟩)
    have hne:x.2.2.upd≠ []:=λhq=>by rw [hq] at hin;simp [bF] at hin
    exact hcn (q3 c ((rn (hF.hid x hx hne) q2).1 c hin).1)
   rcases hF.names x hx c hin with ⟨h1,h2⟩|⟨h1,_⟩
   ·obtain ⟨y,hy,y1,y2,y3⟩:=hF.origin (apd hok hi) h2 F (λ_ h=>h) (by rw [hc];simp)
    by_cases hxy:y.1=x.1
    ·rw [hxy,hp] at y1;cases y1
    ·exact hF.own y hy y3 x.1 x.2.1 (hF.mem x hx).2 (λe=>hxy e.symm) (by unfold k9 at h1 y2;omega)
   ·exact hk2 h1
 ·refine Cr hmem (λx hx he=>hF.aKD x hx _ hmem he) hF.pairwise hDi λx hx hd hlt=> ?_
  have hn:dp bs i x.1=false:=by
   unfold dp
   have:Nat.blt x.1 i=false:=by
    cases hq:Nat.blt x.1 i
    ·rfl
    ·have:=dW hq;omega
   rw [this];rfl
  obtain ⟨s1,s2,s3⟩:=side x hx hd hn
  refine ⟨s1.dd,λm hm1 hm2=> ?_⟩
  have hne:e.upd≠ []:=λhq=>by rw [hq] at hm1;simp [bF] at hm1
  have hne':x.2.2.upd≠ []:=λhq=>by rw [hq] at hm2;simp [bF] at hm2
  have n1:=hF.names _ hmem m hm1
  have n2:=hF.names x hx m hm2
  simp only at n1
  rcases n1 with ⟨a1,a2⟩|⟨a1,a2⟩
  ·rcases n2 with ⟨b1,b2⟩|⟨b1,b2|⟨y,hy,b2,b3,b4⟩⟩
   ·exact s1.slot (by unfold k9 at a1 b1;omega)
   ·exact b2 a2
   ·by_cases hyi:y.1=i
    ·rw [hyi,s2] at b2;cases b2
    ·exact hF.own y hy b4 i o ho (λe=>hyi e.symm) (by unfold k9 at a1 b3;omega)
  ·rcases n2 with ⟨b1,b2⟩|⟨b1,_⟩
   ·rcases a2 with a2|⟨y,hy,a2,a3,a4⟩
    ·exact a2 b2
    ·by_cases hyx:y.1=x.1
     ·rw [hyx] at a2
      rw [hn] at a2;cases a2
     ·exact hF.own y hy a4 x.1 x.2.1 (hF.mem x hx).2 (λe=>hyx e.symm) (by unfold k9 at b1 a3;omega)
   ·obtain ⟨q1,q2,q3,_⟩:=aC4 hH ho (hF.mem x hx).2 (Ne.symm s3) s2 hn (.inl ⟨a1,by rw [b1];decide⟩)
    exact ((rn (hF.hid _ hmem hne) q1).1 m hm1).2 (q3 m ((rn (hF.hid x hx hne') q2).1 m hm2).1)
end
end Sx
end Go.Proofs.YtohjofabochgfaaGreat

namespace Go.Proofs.YtohjofabochgfaaGreat
namespace Sx
open Go
def im (listed:Array Bool) (k:Nat):Bool:=listed.getD k false
theorem ao0 {listed:Array Bool} {i:Nat} (hi:i<listed.size):im (listed.setIfInBounds i true)=λk=>im listed k||Nat.beq k i:=by
 funext k
 unfold im
 by_cases h:k=i
 ·subst h
  simp [hi]
 ·have:Nat.beq k i=false:=by
   cases hq:Nat.beq k i
   ·rfl
   ·exact absurd (Nat.eq_of_beq_eq_true hq) h
  rw [this,Bool.or_false]
  simp [Array.getElem?_setIfInBounds_ne (Ne.symm h)]
theorem dt.drew {R:Ctx} {w:World} (h:dt R w) (n:Nat):dt R {w with drawn:=n}:=by
 refine ⟨h.F,h.U,λc ch hc=> ?_,h.apart,h.FU,h.env⟩
 have:=h.ch c ch hc
 unfold eV at this⊢
 exact this
section
variable {P:Program} {te:TE} {Φ:Env} {ops:Array Oper} {bs:Array Nat} {H:Hid} {st:St}
theorem apJ (hok:gq Φ ops bs=true) {listed:Array Bool} (hs:listed.size=ops.size) (hr:Region.ready .any ops listed= []):∀ k,k<ops.size->im listed k=true:=by
 intro k
 induction k using Nat.strongRecOn with
 |ind k ih=>
  intro hk
  cases hq:im listed k
  ·have:k ∈ Region.ready .any ops listed:=mem_ready.2 ⟨by
    unfold im at hq
    have hk':k<listed.size:=by omega
    simpa [hk'] using hq,ops[k],Array.getElem?_eq_getElem hk,λe he hb=>by
     have:=((V6 hok (Array.getElem?_eq_getElem hk)).1 e he hb).1
     exact ih e.on this (by omega)⟩
   rw [hr] at this
   cases this
  ·rfl
theorem aCr (hte:mZ P te) (hΦ:aQ P Φ) (hmono:ax Φ) (hH:H.1=uD Φ ops bs) (hok:gq Φ ops bs=true) {F:mY} (hF:Good te Φ ops bs H st F) (hl:F.length=ops.size)
 {R₀:Ctx} {K:SE->St->Prop} {Q:Exit->Act->World->Prop} (hK:SR R₀ K Q) (hend:K .normal (bE st (λ_=>true) F)):
 ∀ (fuel:Nat) (listed:Array Bool) (R:Ctx) (a:Act) (w:World),listed.size=ops.size->listed.toList.count false=fuel->ab6 bs F.length (im listed)->R₀.Ext R->
  yr R (bE st (im listed) F) a w->wpAny P .any ops Q fuel listed a w:=by
 have done:∀ (listed:Array Bool) (R:Ctx) (a:Act) (w:World),(∀ k,k<ops.size->im listed k=true)->R₀.Ext R->yr R (bE st (im listed) F) a w->Q .normal a w:=λlisted R a w h hx hst=>by
  rw [nH (D':=λ_=>true) λx hx=>h x.1 (by have:=(hF.mem x hx).1;omega)] at hst
  exact hK.normal R _ a w hx hst hend
 intro fuel
 induction fuel with
 |zero=>
  intro listed R a w hs hc hD hx hst
  have hall:∀ k,k<ops.size->im listed k=true:=λk hk=>by
   have hk':k<listed.size:=by omega
   have h1:=List.count_eq_zero.1 hc
   unfold im
   cases hq:listed[k]
   ·exact absurd (by rw [<-hq];simp) h1
   ·simp [hk',hq]
  refine ⟨?_,done listed R a w hall hx hst⟩
  cases hr:Region.ready .any ops listed with
  |nil=>rfl
  |cons i r=>
   have:i ∈ Region.ready .any ops listed:=by rw [hr];simp
   obtain ⟨h1,o,ho,h2⟩:=mem_ready.1 this
   have hi:i<ops.size:=(Array.getElem?_eq_some_iff.1 ho).1
   have:=hall i hi
   have hi':i<listed.size:=by omega
   unfold im at this
   simp [hi'] at this h1
   rw [this] at h1
   cases h1
 |succ fuel ih=>
  intro listed R a w hs hc hD hx hst
  refine ⟨λhr=>done listed R a w (apJ hok hs hr) hx hst,λi hi=> ?_⟩
  obtain ⟨h1,o,ho,h2⟩:=mem_ready.1 hi
  have hi':i<ops.size:=(Array.getElem?_eq_some_iff.1 ho).1
  have hil:i<listed.size:=by omega
  have hnot:listed[i]=false:=by simpa [hil] using h1
  have hDi:im listed i=false:=by unfold im;simp [hil,hnot]
  have hpre:∀ k,dp bs i k=true->im listed k=true:=λk hk=>by
   obtain ⟨e,he,hb,h3|h3⟩:=((V6 hok ho).2 k hk).2
   ·rw [<-h3];exact h2 e he hb
   ·have h4:=((V6 hok ho).1 e he hb).1
    exact hD e.on (by omega) (h2 e he hb) k h3
  obtain ⟨o',e,ho',hat⟩:=aKA hmono hH hok hF hl hD hi' hDi hpre
  rw [ho] at ho'
  cases ho'
  have hset:=ao0 hil
  have hcount:(listed.setIfInBounds i true).toList.count false=fuel:=by
   rw [Array.toList_setIfInBounds,List.count_set (by simpa using hil)]
   simp [hnot,hc]
  have hclosed:ab6 bs F.length (im (listed.setIfInBounds i true)):=λk hk hd l hpl=>by
   rw [hset] at hd⊢
   simp only [Bool.or_eq_true] at hd⊢
   rcases hd with hd|hd
   ·exact .inl (hD k hk hd l hpl)
   ·rw [Nat.eq_of_beq_eq_true hd] at hpl
    exact .inl (hpre l hpl)
  obtain ⟨b,g1,g2,g3⟩:=hat.guard
  have hw:=yn hst g1
  unfold wpOp
  simp only [ho,hw]
  cases b
  ·simp only [Bool.false_eq_true,if_false]
   refine ih _ R _ _ (by simpa using hs) hcount hclosed hx ?_
   rw [hset,hat.put,g3 rfl]
   exact hst.undef o.dst
  ·simp only [if_true]
   refine .inl (RR hte hΦ hst (g2 rfl) ?_)
   exact λR' w' v ha hv=>ih _ R' _ _ (by simpa using hs) hcount hclosed (hx.trans ha.ext) (by rw [hset,hat.put];exact hst.put ha hv o.dst)
theorem aL (hm:P.follows .mixedOrders=true) (hte:mZ P te) (hΦ:aQ P Φ) (hmono:ax Φ):aW P te Φ:=by
 intro R₀ id ops K Q R st a w hK hx hst hok h
 obtain ⟨F,h1,h2,h3⟩:=Jv (te:=te) (Φ:=Φ) (ops:=ops) (bs:=sn ops) (H:=an4 te Φ ops (sn ops) st) (st:=st) ops.toList [] trivial (λk=>by simp) h
 have hl:F.length=ops.size:=by simpa using h2
 refine wp_region_any hm (aCr hte hΦ hmono auW hok h1 hl hK h3 ops.size _ R a _ (by simp) (by simp) ?_ hx ?_)
 ·intro k _ hd
  unfold im at hd
  simp [Array.getD] at hd
 ·have:bE st (im (Array.replicate ops.size false)) F=st:=by
   rw [nH (D':=λ_=>false) λx hx=>by unfold im;simp [Array.getD]]
   clear h h1 h2 h3 hl
   induction F with
   |nil=>rfl
   |cons y r ih=>exact ih
  rw [this]
  exact ⟨hst.hp,hst.mem.drew _,hst.tm,hst.defers⟩
end
end Sx
end Go.Proofs.YtohjofabochgfaaGreat

namespace Go.Proofs.YtohjofabochgfaaGreat
namespace Sx
open Go
def Gf (ok:Nat->Bool) (t:Ty) (hp:Hp):SV->Option (List t.T)
 |.lst t' xs=>cp t t' xs
 |.emp=>some []
 |.own c e|.clip c e=>match hp c with
  |some ⟨ep,.row t' xs⟩=>cond (Nat.beq ep e&&ok c) (cp t t' xs) none
  |some ⟨ep,.frz t' xs⟩=>cond (Nat.beq ep e) (cp t t' xs) none
  |_=>none
 |.part c e off len=>match hp c with
  |some ⟨ep,.row t' xs⟩=>cond (Nat.beq ep e&&ok c) ((cp t t' xs).map λl=>(l.drop off).take len) none
  |some ⟨ep,.frz t' xs⟩=>cond (Nat.beq ep e) ((cp t t' xs).map λl=>(l.drop off).take len) none
  |_=>none
 |_=>none
def tE (ok:Nat->Bool) (hp:Hp):(t:Ty)->List SV->Option t.T
 |.bool,cs=>auc cs
 |.u64,cs=>aIN cs
 |.u8,cs=>pU8 cs
 |.int,cs=>aIQ cs
 |.str,cs=>aIO cs
 |.elem,cs=>aub cs
 |.prod a b,cs=>q9 (tE ok hp a (cs.take a.size)) (tE ok hp b (cs.drop a.size))
 |.arr n t,cs=>if cs.length=n*t.size then (List.range n).mapM λi=>tE ok hp t ((cs.drop (i*t.size)).take t.size) else none
 |.list t,cs=>if 0<t.size then aCV (Gf ok t hp) cs else none
section
variable {R:Ctx} {w:World} {F':Nat->Option Obj} {ok:Nat->Bool} (hm:dt R w) (hF:∀ b o,R.F b=some o->F' b=some o)
 (hok:∀ c ch L,ok c=true->R.hp c=some ch->R.σ c=some L->F' L.block=w.heap[L.block]?)
include hm hF hok
theorem Ho {c e off len:Nat} {v:Value} {t:Ty} {xs:List t.T} {b:Chunk} (hc:R.hp c=some ⟨e,b⟩) (hb:(b=.row t xs/\ok c=true)\/b=.frz t xs) (h:R.part c e off len v):
 Rep F' (.list t) ((xs.drop off).take len) [v]:=by
 obtain ⟨h1,h2,ad,cap,rfl,h4,h5⟩:=Ctx.di hc h
 have hsh:b.shape=(true,t.size,xs.length):=by rcases hb with ⟨rfl,_⟩|rfl<;>rfl
 rw [hsh] at h2 h5
 simp only at h2 h5
 have hlen:((xs.drop off).take len).length=len:=by simp;omega
 have hch:=hm.ch c _ hc
 have key:∀ (L:Loc) (arr:Array Value) (E:TypeId) (fz:Nat×Nat),R.σ c=some L->xs.length<=cW->F' L.block=some (.cells arr E fz)->arr.size=L.base+L.lim->xs.length*t.size<=L.lim->Wk R arr L.base t xs->
  Rep F' (.list t) ((xs.drop off).take len) [.slice ad len cap]:=λL arr E fz hσ hmx hbk ha hl hrow=>by
  rw [hσ] at h5
  obtain ⟨h6,h7⟩:=h5
  refine ⟨by omega,ad,cap,by rw [hlen],by omega,?_⟩
  by_cases hl0:len=0
  ·left;exact List.eq_nil_of_length_eq_zero (by omega)
  ·right
   have hle:(off+len)*t.size<=xs.length*t.size:=Nat.mul_le_mul_right _ h2
   rw [Nat.add_mul] at hle
   refine ⟨L.block,L.base+off*t.size,arr,E,fz,h7 (by omega),hbk,by rw [hlen];omega,λi hi=> ?_⟩
   rw [hlen] at hi
   have e1:((xs.drop off).take len).getD i t.d=xs.getD (off+i) t.d:=by
    simp only [List.getD_eq_getElem?_getD]
    rw [List.getElem?_take_of_lt hi,List.getElem?_drop]
   rw [e1,Nat.add_assoc,<-Nat.add_mul]
   exact cn hF _ _ _ (hrow _ (by omega))
 cases hσ:R.σ c with
 |none=>
  rw [hσ] at h5
  simp only at h5
  have:(xs.drop off).take len= []:=List.eq_nil_of_length_eq_zero (by omega)
  rw [this]
  have hl0:len=0:=by omega
  subst hl0
  exact uX t ad cap
 |some L=>
  rcases hb with ⟨rfl,hk⟩|rfl
  ·simp only [eV,hσ] at hch
   obtain ⟨_,hmx,_,_,arr,E,hbk,ha,hl,hrow⟩:=hch
   exact key L arr E _ hσ hmx (by rw [hok c _ L hk hc hσ];exact hbk) ha hl hrow
  ·simp only [eV,hσ] at hch
   obtain ⟨_,hmx,arr,E,fz,hbk,ha,hl,hrow⟩:=hch
   exact key L arr E fz hσ hmx (hF _ _ hbk) ha hl hrow
theorem rG {c e:Nat} {t t':Ty} {xs:List t'.T} {ys:List t.T} {v:Value} {b:Chunk} (hc:R.hp c=some ⟨e,b⟩) (hb:(b=.row t' xs/\ok c=true)\/b=.frz t' xs) (hy:cp t t' xs=some ys) (h:R.own c e v):
 Rep F' (.list t) ys [v]:=by
 obtain ⟨e,rfl⟩:=bt hy
 subst e
 have:=Ho hm hF hok hc hb (Ctx.dl hc h)
 have hsh:b.shape=(true,t'.size,xs.length):=by rcases hb with ⟨rfl,_⟩|rfl<;>rfl
 rw [hsh] at this
 simpa using this
theorem Hn {c e off len:Nat} {t t':Ty} {xs:List t'.T} {ys:List t.T} {v:Value} {b:Chunk} (hc:R.hp c=some ⟨e,b⟩) (hb:(b=.row t' xs/\ok c=true)\/b=.frz t' xs)
 (hy:(cp t t' xs).map (λl=>(l.drop off).take len)=some ys) (h:R.part c e off len v):Rep F' (.list t) ys [v]:=by
 cases hr:cp t t' xs with
 |none=>rw [hr] at hy;cases hy
 |some zs=>
  rw [hr] at hy
  cases hy
  obtain ⟨e,rfl⟩:=bt hr
  subst e
  exact Ho hm hF hok hc hb h
theorem aaZ {t:Ty} {x:SV} {ys:List t.T} {v:Value} (h:Gf ok t R.hp x=some ys) (hx:SV.rel R x v):Rep F' (.list t) ys [v]:=by
 cases x<;>simp only [Gf] at h<;>try (cases h;done)
 case lst t' xs=>
  obtain ⟨e,rfl⟩:=bt h
  subst e
  simp only [SV.rel] at hx
  exact cn hF _ _ _ hx
 case emp=>
  cases h
  simp only [SV.rel] at hx
  obtain ⟨ad,rfl⟩:=hx
  exact uX t ad 0
 case own c e=>
  simp only [SV.rel] at hx
  split at h
  ·rename_i ep t' xs hc
   cases hb:Nat.beq ep e&&ok c
   ·rw [hb] at h;cases h
   ·rw [hb] at h
    rw [Bool.and_eq_true] at hb
    have:=Nat.eq_of_beq_eq_true hb.1
    subst this
    exact rG hm hF hok hc (.inl ⟨rfl,hb.2⟩) h hx.2
  ·rename_i ep t' xs hc
   cases hb:Nat.beq ep e
   ·rw [hb] at h;cases h
   ·rw [hb] at h
    have:=Nat.eq_of_beq_eq_true hb
    subst this
    exact rG hm hF hok hc (.inr rfl) h hx.2
  ·cases h
 case clip c e=>
  simp only [SV.rel] at hx
  split at h
  ·rename_i ep t' xs hc
   cases hb:Nat.beq ep e&&ok c
   ·rw [hb] at h;cases h
   ·rw [hb] at h
    rw [Bool.and_eq_true] at hb
    have:=Nat.eq_of_beq_eq_true hb.1
    subst this
    exact rG hm hF hok hc (.inl ⟨rfl,hb.2⟩) h hx.2.1
  ·rename_i ep t' xs hc
   cases hb:Nat.beq ep e
   ·rw [hb] at h;cases h
   ·rw [hb] at h
    have:=Nat.eq_of_beq_eq_true hb
    subst this
    exact rG hm hF hok hc (.inr rfl) h hx.2.1
  ·cases h
 case part c e off len=>
  simp only [SV.rel] at hx
  split at h
  ·rename_i ep t' xs hc
   cases hb:Nat.beq ep e&&ok c
   ·rw [hb] at h;cases h
   ·rw [hb] at h
    rw [Bool.and_eq_true] at hb
    have:=Nat.eq_of_beq_eq_true hb.1
    subst this
    exact Hn hm hF hok hc (.inl ⟨rfl,hb.2⟩) h hx.2
  ·rename_i ep t' xs hc
   cases hb:Nat.beq ep e
   ·rw [hb] at h;cases h
   ·rw [hb] at h
    have:=Nat.eq_of_beq_eq_true hb
    subst this
    exact Hn hm hF hok hc (.inr rfl) h hx.2
  ·cases h
theorem om:∀ (t:Ty) (cs:List SV) (x:t.T) (vs:List Value),tE ok R.hp t cs=some x->SV.bV R cs vs->Rep F' t x vs
 |.bool,cs,x,vs,h,hr=>cn hF _ _ _ (gR hm .bool cs x vs h hr)
 |.u64,cs,x,vs,h,hr=>cn hF _ _ _ (gR hm .u64 cs x vs h hr)
 |.u8,cs,x,vs,h,hr=>cn hF _ _ _ (gR hm .u8 cs x vs h hr)
 |.int,cs,x,vs,h,hr=>cn hF _ _ _ (gR hm .int cs x vs h hr)
 |.str,cs,x,vs,h,hr=>cn hF _ _ _ (gR hm .str cs x vs h hr)
 |.elem,cs,x,vs,h,hr=>cn hF _ _ _ (gR hm .elem cs x vs h hr)
 |.prod a b,cs,x,vs,h,hr=>by
  obtain ⟨h1,h2⟩:=bn h
  have r1:=om a _ _ _ h1 (SV.du hr a.size)
  have r2:=om b _ _ _ h2 (SV.dv hr a.size)
  refine ⟨?_,r1,r2⟩
  rw [<-List.take_append_drop a.size vs,List.length_append,xD _ _ _ r1,xD _ _ _ r2]
 |.arr n t,cs,x,vs,h,hr=>by
  simp only [tE] at h
  split at h
  ·rename_i hl
   obtain ⟨h1,h2⟩:=tN t.d h
   refine ⟨by rw [SV.aV hr,hl],by simpa using h1,λi hi=> ?_⟩
   have:=h2 i (by simpa using hi)
   simp only [List.getElem_range] at this
   exact om t _ _ _ this (SV.du (SV.dv hr (i*t.size)) t.size)
  ·cases h
 |.list t,cs,x,vs,h,hr=>by
  simp only [tE] at h
  split at h
  ·obtain ⟨y,rfl,hy⟩:=pc h
   obtain ⟨v,rfl,hv⟩:=cJ hr
   exact aaZ hm hF hok hy hv
  ·cases h
end
theorem kk {ok:Nat->Bool} {hp:Hp}:∀ {t:Ty} {cs:List SV} {x:t.T},tE ok hp t cs=some x->cs.length=t.size
 |.bool,cs,x,h=>by rw [Q5 h];rfl
 |.u64,cs,x,h=>by rw [Za h];rfl
 |.u8,cs,x,h=>by rw [ajJ h];rfl
 |.int,cs,x,h=>by rw [Zc h];rfl
 |.str,cs,x,h=>by rw [Zb h];rfl
 |.elem,cs,x,h=>by rw [Q4 h];rfl
 |.prod a b,cs,x,h=>by
  obtain ⟨h1,h2⟩:=bn h
  have l1:=kk h1
  have l2:=kk h2
  simp only [List.length_take,List.length_drop] at l1 l2
  simp only [Ty.size]
  omega
 |.arr n t,cs,x,h=>by
  simp only [tE] at h
  split at h
  ·assumption
  ·cases h
 |.list t,cs,x,h=>by
  simp only [tE] at h
  split at h
  ·obtain ⟨y,rfl,_⟩:=pc h
   rfl
  ·cases h
end Sx
end Go.Proofs.YtohjofabochgfaaGreat

namespace Go.Proofs.YtohjofabochgfaaGreat
namespace Sx
open Go
inductive Sh where
 |val (b:Bool) (t:Ty)
 |own (n:Nat)
 |ptr (n i off:Nat)
 |fn (f:FuncId) (ns:List Nat)
 |ifp (t:TypeId) (n:Nat)
 |mix (a:Ty) (n:Nat) (b:Ty)
 |rb|eF|undef
def Sh.T:Sh->Type
 |.val _ t=>t.T
 |.mix a _ b=>a.T×(Unit×b.T)
 |_=>Unit
inductive CSh where
 |row (t:Ty)
 |frz (t:Ty)
 |cells (l:List Sh)
 |gone
def ShT:List Sh->Type
 | []=>Unit
 |s::r=>s.T×ShT r
def CSh.T:CSh->Type
 |.row t=>List t.T
 |.frz t=>List t.T
 |.cells l=>ShT l
 |.gone=>Unit
def CSh.ep:CSh->Nat
 |.gone=>1
 |_=>0
def CSh.pq:CSh->Bool
 |.gone=>true
 |_=>false
def OY:List (Nat×CSh)->Type
 | []=>Unit
 |c::r=>c.2.T×OY r
def SlT:List (Nat×Sh)->Type
 | []=>Unit
 |c::r=>c.2.T×SlT r
abbrev Bd:=List (Nat×Option Nat)
def dI:Bd->Nat->Option (Option Nat)
 | [],_=>none
 |(m,o)::r,n=>cond (Nat.beq m n) (some o) (dI r n)
def Wc (b:Bd) (n:Nat) (o:Option Nat):Bd:=match dI b n with
 |some _=>b
 |none=>(n,o)::b
def Jb:List Nat->List SV->Bd->Bd
 |n::ns,.ptr c _ _ _::r,b=>Jb ns r (Wc b n (some c))
 |_,_,b=>b
def aJI (n:Nat) (x:SV) (b:Bd):Bd:=match x with
 |.own c _=>Wc b n (some c)
 |.emp=>Wc b n none
 |_=>b
def V9:Sh->SV->Bd->Bd
 |.own n,.own c _,b=>Wc b n (some c)
 |.own n,.emp,b=>Wc b n none
 |.ptr n _ _,.ptr c _ _ _,b=>Wc b n (some c)
 |.fn _ ns,.fn _ _ caps,b=>Jb ns caps b
 |.ifp _ n,.iface _ (.ptr c _ _ _),b=>Wc b n (some c)
 |.mix t n _,.agg cs,b=>aJI n (cs.getD t.size .bT) b
 |_,_,b=>b
def Sh.size:Sh->Nat
 |.val _ t=>t.size
 |.mix a _ b=>a.size+1+b.size
 |_=>1
def pT:List Sh->List SV->Bd->Bd
 |s::r,cs,b=>pT r (cs.drop s.size) (V9 s (cs.headD .bT) b)
 | [],_,b=>b
def aa9 (tm:List SV):List (Nat×Sh)->Bd->Bd
 |(i,s)::r,b=>aa9 tm r (V9 s (tm.getD i .bT) b)
 | [],b=>b
def fG (hp:Hp):List (Nat×CSh)->Bd->Bd
 |(n,.cells l)::r,b=>fG hp r (match dI b n with
  |some (some c)=>match hp c with
   |some ⟨_,.cells vs⟩=>pT l vs b
   |_=>b
  |_=>b)
 |_::r,b=>fG hp r b
 | [],b=>b
def Fz (bd:Bd) (hp:Hp) (n c e:Nat):Bool:=match dI bd n with
 |some (some c')=>Nat.beq c' c&&(match hp c with
  |some ch=>Nat.beq ch.ep e
  |none=>false)
 |_=>false
def LV (bd:Bd) (n:Nat):Bool:=match dI bd n with
 |some none=>true
 |_=>false
def Ac (bd:Bd) (hp:Hp):List Nat->List SV->Bool
 | [],[]=>true
 |n::ns,.ptr c e i off::r=>Fz bd hp n c e&&Nat.beq i 0&&Nat.beq off 0&&Ac bd hp ns r
 |_,_=>false
def Lc (b:Bool):Option Unit:=cond b (some ()) none
def k6 (bd:Bd) (hp:Hp):Sh->List SV->Bool
 |.own n,[.own c e]=>Fz bd hp n c e
 |.own n,[.emp]=>LV bd n
 |.ptr n i off,[.ptr c e i' off']=>Fz bd hp n c e&&Nat.beq i i'&&Nat.beq off off'
 |.fn f ns,[.fn (.func f') [] caps]=>Nat.beq f f'&&Ac bd hp ns caps
 |.ifp t n,[.iface t' (.ptr c e i off)]=>Nat.beq t t'&&(Fz bd hp n c e&&(Nat.beq i 0&&Nat.beq off 0))
 |.rb,[.rb]=>true
 |.eF,[.eF]=>true
 |.undef,[.undef]=>true
 |_,_=>false
def tz (bd:Bd) (ok:Nat->Bool) (hp:Hp):(s:Sh)->List SV->Option s.T
 |.val _ t=>λcs=>tE ok hp t cs
 |.own n=>λcs=>Lc (k6 bd hp (.own n) cs)
 |.ptr n i off=>λcs=>Lc (k6 bd hp (.ptr n i off) cs)
 |.fn f ns=>λcs=>Lc (k6 bd hp (.fn f ns) cs)
 |.ifp t n=>λcs=>Lc (k6 bd hp (.ifp t n) cs)
 |.mix a n b=>λcs=>q9 (tE ok hp a (cs.take a.size)) (q9 (Lc (k6 bd hp (.own n) ((cs.drop a.size).take 1))) (tE ok hp b ((cs.drop a.size).drop 1)))
 |.rb=>λcs=>Lc (k6 bd hp .rb cs)
 |.eF=>λcs=>Lc (k6 bd hp .eF cs)
 |.undef=>λcs=>Lc (k6 bd hp .undef cs)
def pu:(s:Sh)->s.T->List SV
 |.val _ t,x=>unpack t x
 |.own n,_=> [.own n 0]
 |.ptr n i off,_=> [.ptr n 0 i off]
 |.fn f ns,_=> [.fn (.func f) [] (ns.map λn=>.ptr n 0 0 0)]
 |.ifp t n,_=> [.iface t (.ptr n 0 0 0)]
 |.mix a n b,x=>unpack a x.1++([.own n 0]++unpack b x.2.2)
 |.rb,_=> [.rb]
 |.eF,_=> [.eF]
 |.undef,_=> [.undef]
def Sh.agg:Sh->Bool
 |.val b _=>b
 |.mix .. =>true
 |_=>false
def Xc:Bool->SV->Option (List SV)
 |true,.agg l=>some l
 |true,_=>none
 |false,x=>some [x]
def E9 (bd:Bd) (ok:Nat->Bool) (hp:Hp) (s:Sh) (x:SV):Option s.T:=
 match Xc s.agg x with
 |some l=>tz bd ok hp s l
 |none=>none
def tQ (s:Sh) (x:s.T):SV:=sr s.agg (pu s x)
def nu (bd:Bd) (ok:Nat->Bool) (hp:Hp):(l:List Sh)->List SV->Option (ShT l)
 | [],[]=>some ()
 | [],_::_=>none
 |s::r,cs=>q9 (tz bd ok hp s (cs.take s.size)) (nu bd ok hp r (cs.drop s.size))
def k8:(l:List Sh)->ShT l->List SV
 | [],_=> []
 |s::r,x=>pu s x.1++k8 r x.2
def wm (bd:Bd) (ok:Nat->Bool) (hp:Hp) (tm:List SV):(l:List (Nat×Sh))->Option (SlT l)
 | []=>some ()
 |c::r=>q9 (E9 bd ok hp c.2 (tm.getD c.1 .bT)) (wm bd ok hp tm r)
def fM:(l:List (Nat×Sh))->SlT l->List SV->List SV
 | [],_,tm=>tm
 |c::r,x,tm=>fM r x.2 (tm.set c.1 (tQ c.2 x.1))
def iR (bd:Bd) (ok:Nat->Bool) (hp:Hp):(s:CSh)->Chunk->Option s.T
 |.row t,.row t' xs=>cp t t' xs
 |.row _,_=>none
 |.frz t,.frz t' xs=>cp t t' xs
 |.frz _,_=>none
 |.cells l,.cells vs=>nu bd ok hp l vs
 |.cells _,_=>none
 |.gone,_=>none
def L3:(s:CSh)->Option s.T
 |.gone=>some ()
 |_=>none
def UC:(s:CSh)->Option s.T
 |.row t=>cond (Nat.blt 0 t.size) (some ([]:List t.T)) none
 |_=>none
def bY:(s:CSh)->s.T->Chunk
 |.row t,xs=>.row t xs
 |.frz t,xs=>.frz t xs
 |.cells l,x=>.cells (k8 l x)
 |.gone,_=>.row .u8 []
def kM (bd:Bd) (ok:Nat->Bool) (hp:Hp) (n:Nat) (s:CSh):Option s.T:=
 match dI bd n with
 |some (some c)=>match hp c with
  |some ch=>iR bd ok hp s ch.body
  |none=>none
 |some none=>UC s
 |none=>L3 s
def eP (bd:Bd) (ok:Nat->Bool) (hp:Hp):(l:List (Nat×CSh))->Option (OY l)
 | []=>some ()
 |c::r=>q9 (kM bd ok hp c.1 c.2) (eP bd ok hp r)
def dq:(l:List (Nat×CSh))->OY l->Hp
 | [],_=>λ_=>none
 |c::r,x=>λn=>cond (Nat.beq n c.1) (some ⟨c.2.ep,bY c.2 x.1⟩) (dq r x.2 n)
def aGw (c:Nat) (p:Nat×Option Nat):Bool:=match p.2 with
 |some o=>Nat.beq o c
 |none=>false
def ua (lists:Bool) (bd:Bd) (c:Nat):Bool:=lists&& !(bd.any (aGw c))
structure Shape where
 n:Nat
 azG:List (Nat×Sh)
 chunks:List (Nat×CSh)
 fixed:Nat
 lists:Bool:=true
abbrev Shape.T (s:Shape):Type:=SlT s.azG×OY s.chunks
def Shape.inj (s:Shape) (x:s.T):St:=⟨fM s.azG x.1 (List.replicate s.n .bT),dq s.chunks x.2⟩
def Shape.bd (s:Shape) (st:St):Bd:=fG st.hp s.chunks (aa9 st.tm s.azG (((List.range s.fixed).filter λk=> !(s.chunks.any λc=>Nat.beq c.1 k&&c.2.pq)).map λk=>(k,some k)))
def distinct:List Nat->Bool
 | []=>true
 |x::r=> !(r.any λy=>Nat.beq x y)&&distinct r
def Shape.Jd (s:Shape) (st:St) (bd:Bd):Bool:=
 distinct (s.chunks.map (·.1))&&
 s.chunks.all (λc=>s.chunks.all λc'=>Nat.beq c.1 c'.1||(match dI bd c.1,dI bd c'.1 with
  |some (some o),some (some o')=> !Nat.beq o o'
  |_,_=>true))&&
 bd.all (λp=>s.chunks.any λc=>Nat.beq c.1 p.1)&&
 (List.range s.fixed).all λk=>(match dI bd k with
  |some (some c)=>Nat.beq c k&&(match st.hp k with
   |some ch=>Nat.beq ch.ep 0
   |none=>false)
  |some none=>false
  |none=>s.chunks.any λc=>Nat.beq c.1 k&&c.2.pq)
def Shape.prj (s:Shape) (st:St):Option s.T:=
 let bd:=s.bd st
 cond (s.Jd st bd&&Nat.beq st.tm.length s.n) (q9 (wm bd (ua s.lists bd) st.hp st.tm s.azG) (eP bd (ua s.lists bd) st.hp s.chunks)) none
def Shape.on (s:Shape) (st:St) (k:s.T->Prop):Prop:=match s.prj st with
 |some x=>k x
 |none=>False
end Sx
end Go.Proofs.YtohjofabochgfaaGreat

namespace Go.Proofs.YtohjofabochgfaaGreat
namespace Sx
open Go
theorem gE {b:Bool} {x:Unit} (h:Lc b=some x):b=true:=by
 cases b
 ·cases h
 ·rfl
theorem eY {bd:Bd} {hp:Hp} {s:Sh} {cs:List SV} (h:k6 bd hp s cs=true):∃ y,cs= [y]:=by
 unfold k6 at h
 split at h<;>first|exact ⟨_,rfl⟩|(cases h;done)
theorem Un {bd:Bd} {ok:Nat->Bool} {hp:Hp} {s:Sh} {cs:List SV} {x:s.T} (h:tz bd ok hp s cs=some x):(pu s x).length=cs.length:=by
 cases s<;>simp only [tz] at h
 case val b t=>rw [kk h];exact gn t x
 case mix a n b=>
  obtain ⟨h1,h2⟩:=bn h
  obtain ⟨h3,h4⟩:=bn h2
  have l1:=kk h1
  have l4:=kk h4
  obtain ⟨y,hy⟩:=eY (gE h3)
  have l3:=congrArg List.length hy
  simp only [pu,List.length_append,gn,List.length_take,List.length_drop,List.length_cons,List.length_nil] at l1 l3 l4⊢
  omega
 all_goals (obtain ⟨y,rfl⟩:=eY (gE h);rfl)
theorem mi {bd:Bd} {ok:Nat->Bool} {hp:Hp}:∀ {l:List Sh} {cs:List SV} {x:ShT l},nu bd ok hp l cs=some x->(k8 l x).length=cs.length
 | [],[],_,_=>rfl
 | [],_::_,_,h=>by cases h
 |s::r,cs,x,h=>by
  obtain ⟨h1,h2⟩:=bn h
  have l1:=Un h1
  have l2:=mi h2
  simp only [k8,List.length_append,l1,l2,List.length_take,List.length_drop]
  omega
theorem yh {bd:Bd} {ok:Nat->Bool} {hp:Hp} {s:CSh} {b:Chunk} {y:s.T} (h:iR bd ok hp s b=some y):(bY s y).shape=b.shape:=by
 cases s<;>cases b<;>simp only [iR] at h<;>first|(cases h;done)|skip
 case row.row t t' xs=>
  obtain ⟨e,rfl⟩:=bt h
  subst e
  rfl
 case frz.frz t t' xs=>
  obtain ⟨e,rfl⟩:=bt h
  subst e
  rfl
 case cells.cells l vs=>
  simp only [bY,Chunk.shape,mi h]
theorem dE {bd:Bd} {ok:Nat->Bool} {hp:Hp}:∀ {l:List (Nat×CSh)} {x:OY l},eP bd ok hp l=some x->∀ {n:Nat} {ch:Ch},dq l x n=some ch->
 ∃ (s:CSh) (y:s.T),(n,s) ∈ l/\kM bd ok hp n s=some y/\ch=⟨s.ep,bY s y⟩
 | [],_,_,_,_,h=>by cases h
 |c::r,x,h,n,ch,hn=>by
  obtain ⟨h1,h2⟩:=bn h
  simp only [dq] at hn
  cases hb:Nat.beq n c.1
  ·rw [hb] at hn
   obtain ⟨s,y,h3,h4⟩:=dE h2 hn
   exact ⟨s,y,List.mem_cons_of_mem _ h3,h4⟩
  ·rw [hb] at hn
   have hnc:=Nat.eq_of_beq_eq_true hb
   subst hnc
   exact ⟨c.2,x.1,by simp,h1,(Option.some.inj hn).symm⟩
theorem tR:∀ {l:List (Nat×CSh)} {x:OY l} {n:Nat},(∃ s,(n,s) ∈ l)->∃ ch,dq l x n=some ch
 | [],_,_,h=>by obtain ⟨_,h⟩:=h;cases h
 |c::r,x,n,h=>by
  simp only [dq]
  cases hb:Nat.beq n c.1
  ·obtain ⟨s,h⟩:=h
   rcases List.mem_cons.1 h with h|h
   ·rw [<-h,Nat.beq_refl] at hb;cases hb
   ·exact tR ⟨s,h⟩
  ·exact ⟨_,rfl⟩
theorem abj:∀ {bd:Bd} {n:Nat} {o:Option Nat},dI bd n=some o->∃ p ∈ bd,p.1=n
 | [],_,_,h=>by cases h
 |(m,o')::r,n,o,h=>by
  simp only [dI] at h
  cases hb:Nat.beq m n
  ·rw [hb] at h
   obtain ⟨p,hp,h1⟩:=abj h
   exact ⟨p,by simp [hp],h1⟩
  ·exact ⟨(m,o'),by simp,Nat.eq_of_beq_eq_true hb⟩
def Ctx.named (R:Ctx) (F':Nat->Option Obj) (U':abr) (bd:Bd) (hp:Hp):Ctx:=⟨F',U',λn=>match dI bd n with
 |some (some c)=>R.σ c
 |_=>none,hp⟩
section
variable {s:Shape} {R:Ctx} {st:St} {bd:Bd} {ok:Nat->Bool} {F':Nat->Option Obj} {U':abr} {x:OY s.chunks} (hok:s.Jd st bd=true) (hx:eP bd ok st.hp s.chunks=some x) (hR:R.hp=st.hp)
include hok hx
theorem Wb {n:Nat} {o:Option Nat} (h:dI bd n=some o):∃ (cs:CSh) (y:cs.T),kM bd ok st.hp n cs=some y/\dq s.chunks x n=some ⟨0,bY cs y⟩:=by
 obtain ⟨p,hp,rfl⟩:=abj h
 unfold Shape.Jd at hok
 simp only [Bool.and_eq_true,List.all_eq_true,List.any_eq_true] at hok
 obtain ⟨c,hc,hcn⟩:=hok.1.2 p hp
 have:=Nat.eq_of_beq_eq_true hcn
 obtain ⟨ch,hch⟩:=tR (x:=x) (n:=p.1) ⟨c.2,by rw [<-this];exact hc⟩
 obtain ⟨cs,y,h1,h2,h3⟩:=dE hx hch
 refine ⟨cs,y,h2,?_⟩
 rw [hch,h3]
 have:cs.ep=0:=by
  cases cs<;>try rfl
  simp only [kM,h] at h2
  exfalso
  split at h2
  ·rename_i heq
   split at h2<;>simp [iR] at h2
  ·simp [UC] at h2
  ·rename_i heq
   cases heq
 rw [this]
theorem UA {n c e:Nat} (h:Fz bd st.hp n c e=true):∃ b b',st.hp c=some ⟨e,b⟩/\dq s.chunks x n=some ⟨0,b'⟩/\b'.shape=b.shape/\(R.named F' U' bd (dq s.chunks x)).σ n=R.σ c:=by
 unfold Fz at h
 split at h
 ·rename_i c' hb
  rw [Bool.and_eq_true] at h
  have:=Nat.eq_of_beq_eq_true h.1
  subst this
  have h2:=h.2
  split at h2
  ·rename_i ch hch
   have he:=Nat.eq_of_beq_eq_true h2
   obtain ⟨cs,y,h3,h4⟩:=Wb hok hx hb
   simp only [kM,hb,hch] at h3
   exact ⟨ch.body,_,by rw [hch,<-he],h4,yh h3,by simp only [Ctx.named,hb]⟩
  ·cases h2
 ·cases h
theorem Q6 {n:Nat} {ad:Option Addr} (h:LV bd n=true):(R.named F' U' bd (dq s.chunks x)).own n 0 (.slice ad 0 0):=by
 unfold LV at h
 split at h
 ·rename_i hb
  obtain ⟨cs,y,h3,h4⟩:=Wb hok hx hb
  simp only [kM,hb] at h3
  cases cs<;>simp only [UC] at h3<;>try (cases h3;done)
  case row t=>
   cases hz:Nat.blt 0 t.size
   ·rw [hz] at h3;cases h3
   ·rw [hz] at h3
    cases h3
    refine ⟨_,h4,Nat.le_refl _,λ_=>⟨_,h4,Nat.le_refl _,λ_=> ?_⟩⟩
    refine ⟨rfl,Nat.le_refl _,ad,0,rfl,Nat.le_refl _,?_⟩
    simp only [Ctx.named,hb]
 ·cases h
include hR
theorem aud {n c e:Nat} {v:Value} (h:Fz bd st.hp n c e=true) (hv:R.own c e v):(R.named F' U' bd (dq s.chunks x)).own n 0 v:=by
 obtain ⟨b,b',h1,h2,h3,h4⟩:=UA (R:=R) hok hx h
 obtain ⟨h5,h6,ad,cap,h7,h8,h9⟩:=Ctx.di (b:=b) (by rw [hR];exact h1) (Ctx.dl (by rw [hR];exact h1) hv)
 refine ⟨_,h2,Nat.le_refl _,λ_=>⟨_,h2,Nat.le_refl _,λ_=> ?_⟩⟩
 rw [h4]
 simp only [h3]
 exact ⟨h5,h6,ad,cap,h7,h8,h9⟩
theorem adV {n c e i off:Nat} {v:Value} (h:Fz bd st.hp n c e=true) (hv:R.ptr c e i off v):(R.named F' U' bd (dq s.chunks x)).ptr n 0 i off v:=by
 obtain ⟨b,b',h1,h2,h3,h4⟩:=UA (R:=R) hok hx h
 obtain ⟨ch,g1,g2,g3⟩:=hv
 rw [hR,h1] at g1
 cases g1
 obtain ⟨L,g4,g5⟩:=g3 rfl
 refine ⟨_,h2,Nat.le_refl _,λ_=>⟨L,by rw [h4];exact g4,?_⟩⟩
 simp only [h3]
 exact g5
theorem ajz:∀ (ns:List Nat) (caps:List SV) (us:List Value),Ac bd st.hp ns caps=true->SV.bV R caps us->SV.bV (R.named F' U' bd (dq s.chunks x)) (ns.map λn=>.ptr n 0 0 0) us
 | [],[],us,_,h=>h
 | [],_::_,_,h,_=>by cases h
 |n::ns,[],_,h,_=>by cases h
 |n::ns,y::r,us,h,hr=>by
  cases y<;>simp only [Ac] at h<;>try (cases h;done)
  case ptr c e i off=>
   simp only [Bool.and_eq_true] at h
   obtain ⟨⟨⟨h1,h2⟩,h3⟩,h4⟩:=h
   have e1:=Nat.eq_of_beq_eq_true h2
   have e2:=Nat.eq_of_beq_eq_true h3
   subst e1 e2
   simp only [SV.bV] at hr
   obtain ⟨v,us',rfl,hv,hr⟩:=hr
   simp only [SV.rel] at hv
   simp only [List.map_cons,SV.bV]
   exact ⟨v,us',rfl,by simp only [SV.rel];exact ⟨hv.1,adV hok hx hR h1 hv.2⟩,ajz ns r us' h4 hr⟩
theorem Fa {w:World} (hm:dt R w) (hF:∀ b o,R.F b=some o->F' b=some o) (hok':∀ c ch L,ok c=true->R.hp c=some ch->R.σ c=some L->F' L.block=w.heap[L.block]?) {sh:Sh} {cs:List SV} {y:sh.T} {us:List Value} (h:tz bd ok st.hp sh cs=some y) (hr:SV.bV R cs us):SV.bV (R.named F' U' bd (dq s.chunks x)) (pu sh y) us:=by
 cases sh<;>simp only [tz] at h
 case val b t=>
  rw [<-hR] at h
  exact eJ t y us (om hm hF hok' t cs y us h hr)
 case own n=>
  replace h:=gE h
  obtain ⟨z,rfl⟩:=eY h
  obtain ⟨v,rfl,hv⟩:=cJ hr
  cases z<;>simp only [k6,Bool.false_eq_true] at h
  case own c e=>
   simp only [SV.rel] at hv
   exact bg (by simp only [SV.rel];exact ⟨hv.1,aud hok hx hR h hv.2⟩)
  case emp=>
   simp only [SV.rel] at hv
   obtain ⟨ad,rfl⟩:=hv
   exact bg (by simp only [SV.rel];exact ⟨rfl,Q6 hok hx h⟩)
 case mix a n b=>
  obtain ⟨h1,h2⟩:=bn h
  obtain ⟨h3,h4⟩:=bn h2
  have r1:=SV.du hr a.size
  have r2:=SV.dv hr a.size
  have r3:=SV.du r2 1
  have r4:=SV.dv r2 1
  have ho:=gE h3
  obtain ⟨z,hz⟩:=eY ho
  rw [hz] at ho r3
  obtain ⟨v,hv1,hv⟩:=cJ r3
  rw [<-hR] at h1 h4
  have q1:SV.bV (R.named F' U' bd (dq s.chunks x)) (unpack a y.1) (us.take a.size):=eJ a y.1 _ (om hm hF hok' a _ y.1 _ h1 r1)
  have q4:SV.bV (R.named F' U' bd (dq s.chunks x)) (unpack b y.2.2) ((us.drop a.size).drop 1):=eJ b y.2.2 _ (om hm hF hok' b _ y.2.2 _ h4 r4)
  have q3:SV.bV (R.named F' U' bd (dq s.chunks x)) [.own n 0] ((us.drop a.size).take 1):=by
   rw [hv1]
   cases z<;>simp only [k6,Bool.false_eq_true] at ho
   case own c e=>
    simp only [SV.rel] at hv
    exact bg (by simp only [SV.rel];exact ⟨hv.1,aud hok hx hR ho hv.2⟩)
   case emp=>
    simp only [SV.rel] at hv
    obtain ⟨ad,rfl⟩:=hv
    exact bg (by simp only [SV.rel];exact ⟨rfl,Q6 hok hx ho⟩)
  have:=SV.cq q1 (SV.cq q3 q4)
  rw [List.take_append_drop,List.take_append_drop] at this
  exact this
 case ptr n i off=>
  replace h:=gE h
  obtain ⟨z,rfl⟩:=eY h
  obtain ⟨v,rfl,hv⟩:=cJ hr
  cases z<;>simp only [k6,Bool.false_eq_true,Bool.and_eq_true] at h
  case ptr c e i' off'=>
   obtain ⟨⟨h1,h2⟩,h3⟩:=h
   have e1:=Nat.eq_of_beq_eq_true h2
   have e2:=Nat.eq_of_beq_eq_true h3
   subst e1 e2
   simp only [SV.rel] at hv
   exact bg (by simp only [SV.rel];exact ⟨hv.1,adV hok hx hR h1 hv.2⟩)
 case fn f ns=>
  replace h:=gE h
  obtain ⟨z,rfl⟩:=eY h
  obtain ⟨v,rfl,hv⟩:=cJ hr
  cases z<;>try (simp only [k6,Bool.false_eq_true] at h;done)
  case fn g first caps=>
   cases g with
   |func f'=>
    cases first with
    |nil=>
     simp only [k6,Bool.and_eq_true] at h
     have e1:=Nat.eq_of_beq_eq_true h.1
     subst e1
     simp only [SV.rel] at hv
     obtain ⟨l1,l2,rfl,h3,h4⟩:=hv
     exact bg (by simp only [SV.rel];exact ⟨l1,l2,rfl,h3,ajz hok hx hR ns _ l2 h.2 h4⟩)
    |cons a b=>simp [k6] at h
   |_=>simp [k6] at h
 case ifp t n=>
  replace h:=gE h
  obtain ⟨z,rfl⟩:=eY h
  obtain ⟨v,rfl,hv⟩:=cJ hr
  cases z<;>try (simp only [k6,Bool.false_eq_true] at h;done)
  case iface t' q=>
   cases q<;>try (simp only [k6,Bool.false_eq_true] at h;done)
   case ptr c e i off=>
    simp only [k6,Bool.and_eq_true] at h
    obtain ⟨h0,h1,h2,h3⟩:=h
    have e0:=Nat.eq_of_beq_eq_true h0
    have e1:=Nat.eq_of_beq_eq_true h2
    have e2:=Nat.eq_of_beq_eq_true h3
    subst e0 e1 e2
    simp only [SV.rel] at hv
    obtain ⟨y,rfl,hy⟩:=hv
    exact bg (by simp only [SV.rel];exact ⟨y,rfl,hy.1,adV hok hx hR h1 hy.2⟩)
 all_goals (
  replace h:=gE h
  obtain ⟨z,rfl⟩:=eY h
  obtain ⟨v,rfl,hv⟩:=cJ hr
  cases z<;>simp only [k6,Bool.false_eq_true] at h
  simp only [SV.rel] at hv
  exact bg (by simp only [SV.rel];exact hv))
theorem Hb {w:World} (hm:dt R w) (hF:∀ b o,R.F b=some o->F' b=some o) (hok':∀ c ch L,ok c=true->R.hp c=some ch->R.σ c=some L->F' L.block=w.heap[L.block]?):∀ {l:List Sh} {cs:List SV} {y:ShT l} {us:List Value},nu bd ok st.hp l cs=some y->SV.bV R cs us->SV.bV (R.named F' U' bd (dq s.chunks x)) (k8 l y) us
 | [],[],_,_,_,hr=>hr
 | [],_::_,_,_,h,_=>by cases h
 |sh::r,cs,y,us,h,hr=>by
  obtain ⟨h1,h2⟩:=bn h
  have r1:=Fa (U':=U') hok hx hR hm hF hok' h1 (SV.du hr sh.size)
  have r2:=Hb hm hF hok' h2 (SV.dv hr sh.size)
  have:=SV.cq r1 r2
  rwa [List.take_append_drop] at this
theorem ad1 {w:World} (hm:dt R w) (hF:∀ b o,R.F b=some o->F' b=some o) (hok':∀ c ch L,ok c=true->R.hp c=some ch->R.σ c=some L->F' L.block=w.heap[L.block]?) {sh:Sh} {z:SV} {y:sh.T} {v:Value} (h:E9 bd ok st.hp sh z=some y) (hr:SV.rel R z v):SV.rel (R.named F' U' bd (dq s.chunks x)) (tQ sh y) v:=by
 unfold E9 at h
 unfold tQ
 cases ha:sh.agg<;>rw [ha] at h
 ·have h1:=Fa (U':=U') hok hx hR hm hF hok' h (bg hr)
  simp only [sr,Bool.false_eq_true,if_false]
  cases hc:pu sh y with
  |nil=>rw [hc] at h1;simp only [SV.bV] at h1;cases h1
  |cons u l=>
   rw [hc] at h1
   simp only [SV.bV] at h1
   obtain ⟨v',r,he,h2,_⟩:=h1
   cases he
   exact h2
 ·cases z<;>simp only [Xc] at h<;>try (cases h;done)
  case agg l=>
   simp only [SV.rel] at hr
   obtain ⟨vs,rfl,h1,h2⟩:=hr
   exact B5 (Fa hok hx hR hm hF hok' h h1) h2
theorem ij {w:World} (hm:dt R w) (hF:∀ b o,R.F b=some o->F' b=some o) (hok':∀ c ch L,ok c=true->R.hp c=some ch->R.σ c=some L->F' L.block=w.heap[L.block]?) {tmps:List Value} (ht:SV.bV R st.tm tmps):∀ {l:List (Nat×Sh)} {y:SlT l} {tm:List SV},wm bd ok st.hp st.tm l=some y->
 SV.bV (R.named F' U' bd (dq s.chunks x)) tm tmps->SV.bV (R.named F' U' bd (dq s.chunks x)) (fM l y tm) tmps
 | [],_,_,_,h=>h
 |c::r,y,tm,h,htm=>by
  obtain ⟨h1,h2⟩:=bn h
  simp only [fM]
  refine ij hm hF hok' ht h2 ?_
  by_cases hc:c.1<st.tm.length
  ·have hl:=SV.aV ht
   have hc':c.1<tmps.length:=by omega
   have hv:=SV.m8 ht c.1 hc hc'
   have hg:st.tm.getD c.1 .bT=st.tm[c.1]:=by simp [List.getD_eq_getElem?_getD,List.getElem?_eq_getElem hc]
   rw [hg] at h1
   have h3:=SV.ai6 htm c.1 (ad1 hok hx hR hm hF hok' h1 hv)
   rwa [List.set_getElem_self] at h3
  ·have:tm.length=st.tm.length:=by rw [<-SV.aV htm,<-SV.aV ht]
   rw [List.set_eq_of_length_le (by omega)]
   exact htm
end
end Sx
end Go.Proofs.YtohjofabochgfaaGreat

namespace Go.Proofs.YtohjofabochgfaaGreat
namespace Sx
open Go
theorem Ha {bd:Bd} {ok:Nat->Bool} {hp:Hp} {s:CSh} {b:Chunk} {y:s.T} (h:iR bd ok hp s b=some y):(bY s y).mut=b.mut:=by
 cases s<;>cases b<;>simp only [iR] at h<;>first|(cases h;done)|rfl
theorem lq:∀ {bd:Bd} {n:Nat} {o:Option Nat},dI bd n=some o->(n,o) ∈ bd
 | [],_,_,h=>by cases h
 |(m,o')::r,n,o,h=>by
  simp only [dI] at h
  cases hb:Nat.beq m n
  ·rw [hb] at h
   exact List.mem_cons_of_mem _ (lq h)
  ·rw [hb] at h
   have:=Nat.eq_of_beq_eq_true hb
   subst this
   cases h
   simp
theorem Rx {l:Bool} {bd:Bd} {n c:Nat} (h:dI bd n=some (some c)):ua l bd c=false:=by
 have hm:=lq h
 unfold ua
 have:bd.any (aGw c)=true:=List.any_eq_true.2 ⟨_,hm,by simp [aGw]⟩
 rw [this]
 cases l<;>rfl
open Classical in
noncomputable def Ctx.frozen (R:Ctx) (w:World) (ok:Nat->Bool):Nat->Option Obj:=λb=>
 if ∃ c ch L,ok c=true/\R.hp c=some ch/\R.σ c=some L/\L.block=b then w.heap[b]? else R.F b
theorem Vb {R:Ctx} {w:World} (hm:dt R w) (ok:Nat->Bool):∀ b o,R.F b=some o->R.frozen w ok b=some o:=λb o h=>by
 unfold Ctx.frozen
 split
 ·exact hm.F b o h
 ·exact h
theorem aeR {R:Ctx} {w:World} (hm:dt R w) (ok:Nat->Bool):∀ b o,R.frozen w ok b=some o->w.heap[b]? =some o:=λb o h=>by
 unfold Ctx.frozen at h
 split at h
 ·exact h
 ·exact hm.F b o h
theorem ZM {R:Ctx} (w:World) (ok:Nat->Bool):∀ c ch L,ok c=true->R.hp c=some ch->R.σ c=some L->R.frozen w ok L.block=w.heap[L.block]? :=λc ch L h1 h2 h3=>by
 unfold Ctx.frozen
 rw [if_pos ⟨c,ch,L,h1,h2,h3,rfl⟩]
theorem eD {R:Ctx} {w:World} (hm:dt R w) {c:Nat} {ch:Ch} {L:Loc} (hc:R.hp c=some ch) (hσ:R.σ c=some L):
 (ch.body.mut=true->R.F L.block=none/\R.U L.block=none)/\(ch.body.mut=false->∃ o,R.F L.block=some o):=by
 have h:=hm.ch c ch hc
 obtain ⟨ep,body⟩:=ch
 cases body with
 |row t xs=>
  simp only [eV,hσ] at h
  exact ⟨λ_=>⟨h.2.2.1,h.2.2.2.1⟩,λe=>(by cases e)⟩
 |frz t xs=>
  simp only [eV,hσ] at h
  obtain ⟨_,_,arr,E,fz,h1,_⟩:=h
  exact ⟨λe=>(by cases e),λ_=>⟨_,h1⟩⟩
 |cells vs=>
  simp only [eV] at h
  obtain ⟨L',h0,h1,h2,_⟩:=h
  rw [hσ] at h0
  cases h0
  exact ⟨λ_=>⟨h1,h2⟩,λe=>(by cases e)⟩
theorem aBp {R:Ctx} {w:World} (hm:dt R w) (ok:Nat->Bool):∀ b o,R.frozen w ok b=some o->R.U b=none:=λb o h=>by
 unfold Ctx.frozen at h
 split at h
 ·rename_i hq
  obtain ⟨c,ch,L,h1,h2,h3,rfl⟩:=hq
  obtain ⟨k1,k2⟩:=eD hm h2 h3
  cases hmu:ch.body.mut
  ·obtain ⟨o',ho⟩:=k2 hmu
   exact hm.FU _ o' ho
  ·exact (k1 hmu).2
 ·exact hm.FU b o h
theorem aoc {R:Ctx} {w:World} (hm:dt R w) {ok:Nat->Bool} {c:Nat} {ch:Ch} {L:Loc} (hc:R.hp c=some ch) (hσ:R.σ c=some L) (hmu:ch.body.mut=true) (hn:ok c=false):R.frozen w ok L.block=none:=by
 unfold Ctx.frozen
 split
 ·rename_i hq
  obtain ⟨c',ch',L',h1,h2,h3,h4⟩:=hq
  cases hm':ch'.body.mut
  ·obtain ⟨o',ho⟩:=(eD hm h2 h3).2 hm'
   rw [h4,((eD hm hc hσ).1 hmu).1] at ho
   cases ho
  ·have:=hm.apart c' c ch' ch L' L h2 hc hm' hmu h3 hσ h4
   rw [this,hn] at h1
   cases h1
 ·exact ((eD hm hc hσ).1 hmu).1
section
variable {s:Shape} {R:Ctx} {st:St} {bd:Bd} {x:OY s.chunks} (hok:s.Jd st bd=true) (hx:eP bd (ua s.lists bd) st.hp s.chunks=some x) (hR:R.hp=st.hp)
 {w:World} (hm:dt R w) {F':Nat->Option Obj} {U':abr} (hF:∀ b o,R.F b=some o->F' b=some o)
 (hok':∀ c ch L,ua s.lists bd c=true->R.hp c=some ch->R.σ c=some L->F' L.block=w.heap[L.block]?)
 (hmut:∀ n c ch L,dI bd n=some (some c)->R.hp c=some ch->ch.body.mut=true->R.σ c=some L->F' L.block=none/\U' L.block=none)
include hok hx hR hm hF hok' hmut
theorem awm {n c:Nat} {cs:CSh} {y:cs.T} {ch:Ch} (hb:dI bd n=some (some c)) (hc:R.hp c=some ch) (h:iR bd (ua s.lists bd) st.hp cs ch.body=some y):
 eV (R.named F' U' bd (dq s.chunks x)) w n ⟨cs.ep,bY cs y⟩:=by
 have h0:=hm.ch c ch hc
 have hσ:(R.named F' U' bd (dq s.chunks x)).σ n=R.σ c:=by simp only [Ctx.named,hb]
 obtain ⟨ep,body⟩:=ch
 cases cs<;>cases body<;>simp only [iR] at h<;>try (cases h;done)
 case row.row t t' xs=>
  obtain ⟨e,rfl⟩:=bt h
  subst e
  simp only [eV,bY] at h0⊢
  rw [hσ]
  refine ⟨h0.1,h0.2.1,?_⟩
  cases hL:R.σ c with
  |none=>have:=h0.2.2;rw [hL] at this;exact this
  |some L=>
   have:=h0.2.2
   rw [hL] at this
   obtain ⟨c1,c2,arr,E,c3,c4,c5,c6⟩:=this
   exact ⟨(hmut n c _ L hb hc rfl hL).1,(hmut n c _ L hb hc rfl hL).2,arr,E,c3,c4,c5,λi hi=>cn hF _ _ _ (c6 i hi)⟩
 case frz.frz t t' xs=>
  obtain ⟨e,rfl⟩:=bt h
  subst e
  simp only [eV,bY] at h0⊢
  rw [hσ]
  refine ⟨h0.1,h0.2.1,?_⟩
  cases hL:R.σ c with
  |none=>have:=h0.2.2;rw [hL] at this;exact this
  |some L=>
   have:=h0.2.2
   rw [hL] at this
   obtain ⟨arr,E,fz,c3,c4,c5,c6⟩:=this
   exact ⟨arr,E,fz,hF _ _ c3,c4,c5,λi hi=>cn hF _ _ _ (c6 i hi)⟩
 case cells.cells l vs=>
  simp only [eV,bY] at h0⊢
  obtain ⟨L,h1,h2,h3,arr,E,h4,h5,h6,h7,h8⟩:=h0
  exact ⟨L,by rw [hσ];exact h1,(hmut n c _ L hb hc rfl h1).1,(hmut n c _ L hb hc rfl h1).2,arr,E,h4,h5,by rw [mi h];exact h6,Hb hok hx hR hm hF hok' h h7,h8⟩
theorem BU (U7:∀ b o,F' b=some o->w.heap[b]? =some o) (heapU:∀ b o,U' b=some o->w.heap[b]? =some o) (hFU:∀ b o,F' b=some o->U' b=none) (henv:aga U'.env w):dt (R.named F' U' bd (dq s.chunks x)) w:=by
 refine ⟨U7,heapU,λn ch hn=> ?_,λn n' ch ch' L L' h1 h2 m1 m2 s1 s2 hbl=> ?_,hFU,henv⟩
 ·obtain ⟨cs,y,hmem,hp,rfl⟩:=dE hx (hn:dq s.chunks x n=some ch)
  unfold kM at hp
  split at hp
  ·rename_i c hb
   split at hp
   ·rename_i ch hc
    exact awm hok hx hR hm hF hok' hmut hb (by rw [hR];exact hc) hp
   ·cases hp
  ·rename_i hb
   cases cs<;>simp only [UC] at hp<;>try (cases hp;done)
   case row t=>
    cases hz:Nat.blt 0 t.size
    ·rw [hz] at hp;cases hp
    ·rw [hz] at hp
     cases hp
     have hσ:(R.named F' U' bd (dq s.chunks x)).σ n=none:=by simp only [Ctx.named,hb]
     simp only [eV,bY]
     rw [hσ]
     exact ⟨dW hz,by simp,trivial⟩
  ·rename_i hb
   cases cs<;>simp only [L3] at hp<;>try (cases hp;done)
   have hσ:(R.named F' U' bd (dq s.chunks x)).σ n=none:=by simp only [Ctx.named,hb]
   simp only [eV,bY]
   rw [hσ]
   exact ⟨by decide,by simp,trivial⟩
 ·have key:∀ (n:Nat) (ch:Ch) (L:Loc),(R.named F' U' bd (dq s.chunks x)).hp n=some ch->ch.body.mut=true->(R.named F' U' bd (dq s.chunks x)).σ n=some L->
   ∃ c ch₀ cs,(n,cs) ∈ s.chunks/\dI bd n=some (some c)/\R.hp c=some ch₀/\ch₀.body.mut=true/\R.σ c=some L:=λn ch L h m hs=>by
   obtain ⟨cs,y,hmem,hp,rfl⟩:=dE hx (h:dq s.chunks x n=some ch)
   unfold kM at hp
   simp only [Ctx.named] at hs
   split at hp
   ·rename_i c hb
    rw [hb] at hs
    split at hp
    ·rename_i ch hc
     exact ⟨c,ch,cs,hmem,hb,by rw [hR];exact hc,by rw [<-Ha hp];exact m,hs⟩
    ·cases hp
   ·rename_i hb
    rw [hb] at hs
    cases hs
   ·rename_i hb
    rw [hb] at hs
    cases hs
  obtain ⟨c,c₀,cs,a1,a2,a3,a4,a5⟩:=key n ch L h1 m1 s1
  obtain ⟨c',c₀',cs',b1,b2,b3,b4,b5⟩:=key n' ch' L' h2 m2 s2
  have hcc:=hm.apart c c' c₀ c₀' L L' a3 b3 a4 b4 a5 b5 hbl
  subst hcc
  unfold Shape.Jd at hok
  simp only [Bool.and_eq_true,List.all_eq_true] at hok
  have h3:=hok.1.1.2 _ a1 _ b1
  simp only [a2,b2,Bool.or_eq_true,Nat.beq_refl,Bool.not_true,Bool.false_eq_true,or_false] at h3
  exact Nat.eq_of_beq_eq_true h3
end
def Small (R:Ctx) (k:Nat):Prop:=∀ c ch,R.hp c=some ch->c<k/\ch.ep=0
theorem Shape.aKC {s:Shape} {R₀ R:Ctx} {st:St} {a:Act} {w:World} {x:s.T} (h0:Small R₀ s.fixed) (hx:R₀.Ext R) (h:yr R st a w) (hp:s.prj st=some x):
 ∃ R',R₀.Ext R'/\yr R' (s.inj x) a w:=by
 unfold Shape.prj at hp
 dsimp only at hp
 cases hb:s.Jd st (s.bd st)&&Nat.beq st.tm.length s.n
 ·rw [hb] at hp;cases hp
 ·rw [hb] at hp
  rw [Bool.and_eq_true] at hb
  obtain ⟨h1,h2⟩:=bn hp
  have hlen:=Nat.eq_of_beq_eq_true hb.2
  refine ⟨R.named (R.frozen w (ua s.lists (s.bd st))) R.U (s.bd st) (dq s.chunks x.2),⟨λb o h'=>Vb h.mem _ b o (hx.F b o h'),hx.U,λc ch hc=> ?_⟩,rfl,BU hb.1 h2 h.hp h.mem (Vb h.mem _) (ZM w _) (λn c ch L k1 k2 k3 k4=>⟨aoc h.mem k2 k4 k3 (Rx k1),((eD h.mem k2 k4).1 k3).2⟩) (aeR h.mem _) h.mem.U (aBp h.mem _) h.mem.env,?_,h.defers⟩
  ·obtain ⟨hlt,hep⟩:=h0 c ch hc
   have hok:=hb.1
   unfold Shape.Jd at hok
   simp only [Bool.and_eq_true,List.all_eq_true] at hok
   have h3:=hok.2 c (by simpa using hlt)
   obtain ⟨ch1,g1,g2,g3⟩:=hx.ch c ch hc
   split at h3
   ·rename_i c' hbd
    have h4:=(Bool.and_eq_true _ _▸h3:_/\_)
    have:=Nat.eq_of_beq_eq_true h4.1
    subst this
    have hnow:Fz (s.bd st) st.hp c' c' 0=true:=by
     unfold Fz
     rw [hbd]
     exact h3
    obtain ⟨b,b',k1,k2,k3,k4⟩:=UA (R:=R) hb.1 h2 hnow
    rw [h.hp,k1] at g1
    cases g1
    exact ⟨_,k2,g2,λhe=>⟨by have:=(g3 he).1;exact k3.trans this,k4.trans (g3 he).2⟩⟩
   ·cases h3
   ·rename_i hbd
    obtain ⟨q,hq,hq'⟩:=List.any_eq_true.1 h3
    rw [Bool.and_eq_true] at hq'
    have e1:=Nat.eq_of_beq_eq_true hq'.1
    obtain ⟨ch2,hch2⟩:=tR (x:=x.2) (n:=c) ⟨q.2,by rw [<-e1];exact hq⟩
    obtain ⟨cs,y,k1,k2,k3⟩:=dE h2 hch2
    have hg:cs=.gone:=by
     simp only [kM,hbd] at k2
     cases cs<;>first|rfl|(simp [L3] at k2;done)
    subst hg
    refine ⟨ch2,hch2,?_,λhe=> ?_⟩
    ·rw [k3,hep];exact Nat.zero_le _
    ·rw [k3,hep] at he;cases he
  ·refine ij hb.1 h2 h.hp h.mem (Vb h.mem _) (ZM w _) h.tm h1 (SV.sQ ?_ λi hi hi'=> ?_)
   ·rw [List.length_replicate,<-hlen]
    exact SV.aV h.tm
   ·simp [SV.rel]
end Sx
end Go.Proofs.YtohjofabochgfaaGreat

namespace Go.Proofs.YtohjofabochgfaaGreat
namespace Sx
open Go
def avP (id:Nat):SE->SE
 |.exit j=>cond (Nat.beq j id) .normal (.exit j)
 |e=>e
theorem Shape.Uw {s:Shape} {R₀ R:Ctx} {st:St} {a:Act} {w:World} {k:s.T->Prop} (h0:Small R₀ s.fixed) (hx:R₀.Ext R) (h:yr R st a w) (hp:s.on st k):
 ∃ x R',k x/\R₀.Ext R'/\yr R' (s.inj x) a w:=by
 unfold Shape.on at hp
 split at hp
 ·rename_i x hq
  obtain ⟨R',h1,h2⟩:=Shape.aKC h0 hx h hq
  exact ⟨x,R',hp,h1,h2⟩
 ·exact hp.elim
section
variable {P:Program} {te:TE} {Φ:Env} (hte:mZ P te) (hΦ:aQ P Φ) (hany:aW P te Φ)
include hte hΦ hany
end
def alp:List (Nat×Code)->Nat->Code
 | [],_=>.skip
 |(i,c)::r,id=>cond (Nat.beq i id) c (alp r id)
def alo (c:Code) (id:Nat):Code:=alp (blocks c) id
def aU (c:Code) (id:Nat):Code:=match alo c id with
 |.loop b=>b
 |c=>c
def auQ (c:Code) (id:Nat):Bool:=match alo c id with
 |.loop _=>true
 |_=>false
theorem aeB {c:Code} {id:Nat} (h:auQ c id=true):alo c id=.loop (aU c id):=by
 unfold auQ at h
 unfold aU
 split at h
 ·rename_i b hb
  rw [hb]
 ·cases h
theorem Sd:∀ {l:List (Nat×Code)},distinct (l.map (·.1))=true->∀ p ∈ l,alp l p.1=p.2
 | [],_,p,hp=>by cases hp
 |q::r,h,p,hp=>by
  simp only [List.map_cons,distinct,Bool.and_eq_true,Bool.not_eq_true'] at h
  simp only [alp]
  rcases List.mem_cons.1 hp with he|he
  ·subst he
   rw [Nat.beq_refl];rfl
  ·have:Nat.beq q.1 p.1=false:=by
    cases hq:Nat.beq q.1 p.1
    ·rfl
    ·have:=h.1
     rw [List.any_eq_false] at this
     exact absurd hq (this p.1 (List.mem_map.2 ⟨p,he,rfl⟩))
   rw [this]
   exact Sd h.2 p he
def aO (id:Nat) (l:St->(SE->St->Prop)->Prop) (Λ:Lam):Lam:=λj=>cond (Nat.beq j id) (some l) (Λ j)
def av:Lam:=λ_=>none
theorem af {P:Program} {R₀:Ctx} {c:Code}:yd P R₀ av c:=λ_ _ _ h=>by cases h
theorem aA {P:Program} {R₀:Ctx} {c:Code} (hd:distinct ((blocks c).map (·.1))=true) {id:Nat} {l:St->(SE->St->Prop)->Prop} {Λ:Lam} (hl:auQ c id=true) (h:WK P R₀ (.block id (.loop (aU c id))) l) (hΛ:yd P R₀ Λ c):
 yd P R₀ (aO id l Λ) c:=λp hp l' hl'=>by
 unfold aO at hl'
 cases hb:Nat.beq p.1 id
 ·rw [hb] at hl';exact hΛ p hp l' hl'
 ·rw [hb] at hl'
  cases hl'
  have e:=Nat.eq_of_beq_eq_true hb
  have:=Sd hd p hp
  rw [<-this,e]
  have h2:=aeB hl
  unfold alo at h2
  rw [h2]
  exact h
end Sx
end Go.Proofs.YtohjofabochgfaaGreat

namespace Go.Proofs.YtohjofabochgfaaGreat
namespace Sx
open Go
abbrev Nm:=Nat->Nat×Nat
def zD (ν:Nm):(s:Sh)->s.T->List SV
 |.val _ t,x=>unpack t x
 |.own n,_=> [.own (ν n).1 (ν n).2]
 |.ptr n i off,_=> [.ptr (ν n).1 (ν n).2 i off]
 |.fn f ns,_=> [.fn (.func f) [] (ns.map λn=>.ptr (ν n).1 (ν n).2 0 0)]
 |.ifp t n,_=> [.iface t (.ptr (ν n).1 (ν n).2 0 0)]
 |.mix a n b,x=>unpack a x.1++([.own (ν n).1 (ν n).2]++unpack b x.2.2)
 |.rb,_=> [.rb]
 |.eF,_=> [.eF]
 |.undef,_=> [.undef]
def U3 (ν:Nm) (s:Sh) (x:s.T):SV:=sr s.agg (zD ν s x)
def pv (ν:Nm):(l:List Sh)->ShT l->List SV
 | [],_=> []
 |s::r,x=>zD ν s x.1++pv ν r x.2
def eg (ν:Nm):(s:CSh)->s.T->Chunk
 |.row t,xs=>.row t xs
 |.frz t,xs=>.frz t xs
 |.cells l,x=>.cells (pv ν l x)
 |.gone,_=>.row .u8 []
structure az where
 rs:List Sh
 chunks:List (Nat×CSh)
 pan:Bool
def indexed:Nat->List Sh->List (Nat×Sh)
 |_,[]=> []
 |i,s::r=>(i,s)::indexed (i+1) r
def az.shape (o:az) (fixed:Nat):Shape:=⟨o.rs.length,indexed 0 o.rs,o.chunks,fixed,true⟩
def asx (n:Nat) (v:SV):List SV:=cond (Nat.beq n 1) [v] (match v with
 |.tup l=>l
 |_=>List.replicate (n+1) .bT)
structure aw where
 as:List Sh
 chunks:List (Nat×CSh)
 bz:Bool
 fixed:Nat
 mod:Bool
def aw.inp (S:aw):Shape:=⟨S.as.length,indexed 0 S.as,S.chunks,0,S.bz⟩
abbrev aw.T (S:aw):Type:=S.inp.T
abbrev aw.Y (S:aw):Type:=Sigma λo:az=>(o.shape S.fixed).T
def akW (hp:Hp) (c:Nat):Nat:=match hp c with
 |some ch=>ch.ep
 |none=>0
def nameOf (bd:Bd) (n:Nat):Nat:=match dI bd n with
 |some (some c)=>c
 |_=>0
def aw.nm (S:aw) (bd:Bd) (hp:Hp) (base:Nat):Nm:=λn=>cond (Nat.blt n S.fixed) (nameOf bd n,akW hp (nameOf bd n)) (base+(n-S.fixed),0)
def lD (ν:Nm):(l:List (Nat×CSh))->OY l->List (Nat×Ch)
 | [],_=> []
 |c::r,x=>((ν c.1).1,⟨(ν c.1).2,eg ν c.2 x.1⟩)::lD ν r x.2
def dx (bd:Bd) (hp:Hp) (fixed:Nat):List (Nat×CSh)->List (Nat×Ch)
 | []=> []
 |c::r=>cond (Nat.blt c.1 fixed) (dx bd hp fixed r) (match dI bd c.1 with
  |some (some o)=>(o,⟨akW hp o+1,.row .u8 []⟩)::dx bd hp fixed r
  |_=>dx bd hp fixed r)
def Ty.cx:Ty->Bool
 |.list _=>true
 |.prod a b=>a.cx||b.cx
 |.arr _ t=>t.cx
 |_=>false
def Sh.cx:Sh->Bool
 |.val _ t=>t.cx
 |.mix a _ b=>a.cx||b.cx
 |_=>false
def CSh.cx:CSh->Bool
 |.row t=>t.cx
 |.frz t=>t.cx
 |.cells l=>l.any Sh.cx
 |.gone=>false
def CSh.Zv:CSh->Bool
 |.frz _=>true
 |_=>false
def aw.zN (S:aw) (bd:Bd) (hp:Hp) (base:Nat) (o:az):Bool:=
 (!S.bz|| !(o.rs.any Sh.cx||o.chunks.any λc=>c.2.cx||(c.2.Zv&& !Nat.blt c.1 S.fixed)))&&
 ((List.range S.fixed).all (λk=>(match dI bd k with
   |some (some _)=>true
   |_=>false)&&o.chunks.any λc=>Nat.beq c.1 k)&&
 ((o.chunks.all λc=>S.chunks.all λc'=> !Nat.beq c.1 c'.1|| !Nat.blt c.1 S.fixed||(c.2.Zv==c'.2.Zv))&&
 o.chunks.all λc=> !c.2.pq&&(Nat.blt c.1 S.fixed||(Nat.blt (c.1-S.fixed) 64&&(hp (base+(c.1-S.fixed))).isNone))))
def aw.emit (S:aw) (bd:Bd) (d:Nat) (hp:Hp) (o:az) (y:(o.shape S.fixed).T):OT Out:=
 let base:=fresh hp d
 let ν:=S.nm bd hp base
 let v:=oneOf ((indexedN ν o.rs) y.1)
 let u:=dx bd hp S.fixed S.chunks++lD ν o.chunks y.2
 .guard (S.zN bd hp base o) (.ok (cond o.pan (.pan v u) (.ret ⟨v,u⟩)))
where
 indexedN (ν:Nm) (rs:List Sh):SlT (indexed 0 rs)->List SV:=go ν 0 rs
 go (ν:Nm):(i:Nat)->(rs:List Sh)->SlT (indexed i rs)->List SV
  |_,[],_=> []
  |i,s::r,y=>U3 ν s y.1::go ν (i+1) r y.2
def aw.aI (S:aw) (pre:S.T->Bool) (F:S.T->OT S.Y):cj:=⟨S.mod,λd args hp=>
 match S.inp.prj ⟨args,hp⟩ with
 |none=>.fail
 |some x=>.guard (pre x) ((F x).bind λoy=>S.emit (S.inp.bd ⟨args,hp⟩) d hp oy.1 oy.2)⟩
def az.is {fixed:Nat} (o:az) (y:(o.shape fixed).T) (pan:Bool) (v:SV) (hp:Hp):Prop:=
 o.pan=pan/\(o.shape fixed).prj ⟨asx o.rs.length v,hp⟩=some y
end Sx
end Go.Proofs.YtohjofabochgfaaGreat

namespace Go.Proofs.YtohjofabochgfaaGreat
namespace Sx
open Go
def Ctx.CJ (R:Ctx) (bd:Bd) (b:Nat):Prop:=∃ n c ch L,dI bd n=some (some c)/\R.hp c=some ch/\ch.body.mut=true/\R.σ c=some L/\L.block=b
open Classical in
noncomputable def Ctx.yk (R:Ctx) (bd:Bd) (bz:Bool) (w:World):Nat->Option Obj:=λb=>
 if R.CJ bd b then none else if bz=true then w.heap[b]? else R.F b
open Classical in
noncomputable def Ctx.FA (R:Ctx) (bd:Bd) (bz:Bool) (w:World):abr:=⟨λb=>
 if R.CJ bd b\/bz=true\/(∃ o,R.F b=some o) then none else w.heap[b]?,R.U.env⟩
section
variable {R:Ctx} {w:World} (hm:dt R w) {bd:Bd} {bz:Bool}
include hm
theorem F7 {b:Nat} (h:R.CJ bd b):R.F b=none/\R.U b=none:=by
 obtain ⟨n,c,ch,L,h1,h2,h3,h4,rfl⟩:=h
 exact (eD hm h2 h4).1 h3
theorem Cd:∀ b o,R.F b=some o->R.yk bd bz w b=some o:=λb o h=>by
 unfold Ctx.yk
 split
 ·rename_i hb
  rw [(F7 hm hb).1] at h
  cases h
 ·split
  ·exact hm.F b o h
  ·exact h
theorem Cc:∀ b o,R.yk bd bz w b=some o->w.heap[b]? =some o:=λb o h=>by
 unfold Ctx.yk at h
 split at h
 ·cases h
 ·split at h
  ·exact h
  ·exact hm.F b o h
theorem tP:∀ c ch L,ua bz bd c=true->R.hp c=some ch->R.σ c=some L->R.yk bd bz w L.block=w.heap[L.block]? :=λc ch L h1 h2 h3=>by
 have hb:bz=true:=by
  unfold ua at h1
  rw [Bool.and_eq_true] at h1
  exact h1.1
 unfold Ctx.yk
 split
 ·rename_i hq
  obtain ⟨n,c',ch',L',k1,k2,k3,k4,k5⟩:=hq
  cases hmu:ch.body.mut
  ·obtain ⟨o,ho⟩:=(eD hm h2 h3).2 hmu
   rw [<-k5,((eD hm k2 k4).1 k3).1] at ho
   cases ho
  ·have:=hm.apart c' c ch' ch L' L k2 h2 k3 hmu k4 h3 k5
   rw [this] at k1
   rw [Rx k1] at h1
   cases h1
 ·first|rfl|rw [if_pos hb]
omit hm in
theorem Cb:∀ b o,R.FA bd bz w b=some o->w.heap[b]? =some o:=λb o h=>by
 unfold Ctx.FA at h
 dsimp only at h
 split at h
 ·cases h
 ·exact h
omit hm in
theorem akb:∀ b o,R.yk bd bz w b=some o->R.FA bd bz w b=none:=λb o h=>by
 unfold Ctx.FA
 dsimp only
 split
 ·rfl
 ·rename_i hq
  unfold Ctx.yk at h
  rw [if_neg (λhb=>hq (.inl hb)),if_neg (λhb=>hq (.inr (.inl hb)))] at h
  exact absurd (.inr (.inr ⟨o,h⟩)) hq
omit hm in
theorem U2:∀ n c ch L,dI bd n=some (some c)->R.hp c=some ch->ch.body.mut=true->R.σ c=some L->R.yk bd bz w L.block=none/\R.FA bd bz w L.block=none:=λn c ch L h1 h2 h3 h4=>by
 have hb:R.CJ bd L.block:=⟨n,c,ch,L,h1,h2,h3,h4,rfl⟩
 exact ⟨by unfold Ctx.yk;rw [if_pos hb],by unfold Ctx.FA;dsimp only;rw [if_pos (.inl hb)]⟩
theorem stays {F₂:Nat->Option Obj} {U₂:abr} {w':World} (hF:∀ b o,R.yk bd bz w b=some o->F₂ b=some o) (hU:U₂=R.FA bd bz w) (h1:∀ b o,F₂ b=some o->w'.heap[b]? =some o) (h2:∀ b o,U₂ b=some o->w'.heap[b]? =some o):
 ∀ b,b<w.heap.size->¬R.CJ bd b->w'.heap[b]? =w.heap[b]? :=λb hb hn=>by
 have hs:w.heap[b]? =some w.heap[b]:=by simp [hb]
 by_cases hbo:bz=true
 ·have:R.yk bd bz w b=some w.heap[b]:=by
   unfold Ctx.yk
   rw [if_neg hn,if_pos hbo,hs]
  rw [h1 _ _ (hF _ _ this),hs]
 ·by_cases hRF:∃ o,R.F b=some o
  ·obtain ⟨o,ho⟩:=hRF
   have:=hm.F b o ho
   rw [h1 _ _ (hF _ _ (Cd hm b o ho)),this]
  ·have:R.FA bd bz w b=some w.heap[b]:=by
    unfold Ctx.FA
    dsimp only
    rw [if_neg (by rintro (h|h|h);exact hn h;exact hbo h;exact hRF h),hs]
   rw [<-hU] at this
   rw [h2 _ _ this,hs]
end
end Sx
end Go.Proofs.YtohjofabochgfaaGreat

namespace Go.Proofs.YtohjofabochgfaaGreat
namespace Sx
open Go
structure Wl (N R:Ctx) (ν:Nm) (lists:Bool):Prop where
 hp:∀ n ch,N.hp n=some ch->ch.ep=0/\∃ ch',R.hp (ν n).1=some ch'/\ch'.ep=(ν n).2/\ch'.body.shape=ch.body.shape/\R.σ (ν n).1=N.σ n
 F:lists=true->∀ b o,N.F b=some o->R.F b=some o
theorem xC {F F':Nat->Option Obj}:∀ (t:Ty) (_:t.cx=false) (x:t.T) (cs:List Value),Rep F t x cs->Rep F' t x cs
 |.bool,_,_,_,h=>h
 |.u64,_,_,_,h=>h
 |.u8,_,_,_,h=>h
 |.int,_,_,_,h=>h
 |.str,_,_,_,h=>h
 |.elem,_,_,_,h=>h
 |.prod a b,hp,x,cs,h=>by
  simp only [Ty.cx,Bool.or_eq_false_iff] at hp
  exact ⟨h.1,xC a hp.1 _ _ h.2.1,xC b hp.2 _ _ h.2.2⟩
 |.arr n t,hp,x,cs,h=>⟨h.1,h.2.1,λi hi=>xC t hp _ _ (h.2.2 i hi)⟩
def SV.still:SV->Bool
 |.bool _|.u64 _|.u8 _|.int _|.str _|.lst .. =>true
 |_=>false
theorem W6 {R R':Ctx} (hF:∀ b o,R.F b=some o->R'.F b=some o):∀ {x:SV} {v:Value},x.still=true->SV.rel R x v->SV.rel R' x v:=by
 intro x v hf h
 cases x<;>first|(cases hf;done)|(simp only [SV.rel] at h⊢;first|exact h|exact cn hF _ _ _ h)
theorem PU {R R':Ctx} (hF:∀ b o,R.F b=some o->R'.F b=some o):∀ {l:List SV} {vs:List Value},l.all SV.still=true->SV.bV R l vs->SV.bV R' l vs
 | [],vs,_,h=>by simpa only [SV.bV] using h
 |x::l,vs,hf,h=>by
  simp only [List.all_cons,Bool.and_eq_true] at hf
  simp only [SV.bV] at h⊢
  obtain ⟨v,r,h1,h2,h3⟩:=h
  exact ⟨v,r,h1,W6 hF hf.1 h2,PU hF hf.2 h3⟩
theorem j1:∀ (t:Ty) (x:t.T),(unpack t x).all SV.still=true
 |.bool,_=>rfl
 |.u64,_=>rfl
 |.u8,_=>rfl
 |.int,_=>rfl
 |.str,_=>rfl
 |.elem,_=>rfl
 |.prod a b,x=>by simp only [unpack,List.all_append,j1 a,j1 b,Bool.and_self]
 |.arr n t,x=>by
  simp only [unpack,List.all_flatMap,List.all_eq_true]
  intro i _
  simpa [List.all_eq_true] using j1 t _
 |.list t,_=>rfl
theorem fX:∀ {t:Ty},t.cx=false->t.plain=true
 |.bool,_=>rfl
 |.u64,_=>rfl
 |.u8,_=>rfl
 |.int,_=>rfl
 |.str,_=>rfl
 |.elem,_=>rfl
 |.prod a b,h=>by
  simp only [Ty.cx,Bool.or_eq_false_iff] at h
  simp only [Ty.plain,fX h.1,fX h.2,Bool.and_self]
 |.arr n t,h=>fX (t:=t) h
section
variable {N R:Ctx} {ν:Nm} {lists:Bool} (hr:Wl N R ν lists)
include hr
theorem La {n:Nat} {v:Value} (h:N.own n 0 v):R.own (ν n).1 (ν n).2 v:=by
 obtain ⟨ch,hc,_,h⟩:=h
 obtain ⟨he,ch',k1,k2,k3,k4⟩:=hr.hp n ch hc
 obtain ⟨ch2,hc2,_,h2⟩:=h he.symm
 rw [hc] at hc2
 cases hc2
 obtain ⟨h5,h6,ad,cap,h7,h8,h9⟩:=h2 he.symm
 refine ⟨ch',k1,by omega,λ_=>⟨ch',k1,by omega,λ_=> ?_⟩⟩
 rw [k4,k3]
 exact ⟨h5,h6,ad,cap,h7,h8,h9⟩
theorem zg {n i off:Nat} {v:Value} (h:N.ptr n 0 i off v):R.ptr (ν n).1 (ν n).2 i off v:=by
 obtain ⟨ch,hc,_,h⟩:=h
 obtain ⟨he,ch',k1,k2,k3,k4⟩:=hr.hp n ch hc
 obtain ⟨L,h1,h2⟩:=h he.symm
 exact ⟨ch',k1,by omega,λ_=>⟨L,by rw [k4];exact h1,by rw [k3];exact h2⟩⟩
theorem G8:∀ (ns:List Nat) (us:List Value),SV.bV N (ns.map λn=>.ptr n 0 0 0) us->SV.bV R (ns.map λn=>.ptr (ν n).1 (ν n).2 0 0) us
 | [],us,h=>h
 |n::ns,us,h=>by
  simp only [List.map_cons,SV.bV,SV.rel] at h⊢
  obtain ⟨v,us',rfl,h1,h2⟩:=h
  exact ⟨v,us',rfl,⟨h1.1,zg hr h1.2⟩,G8 ns us' h2⟩
theorem n3 {t:Ty} (hl:lists=true\/t.cx=false) {x:t.T} {us:List Value} (h:SV.bV N (unpack t x) us):SV.bV R (unpack t x) us:=by
 rcases hl with hl|hl
 ·exact PU (hr.F hl) (j1 t x) h
 ·exact Z6 (lF t (fX hl) x) h
theorem zp {s:Sh} (hl:lists=true\/s.cx=false) {y:s.T} {us:List Value} (h:SV.bV N (pu s y) us):SV.bV R (zD ν s y) us:=by
 cases s<;>simp only [pu,zD] at h⊢
 case val b t=>exact n3 hr hl h
 case mix a n b=>
  have ha:lists=true\/a.cx=false:=hl.imp_right λe=>by simp only [Sh.cx,Bool.or_eq_false_iff] at e;exact e.1
  have hb:lists=true\/b.cx=false:=hl.imp_right λe=>by simp only [Sh.cx,Bool.or_eq_false_iff] at e;exact e.2
  have t1:=SV.du h (unpack a y.1).length
  have t2:=SV.dv h (unpack a y.1).length
  rw [List.take_left] at t1
  rw [List.drop_left] at t2
  have t3:=SV.du t2 1
  have t4:=SV.dv t2 1
  obtain ⟨v,hv1,hv⟩:=cJ (show SV.bV N [.own n 0] ((us.drop (unpack a y.1).length).take 1) from t3)
  simp only [SV.rel] at hv
  have q3:SV.bV R [.own (ν n).1 (ν n).2] ((us.drop (unpack a y.1).length).take 1):=by
   rw [hv1]
   exact bg (by simp only [SV.rel];exact ⟨hv.1,La hr hv.2⟩)
  have:=SV.cq (n3 hr ha t1) (SV.cq q3 (n3 hr hb (show SV.bV N (unpack b y.2.2) _ from t4)))
  rw [List.take_append_drop,List.take_append_drop] at this
  exact this
 case own n=>
  obtain ⟨v,rfl,hv⟩:=cJ h
  simp only [SV.rel] at hv
  exact bg (by simp only [SV.rel];exact ⟨hv.1,La hr hv.2⟩)
 case ptr n i off=>
  obtain ⟨v,rfl,hv⟩:=cJ h
  simp only [SV.rel] at hv
  exact bg (by simp only [SV.rel];exact ⟨hv.1,zg hr hv.2⟩)
 case fn f ns=>
  obtain ⟨v,rfl,hv⟩:=cJ h
  simp only [SV.rel] at hv
  obtain ⟨l1,l2,rfl,h3,h4⟩:=hv
  exact bg (by simp only [SV.rel];exact ⟨l1,l2,rfl,by simpa only [SV.bV] using h3,G8 hr ns l2 h4⟩)
 case ifp t n=>
  obtain ⟨v,rfl,hv⟩:=cJ h
  simp only [SV.rel] at hv
  obtain ⟨y,rfl,hy⟩:=hv
  exact bg (by simp only [SV.rel];exact ⟨y,rfl,hy.1,zg hr hy.2⟩)
 all_goals (
  obtain ⟨v,rfl,hv⟩:=cJ h
  simp only [SV.rel] at hv
  exact bg (by simp only [SV.rel];exact hv))
omit hr in
theorem Pn {s:Sh} {y:s.T}:(zD ν s y).length=(pu s y).length:=by
 cases s<;>first|rfl|simp only [pu,zD,List.length_append,List.length_cons,List.length_nil]
theorem Xb {s:Sh} (hl:lists=true\/s.cx=false) {y:s.T} {v:Value} (h:SV.rel N (tQ s y) v):SV.rel R (U3 ν s y) v:=by
 unfold tQ at h
 unfold U3
 unfold sr at h⊢
 cases ha:s.agg<;>rw [ha] at h
 ·simp only [Bool.false_eq_true,if_false] at h⊢
  cases s
  case val b t=>
   simp only [pu,zD] at h⊢
   cases hc:unpack t y with
   |nil=>simp [SV.rel]
   |cons u l=>
    rw [hc] at h
    rcases hl with hl|hl
    ·have:=j1 t y
     rw [hc] at this
     simp only [List.all_cons,Bool.and_eq_true] at this
     exact W6 (hr.F hl) this.1 h
    ·have:=lF t (fX hl) y
     rw [hc] at this
     simp only [List.all_cons,Bool.and_eq_true] at this
     exact akD this.1 h
  case mix a n b=>cases ha
  all_goals (
   have h1:=zp (y:=y) hr hl (bg h)
   obtain ⟨v',he,hv⟩:=cJ h1
   cases he
   exact hv)
 ·simp only [if_true,SV.rel] at h⊢
  obtain ⟨vs,h1,h2,h3⟩:=h
  exact ⟨vs,h1,zp hr hl h2,h3⟩
end
end Sx
end Go.Proofs.YtohjofabochgfaaGreat

namespace Go.Proofs.YtohjofabochgfaaGreat
namespace Sx
open Go
theorem OT.run_bind {α β:Type} {f:α->OT β}:∀ {t:OT α} {b:β},(t.bind f).run=some b->∃ a,t.run=some a/\(f a).run=some b
 |.ok a,b,h=>⟨a,rfl,h⟩
 |.br c x y,b,h=>by
  cases c
  ·exact OT.run_bind (t:=y) h
  ·exact OT.run_bind (t:=x) h
 |.fail,b,h=>by cases h
theorem tq {m:Nat}:∀ (u:List (Nat×Ch)) {hp:Hp},m ∈ bF u->∃ ch,(m,ch) ∈ u/\eu hp u m=some ch
 | [],_,h=>by simp [bF] at h
 |(c,ch)::r,hp,h=>by
  by_cases h2:m ∈ bF r
  ·obtain ⟨ch',h3,h4⟩:=tq r (hp:=λn=>if n=c then some ch else hp n) h2
   exact ⟨ch',by simp [h3],h4⟩
  ·have h1:m=c:=by
    simp only [bF,List.map_cons,List.mem_cons] at h
    exact h.resolve_right h2
   subst h1
   refine ⟨ch,by simp,?_⟩
   simp only [eu]
   rw [ee r h2]
   simp
theorem AJ {ν:Nm} {bd:Bd} {ok:Nat->Bool} {hp:Hp}:∀ {l:List (Nat×CSh)} {x:OY l} {c:Nat} {ch:Ch},eP bd ok hp l=some x->(c,ch) ∈ lD ν l x->
 ∃ n s y,(n,s) ∈ l/\c=(ν n).1/\kM bd ok hp n s=some y/\ch=⟨(ν n).2,eg ν s y⟩
 | [],_,_,_,_,h=>by cases h
 |q::r,x,c,ch,hp,h=>by
  obtain ⟨h1,h2⟩:=bn hp
  simp only [lD,List.mem_cons] at h
  rcases h with h|h
  ·cases h
   exact ⟨q.1,q.2,x.1,by simp,rfl,h1,rfl⟩
  ·obtain ⟨n,s,y,k1,k2⟩:=AJ h2 h
   exact ⟨n,s,y,by simp [k1],k2⟩
theorem qv {ν:Nm}:∀ {l:List (Nat×CSh)} {x:OY l} {c:Nat},c ∈ bF (lD ν l x) ↔ ∃ n s,(n,s) ∈ l/\c=(ν n).1
 | [],_,_=>by simp [lD,bF]
 |q::r,x,c=>by
  have ih:=qv (ν:=ν) (l:=r) (x:=x.2) (c:=c)
  unfold bF at ih⊢
  simp only [lD,List.map_cons,List.mem_cons]
  constructor
  ·rintro (h|h)
   ·exact ⟨q.1,q.2,.inl rfl,h⟩
   ·obtain ⟨n,s,h1,h2⟩:=ih.1 h
    exact ⟨n,s,.inr h1,h2⟩
  ·rintro ⟨n,s,h1|h1,h2⟩
   ·left;rw [<-h1] at*;exact h2
   ·exact .inr (ih.2 ⟨n,s,h1,h2⟩)
theorem lE {bd:Bd} {hp:Hp} {fixed:Nat}:∀ {l:List (Nat×CSh)} {c:Nat} {ch:Ch},(c,ch) ∈ dx bd hp fixed l->(∃ n,dI bd n=some (some c)/\fixed<=n)/\ch=⟨akW hp c+1,.row .u8 []⟩
 | [],_,_,h=>by cases h
 |q::r,c,ch,h=>by
  simp only [dx] at h
  cases hb:Nat.blt q.1 fixed
  ·rw [hb] at h
   simp only [cond_false] at h
   split at h
   ·rename_i o ho
    simp only [List.mem_cons] at h
    rcases h with h|h
    ·cases h
     have:¬q.1<fixed:=λhlt=>by rw [aa4 hlt] at hb;cases hb
     exact ⟨⟨q.1,ho,by omega⟩,rfl⟩
    ·exact lE h
   ·exact lE h
  ·rw [hb] at h
   exact lE (by simpa using h)
theorem JA {bd:Bd} {hp:Hp} {fixed:Nat}:∀ {l:List (Nat×CSh)} {n c:Nat} {s:CSh},(n,s) ∈ l->dI bd n=some (some c)->fixed<=n->c ∈ bF (dx bd hp fixed l)
 | [],_,_,_,h,_,_=>by cases h
 |q::r,n,c,s,h,hb,hn=>by
  simp only [dx]
  rcases List.mem_cons.1 h with h|h
  ·subst h
   have:Nat.blt n fixed=false:=by
    cases hq:Nat.blt n fixed
    ·rfl
    ·have:=dW hq;omega
   unfold bF
   simp only [this,cond_false,hb,List.map_cons,List.mem_cons]
   exact .inl trivial
  ·have ih:=JA (hp:=hp) h hb hn
   cases Nat.blt q.1 fixed
   ·simp only [cond_false]
    split
    ·unfold bF at ih⊢
     simp only [List.map_cons,List.mem_cons]
     exact .inr ih
    ·exact ih
   ·exact ih
theorem ii:∀ (u v:List (Nat×Ch)) {hp:Hp},eu hp (u++v)=eu (eu hp u) v
 | [],_,_=>rfl
 |(c,ch)::r,v,hp=>ii r v
theorem auG {u:List (Nat×Ch)} {c:Nat} {ch:Ch} (h:(c,ch) ∈ u):c ∈ bF u:=List.mem_map.2 ⟨_,h,rfl⟩
theorem ji:∀ {l:List (Nat×CSh)},distinct (l.map (·.1))=true->∀ {n:Nat} {s s':CSh},(n,s) ∈ l->(n,s') ∈ l->s=s'
 | [],_,_,_,_,h,_=>by cases h
 |q::r,hd,n,s,s',h,h'=>by
  simp only [List.map_cons,distinct,Bool.and_eq_true,Bool.not_eq_true'] at hd
  have no:∀ s,(n,s) ∈ r->q.1≠n:=λs hs e=>by
   have:=hd.1
   rw [List.any_eq_false] at this
   exact this n (List.mem_map.2 ⟨_,hs,rfl⟩) (by rw [e];exact Nat.beq_refl n)
  rcases List.mem_cons.1 h with h|h<;>rcases List.mem_cons.1 h' with h'|h'
  ·rw [<-h'] at h;cases h;rfl
  ·exact absurd (by rw [<-h]) (no s' h')
  ·exact absurd (by rw [<-h']) (no s h)
  ·exact ji hd.2 h h'
theorem ky {ν:Nm}:∀ {l:List Sh} {x:ShT l},(pv ν l x).length=(k8 l x).length
 | [],_=>rfl
 |s::r,x=>by simp only [pv,k8,List.length_append,Pn,ky]
theorem tS {ν:Nm} {s:CSh} {y:s.T}:(eg ν s y).shape=(bY s y).shape:=by
 cases s<;>simp only [eg,bY,Chunk.shape]
 case cells l=>
  have:=ky (ν:=ν) (l:=l) (x:=y)
  rw [this]
theorem k7 {ν:Nm} {s:CSh} {y:s.T}:(eg ν s y).mut=(bY s y).mut:=by
 cases s<;>rfl
theorem Zw {s:CSh} {y:s.T}:(bY s y).mut= !s.Zv:=by
 cases s<;>rfl
end Sx
end Go.Proofs.YtohjofabochgfaaGreat

namespace Go.Proofs.YtohjofabochgfaaGreat
namespace Sx
open Go
section
variable {R:Ctx} {w w':World} {S:aw} {args:List SV} {bd:Bd} {xc:OY S.chunks} {N N2:Ctx} {o:az} {yc:OY o.chunks} {base:Nat}
def Ctx.aJV (N:Ctx) (k:Nat):Ctx:= {N with hp:=λn=>cond (Nat.blt n k) (N.hp n) none}
structure AA (R:Ctx) (w w':World) (S:aw) (args:List SV) (bd:Bd) (xc:OY S.chunks) (N2:Ctx) (o:az) (yc:OY o.chunks) (base:Nat):Prop where
 hm:dt R w
 ok:S.inp.Jd ⟨args,R.hp⟩ bd=true
 hx:eP bd (ua S.bz bd) R.hp S.chunks=some xc
 ext:((R.named (R.yk bd S.bz w) (R.FA bd S.bz w) bd (dq S.chunks xc)).aJV S.fixed).Ext N2
 hm2:dt N2 w'
 hp2:N2.hp=dq o.chunks yc
 aJZ:∃ bd2 ok2 hp2,eP bd2 ok2 hp2 o.chunks=some yc
 aHb:distinct (o.chunks.map (·.1))=true
 zN:S.zN bd R.hp base o=true
open Classical in
noncomputable def Ctx.jA (R:Ctx) (bd:Bd) (w:World) (N2:Ctx):Nat->Option Obj:=λb=>
 if b<w.heap.size/\¬R.CJ bd b then R.F b else N2.F b
open Classical in
noncomputable def Ctx.ek (R:Ctx) (bd:Bd) (w:World) (S:aw) (N2:Ctx) (o:az) (yc:OY o.chunks) (base:Nat):Ctx:=
 ⟨R.jA bd w N2,R.U,λc=>match o.chunks.find? (λq=>Nat.beq (S.nm bd R.hp base q.1).1 c) with
  |some q=>N2.σ q.1
  |none=>if c ∈ bF (dx bd R.hp S.fixed S.chunks) then none else R.σ c,
  eu R.hp (dx bd R.hp S.fixed S.chunks++lD (S.nm bd R.hp base) o.chunks yc)⟩
variable (H:AA R w w' S args bd xc N2 o yc base)
include H
theorem AA.inF:∀ b o',R.yk bd S.bz w b=some o'->N2.F b=some o':=λb o' h=>H.ext.F b o' h
theorem AA.inU:N2.U=R.FA bd S.bz w:=H.ext.U
theorem AA.old:∀ b,b<w.heap.size->¬R.CJ bd b->w'.heap[b]? =w.heap[b]? :=
 stays H.hm H.inF H.inU H.hm2.F H.hm2.U
theorem aJR {b:Nat} {o':Obj} (h:R.F b=some o'):b<w.heap.size/\¬R.CJ bd b:=
 ⟨(Array.getElem?_eq_some_iff.1 (H.hm.F b o' h)).1,λhb=>by rw [(F7 H.hm hb).1] at h;cases h⟩
theorem C1:∀ b o',R.F b=some o'->R.jA bd w N2 b=some o':=λb o' h=>by
 unfold Ctx.jA
 rw [if_pos (aJR H h)]
 exact h
theorem Ns:∀ b o',R.jA bd w N2 b=some o'->w'.heap[b]? =some o':=λb o' h=>by
 unfold Ctx.jA at h
 split at h
 ·rename_i hb
  rw [H.old b hb.1 hb.2];exact H.hm.F b o' h
 ·exact H.hm2.F b o' h
theorem Nt (hb:S.bz=false):∀ b o',N2.F b=some o'->R.jA bd w N2 b=some o':=λb o' h=>by
 unfold Ctx.jA
 split
 ·rename_i hq
  cases hR:R.F b with
  |some o2=>
   have h1:=H.hm.F b o2 hR
   rw [<-H.old b hq.1 hq.2,H.hm2.F b o' h] at h1
   exact h1.symm
  |none=>
   exfalso
   have h2:=H.hm2.FU b o' h
   rw [H.inU] at h2
   unfold Ctx.FA at h2
   dsimp only at h2
   rw [if_neg (by rintro (h|h|⟨o2,h⟩);exact hq.2 h;rw [hb] at h;cases h;rw [hR] at h;cases h)] at h2
   simp [hq.1] at h2
 ·exact h
theorem Nj {b:Nat} (hF:N2.F b=none) (hU:N2.U b=none):R.F b=none/\R.U b=none/\R.jA bd w N2 b=none/\(w.heap.size<=b\/R.CJ bd b):=by
 by_cases hb:b<w.heap.size
 ·have hs:w.heap[b]? =some w.heap[b]:=by simp [hb]
  have hbd:R.CJ bd b:=Classical.byContradiction λhn=>by
   have h1:R.yk bd S.bz w b=none:=by
    cases hq:R.yk bd S.bz w b with
    |none=>rfl
    |some o'=>rw [H.inF b o' hq] at hF;cases hF
   rw [H.inU] at hU
   unfold Ctx.FA at hU
   dsimp only at hU
   unfold Ctx.yk at h1
   rw [if_neg hn] at h1
   by_cases hbo:S.bz=true
   ·rw [if_pos hbo,hs] at h1;cases h1
   ·rw [if_neg hbo] at h1
    rw [if_neg (by rintro (h|h|⟨o2,h⟩);exact hn h;exact hbo h;rw [h1] at h;cases h),hs] at hU
    cases hU
  refine ⟨(F7 H.hm hbd).1,(F7 H.hm hbd).2,?_,.inr hbd⟩
  unfold Ctx.jA
  rw [if_neg (λh=>h.2 hbd)]
  exact hF
 ·refine ⟨?_,?_,?_,.inl (by omega)⟩
  ·cases hR:R.F b with
   |none=>rfl
   |some o'=>exact absurd (aJR H hR).1 hb
  ·cases hR:R.U b with
   |none=>rfl
   |some o'=>exact absurd (Array.getElem?_eq_some_iff.1 (H.hm.U b o' hR)).1 hb
  ·unfold Ctx.jA
   rw [if_neg (λh=>hb h.1)]
   exact hF
theorem rz:S.bz=false\/(o.rs.any Sh.cx=false/\∀ q ∈ o.chunks,q.2.cx=false/\(q.2.Zv=true->q.1<S.fixed)):=by
 have h:=H.zN
 unfold aw.zN at h
 simp only [Bool.and_eq_true] at h
 have h1:=h.1
 cases hb:S.bz
 ·exact .inl rfl
 ·right
  rw [hb] at h1
  simp only [Bool.not_true,Bool.false_or,Bool.not_eq_true',Bool.or_eq_false_iff] at h1
  refine ⟨h1.1,λq hq=> ?_⟩
  have h2:=List.any_eq_false.1 h1.2 q hq
  simp only [Bool.or_eq_true,Bool.and_eq_true,Bool.not_eq_true',not_or,not_and] at h2
  refine ⟨by simpa using h2.1,λhf=> ?_⟩
  have:=h2.2 hf
  exact dW (by simpa using this)
theorem ML {k:Nat} (hk:k<S.fixed):(∃ c,dI bd k=some (some c))/\∃ s,(k,s) ∈ o.chunks:=by
 have h:=H.zN
 unfold aw.zN at h
 simp only [Bool.and_eq_true,List.all_eq_true] at h
 have h1:=h.2.1 k (by simpa using hk)
 constructor
 ·have h2:=h1.1
  split at h2
  ·rename_i c hc;exact ⟨c,hc⟩
  ·cases h2
 ·obtain ⟨q,hq,he⟩:=List.any_eq_true.1 h1.2
  have:=Nat.eq_of_beq_eq_true he
  subst this
  exact ⟨q.2,hq⟩
theorem avW {q:Nat×CSh} (hq:q ∈ o.chunks) {q':Nat×CSh} (hq':q' ∈ S.chunks) (he:q.1=q'.1) (hf:q.1<S.fixed):q.2.Zv=q'.2.Zv:=by
 have h:=H.zN
 unfold aw.zN at h
 simp only [Bool.and_eq_true,List.all_eq_true] at h
 have h1:=h.2.2.1 q hq q' hq'
 simp only [he,Nat.beq_refl,Bool.not_true,Bool.false_or] at h1
 rw [he] at hf
 rw [aa4 hf] at h1
 simpa using h1
theorem uw {q:Nat×CSh} (hq:q ∈ o.chunks):q.2.pq=false/\(q.1<S.fixed\/(q.1-S.fixed<64/\R.hp (base+(q.1-S.fixed))=none)):=by
 have h:=H.zN
 unfold aw.zN at h
 simp only [Bool.and_eq_true,List.all_eq_true] at h
 have h1:=h.2.2.2 q hq
 simp only [Bool.or_eq_true,Bool.and_eq_true,Bool.not_eq_true'] at h1
 refine ⟨h1.1,?_⟩
 rcases h1.2 with h2|h2
 ·exact .inl (dW h2)
 ·refine .inr ⟨dW h2.1,?_⟩
  have:=h2.2
  cases hq:R.hp (base+(q.1-S.fixed)) with
  |none=>rfl
  |some c=>rw [hq] at this;cases this
end
end Sx
end Go.Proofs.YtohjofabochgfaaGreat

namespace Go.Proofs.YtohjofabochgfaaGreat
namespace Sx
open Go
section
variable {R:Ctx} {w w':World} {S:aw} {args:List SV} {bd:Bd} {xc:OY S.chunks} {N N2:Ctx} {o:az} {yc:OY o.chunks} {base:Nat}
variable (H:AA R w w' S args bd xc N2 o yc base)
include H
theorem Q7 {n:Nat} {s:CSh} (h:(n,s) ∈ o.chunks):∃ y:s.T,N2.hp n=some ⟨0,bY s y⟩/\((S.nm bd R.hp base n).1,(⟨(S.nm bd R.hp base n).2,eg (S.nm bd R.hp base) s y⟩:Ch)) ∈ lD (S.nm bd R.hp base) o.chunks yc:=by
 obtain ⟨bd2,ok2,hp2,hp⟩:=H.aJZ
 obtain ⟨ch,hch⟩:=tR (x:=yc) (n:=n) ⟨s,h⟩
 obtain ⟨s',y,h1,h2,h3⟩:=dE hp hch
 obtain rfl:=ji H.aHb h h1
 have hg:=(uw H h).1
 have hep:s.ep=0:=by cases s<;>first|rfl|(cases hg;done)
 refine ⟨y,by rw [H.hp2,hch,h3,hep],?_⟩
 have:∀ {l:List (Nat×CSh)} {x:OY l},eP bd2 ok2 hp2 l=some x->(n,s) ∈ l->((S.nm bd R.hp base n).1,(⟨(S.nm bd R.hp base n).2,eg (S.nm bd R.hp base) s y⟩:Ch)) ∈ lD (S.nm bd R.hp base) l x:=by
  intro l
  induction l with
  |nil=>intro x _ hm;cases hm
  |cons q r ih=>
   intro x hp hm
   obtain ⟨p1,p2⟩:=bn hp
   simp only [lD,List.mem_cons]
   rcases List.mem_cons.1 hm with he|he
   ·subst he
    left
    have:x.1=y:=by
     have:=p1.symm.trans h2
     exact Option.some.inj this
    rw [this]
   ·exact .inr (ih p2 he)
 exact this hp h
theorem alY {c:Nat} {ch:Ch} (h:(c,ch) ∈ lD (S.nm bd R.hp base) o.chunks yc):∃ n s,∃ y:s.T,(n,s) ∈ o.chunks/\c=(S.nm bd R.hp base n).1/\N2.hp n=some ⟨0,bY s y⟩/\ch=⟨(S.nm bd R.hp base n).2,eg (S.nm bd R.hp base) s y⟩:=by
 obtain ⟨bd2,ok2,hp2,hp⟩:=H.aJZ
 obtain ⟨n,s,y,h1,h2,h3,h4⟩:=AJ hp h
 refine ⟨n,s,y,h1,h2,?_,h4⟩
 obtain ⟨ch,hch⟩:=tR (x:=yc) (n:=n) ⟨s,h1⟩
 obtain ⟨s',y',k1,k2,k3⟩:=dE hp hch
 obtain rfl:=ji H.aHb h1 k1
 have:y=y':=Option.some.inj (h3.symm.trans k2)
 subst this
 have hg:=(uw H h1).1
 have hep:s.ep=0:=by cases s<;>first|rfl|(cases hg;done)
 rw [H.hp2,hch,k3,hep]
omit H in
theorem anz {n:Nat} (h:n<S.fixed):S.nm bd R.hp base n=(nameOf bd n,akW R.hp (nameOf bd n)):=by
 unfold aw.nm;rw [aa4 h];rfl
omit H in
theorem aAR {n:Nat} (h:S.fixed<=n):S.nm bd R.hp base n=(base+(n-S.fixed),0):=by
 unfold aw.nm
 have:Nat.blt n S.fixed=false:=by
  cases hq:Nat.blt n S.fixed
  ·rfl
  ·have:=dW hq;omega
 rw [this];rfl
theorem mB {k:Nat} (hk:k<S.fixed):∃ c ch,∃ ch2:Ch,dI bd k=some (some c)/\nameOf bd k=c/\R.hp c=some ch/\akW R.hp c=ch.ep/\N2.hp k=some ch2/\ch2.ep=0/\ch2.body.shape=ch.body.shape/\N2.σ k=R.σ c/\
 (∃ cs,(k,cs) ∈ S.chunks/\(!cs.Zv)=ch.body.mut):=by
 obtain ⟨⟨c,hb⟩,s,hs⟩:=ML H hk
 obtain ⟨cs,y,h1,h2⟩:=Wb (s:=S.inp) (st:=⟨args,R.hp⟩) H.ok H.hx hb
 simp only [kM,hb] at h1
 split at h1
 ·rename_i ch hch
  obtain ⟨y2,g1,_⟩:=Q7 H hs
  obtain ⟨ch2,e1,e2,e3⟩:=H.ext.ch k ⟨0,bY cs y⟩ (by
   show cond (Nat.blt k S.fixed) (dq S.chunks xc k) none=_
   rw [aa4 hk];exact h2)
  rw [g1] at e1
  cases e1
  have e4:=e3 rfl
  refine ⟨c,ch,_,hb,by simp only [nameOf,hb],hch,by simp only [akW,show R.hp c=some ch from hch],g1,rfl,e4.1.trans (yh h1),?_,?_⟩
  ·rw [e4.2];simp only [Ctx.aJV,Ctx.named,hb]
  ·obtain ⟨s3,y3,k1,k2,k3⟩:=dE H.hx h2
   simp only [kM,hb,show R.hp c=some ch from hch] at k2
   refine ⟨s3,k1,?_⟩
   rw [<-Ha k2,Zw]
 ·cases h1
theorem aCW {n m:Nat} {s s':CSh} (hn:(n,s) ∈ o.chunks) (hm:(m,s') ∈ o.chunks) (h:(S.nm bd R.hp base n).1=(S.nm bd R.hp base m).1):n=m:=by
 have half:∀ {a b:Nat} {t t':CSh},(a,t) ∈ o.chunks->(b,t') ∈ o.chunks->a<S.fixed->S.fixed<=b->(S.nm bd R.hp base a).1=(S.nm bd R.hp base b).1->False:=λ{a b t t'} h1 h2 h3 h4 h5=>by
  rw [anz h3,aAR h4] at h5
  obtain ⟨c,ch,_,g1,g2,g3,_⟩:=mB H h3
  rcases (uw H h2).2 with hq|hq
  ·have:b<S.fixed:=hq
   omega
  ·simp only at h5
   rw [<-h5,g2,g3] at hq
   cases hq.2
 rcases Nat.lt_or_ge n S.fixed with h1|h1<;>rcases Nat.lt_or_ge m S.fixed with h2|h2
 ·rw [anz h1,anz h2] at h
  obtain ⟨c,_,_,g1,g2,_⟩:=mB H h1
  obtain ⟨c',_,_,g1',g2',_⟩:=mB H h2
  have hcc:c=c':=by rw [<-g2,<-g2'];exact h
  have hok:=H.ok
  unfold Shape.Jd at hok
  simp only [Bool.and_eq_true,List.all_eq_true,List.any_eq_true] at hok
  obtain ⟨p,hp,hpe⟩:=hok.1.2 _ (lq g1)
  obtain ⟨p',hp',hpe'⟩:=hok.1.2 _ (lq g1')
  have e1:=Nat.eq_of_beq_eq_true hpe
  have e2:=Nat.eq_of_beq_eq_true hpe'
  have h3:=hok.1.1.2 p hp p' hp'
  rw [e1,e2] at h3
  simp only at h3
  rw [g1,g1',hcc] at h3
  simp only [Nat.beq_refl,Bool.not_true,Bool.or_false] at h3
  exact Nat.eq_of_beq_eq_true h3
 ·exact (half hn hm h1 h2 h).elim
 ·exact (half hm hn h2 h1 h.symm).elim
 ·rw [aAR h1,aAR h2] at h
  simp only at h
  omega
theorem S9 {n:Nat} {s:CSh} (h:(n,s) ∈ o.chunks):(R.ek bd w S N2 o yc base).σ (S.nm bd R.hp base n).1=N2.σ n:=by
 show (match o.chunks.find? (λq=>Nat.beq (S.nm bd R.hp base q.1).1 (S.nm bd R.hp base n).1) with|some q=>N2.σ q.1|none=>_)=_
 cases hf:o.chunks.find? (λq=>Nat.beq (S.nm bd R.hp base q.1).1 (S.nm bd R.hp base n).1) with
 |none=>
  have:=List.find?_eq_none.1 hf (n,s) h
  simp at this
 |some q=>
  have h1:=List.find?_some hf
  have h2:=List.mem_of_find?_eq_some hf
  have h3:q.1=n:=aCW H (s:=q.2) (s':=s) h2 h (Nat.eq_of_beq_eq_true h1)
  simp only [h3]
omit H in
theorem Xe {c:Nat} (h:c ∉ bF (lD (S.nm bd R.hp base) o.chunks yc)):(R.ek bd w S N2 o yc base).σ c=(open Classical in if c ∈ bF (dx bd R.hp S.fixed S.chunks) then none else R.σ c):=by
 show (match o.chunks.find? (λq=>Nat.beq (S.nm bd R.hp base q.1).1 c) with|some q=>N2.σ q.1|none=>_)=_
 cases hf:o.chunks.find? (λq=>Nat.beq (S.nm bd R.hp base q.1).1 c) with
 |none=>rfl
 |some q=>
  exfalso
  have h1:=Nat.eq_of_beq_eq_true (List.find?_some (p:=λq:Nat×CSh=>Nat.beq (S.nm bd R.hp base q.1).1 c) hf)
  have h2:=List.mem_of_find?_eq_some hf
  exact h (qv.2 ⟨q.1,q.2,h2,h1.symm⟩)
theorem U6 {c:Nat} {ch:Ch} (h:(R.ek bd w S N2 o yc base).hp c=some ch):
 (∃ n s,∃ y:s.T,(n,s) ∈ o.chunks/\c=(S.nm bd R.hp base n).1/\N2.hp n=some ⟨0,bY s y⟩/\ch=⟨(S.nm bd R.hp base n).2,eg (S.nm bd R.hp base) s y⟩/\(R.ek bd w S N2 o yc base).σ c=N2.σ n)\/
 (ch=⟨akW R.hp c+1,.row .u8 []⟩/\(R.ek bd w S N2 o yc base).σ c=none)\/
 (c ∉ bF (lD (S.nm bd R.hp base) o.chunks yc)/\c ∉ bF (dx bd R.hp S.fixed S.chunks)/\R.hp c=some ch/\(R.ek bd w S N2 o yc base).σ c=R.σ c):=by
 have hh:eu (eu R.hp (dx bd R.hp S.fixed S.chunks)) (lD (S.nm bd R.hp base) o.chunks yc) c=some ch:=by
  rw [<-ii];exact h
 by_cases h1:c ∈ bF (lD (S.nm bd R.hp base) o.chunks yc)
 ·obtain ⟨ch',h2,h3⟩:=tq _ (hp:=eu R.hp (dx bd R.hp S.fixed S.chunks)) h1
  rw [h3] at hh
  cases hh
  obtain ⟨n,s,y,k1,k2,k3,k4⟩:=alY H h2
  exact .inl ⟨n,s,y,k1,k2,k3,k4,by rw [k2];exact S9 H k1⟩
 ·rw [ee _ h1] at hh
  have hs:=Xe (w:=w) (N2:=N2) h1
  by_cases h2:c ∈ bF (dx bd R.hp S.fixed S.chunks)
  ·obtain ⟨ch',h3,h4⟩:=tq _ (hp:=R.hp) h2
   rw [h4] at hh
   cases hh
   rw [if_pos h2] at hs
   exact .inr (.inl ⟨(lE h3).2,hs⟩)
  ·rw [ee _ h2] at hh
   rw [if_neg h2] at hs
   exact .inr (.inr ⟨h1,h2,hh,hs⟩)
theorem alX {c:Nat} {ch ch':Ch} (h:(c,ch) ∈ lD (S.nm bd R.hp base) o.chunks yc) (h':(c,ch') ∈ lD (S.nm bd R.hp base) o.chunks yc):ch=ch':=by
 obtain ⟨bd2,ok2,hp2,hp⟩:=H.aJZ
 obtain ⟨n,s,y,a1,a2,a3,a4⟩:=AJ hp h
 obtain ⟨n',s',y',b1,b2,b3,b4⟩:=AJ hp h'
 have e1:=aCW H a1 b1 (a2.symm.trans b2)
 subst e1
 obtain rfl:=ji H.aHb a1 b1
 have e2:y=y':=Option.some.inj (a3.symm.trans b3)
 rw [a4,b4,e2]
theorem aI5 {n:Nat} {s:CSh} (h:(n,s) ∈ o.chunks):∃ y:s.T,N2.hp n=some ⟨0,bY s y⟩/\(R.ek bd w S N2 o yc base).hp (S.nm bd R.hp base n).1=some ⟨(S.nm bd R.hp base n).2,eg (S.nm bd R.hp base) s y⟩:=by
 obtain ⟨y,h1,h2⟩:=Q7 H h
 refine ⟨y,h1,?_⟩
 obtain ⟨ch',h3,h4⟩:=tq _ (hp:=eu R.hp (dx bd R.hp S.fixed S.chunks)) (auG h2)
 have e:=alX H h2 h3
 rw [e,<-h4]
 show eu R.hp (_++_) _=_
 rw [ii]
theorem asz:Wl N2 (R.ek bd w S N2 o yc base) (S.nm bd R.hp base) (!S.bz):=by
 refine ⟨λn ch h=> ?_,λh b o' hb=>Nt H (by simpa using h) b o' hb⟩
 rw [H.hp2] at h
 obtain ⟨bd2,ok2,hp2,hp⟩:=H.aJZ
 obtain ⟨s,y,h1,_,_⟩:=dE hp h
 obtain ⟨y',k1,k2⟩:=aI5 H h1
 rw [H.hp2,h] at k1
 cases k1
 exact ⟨rfl,_,k2,rfl,tS,S9 H h1⟩
theorem Q8 {c:Nat} {ch:Ch} {L:Loc} (h1:c ∉ bF (lD (S.nm bd R.hp base) o.chunks yc)) (h2:c ∉ bF (dx bd R.hp S.fixed S.chunks)) (hc:R.hp c=some ch) (hm:ch.body.mut=true) (hL:R.σ c=some L):¬R.CJ bd L.block:=by
 rintro ⟨n,c',ch',L',k1,k2,k3,k4,k5⟩
 have:=H.hm.apart c' c ch' ch L' L k2 hc k3 hm k4 hL k5
 subst this
 rcases Nat.lt_or_ge n S.fixed with hn|hn
 ·obtain ⟨_,s,hs⟩:=ML H hn
  refine h1 (qv.2 ⟨n,s,hs,?_⟩)
  rw [anz hn]
  simp only [nameOf,k1]
 ·have hok:=H.ok
  unfold Shape.Jd at hok
  simp only [Bool.and_eq_true,List.all_eq_true,List.any_eq_true] at hok
  obtain ⟨p,hp,hpe⟩:=hok.1.2 _ (lq k1)
  have e1:p.1=n:=Nat.eq_of_beq_eq_true hpe
  subst e1
  exact h2 (JA (s:=p.2) hp k1 hn)
end
end Sx
end Go.Proofs.YtohjofabochgfaaGreat

namespace Go.Proofs.YtohjofabochgfaaGreat
namespace Sx
open Go
theorem CC {N R:Ctx} {ν:Nm} {lists:Bool} (hr:Wl N R ν lists):∀ {l:List Sh} (_:lists=true\/l.any Sh.cx=false) {x:ShT l} {us:List Value},SV.bV N (k8 l x) us->SV.bV R (pv ν l x) us
 | [],_,_,_,h=>h
 |s::r,hl,x,us,h=>by
  have h1:lists=true\/s.cx=false:=hl.imp_right λe=>by simp only [List.any_cons,Bool.or_eq_false_iff] at e;exact e.1
  have h2:lists=true\/r.any Sh.cx=false:=hl.imp_right λe=>by simp only [List.any_cons,Bool.or_eq_false_iff] at e;exact e.2
  simp only [k8] at h
  simp only [pv]
  have hlen:=SV.aV h
  have t1:=SV.du h (pu s x.1).length
  have t2:=SV.dv h (pu s x.1).length
  rw [List.take_left] at t1
  rw [List.drop_left] at t2
  have:=SV.cq (zp hr h1 t1) (CC hr h2 t2)
  rwa [List.take_append_drop] at this
section
variable {R:Ctx} {w w':World} {S:aw} {args:List SV} {bd:Bd} {xc:OY S.chunks} {N N2:Ctx} {o:az} {yc:OY o.chunks} {base:Nat}
variable (H:AA R w w' S args bd xc N2 o yc base)
include H
theorem alc:R.Ext (R.ek bd w S N2 o yc base):=by
 refine ⟨C1 H,rfl,λc ch hc=> ?_⟩
 by_cases h1:c ∈ bF (lD (S.nm bd R.hp base) o.chunks yc)
 ·obtain ⟨n,s,hs,rfl⟩:=qv.1 h1
  obtain ⟨y,k1,k2⟩:=aI5 H hs
  refine ⟨_,k2,?_⟩
  rcases Nat.lt_or_ge n S.fixed with hn|hn
  ·obtain ⟨c',ch',ch2,g1,g2,g3,g4,g5,g6,g7,g8,_⟩:=mB H hn
   have hσ:=S9 H hs
   rw [anz hn] at hc hσ⊢
   simp only [g2] at hc hσ⊢
   rw [g3] at hc
   cases hc
   rw [k1] at g5
   cases g5
   refine ⟨by rw [g4];exact Nat.le_refl _,λ_=>⟨?_,?_⟩⟩
   ·simp only [tS];exact g7
   ·rw [hσ,g8]
  ·exfalso
   rcases (uw H hs).2 with hq|hq
   ·have:n<S.fixed:=hq
    omega
   ·rw [aAR hn] at hc
    have h2:R.hp (base+(n-S.fixed))=none:=hq.2
    rw [h2] at hc
    cases hc
 ·by_cases h2:c ∈ bF (dx bd R.hp S.fixed S.chunks)
  ·obtain ⟨ch',h3,h4⟩:=tq _ (hp:=R.hp) h2
   refine ⟨ch',?_,?_⟩
   ·show eu R.hp (_++_) c=_
    rw [ii,ee _ h1,h4]
   ·rw [(lE h3).2]
    have:akW R.hp c=ch.ep:=by simp only [akW,hc]
    rw [this]
    exact ⟨Nat.le_succ _,λe=>absurd e (by simp)⟩
  ·refine ⟨ch,?_,Nat.le_refl _,λ_=>⟨rfl,?_⟩⟩
   ·show eu R.hp (_++_) c=_
    rw [ii,ee _ h1,ee _ h2,hc]
   ·rw [Xe h1,if_neg h2]
theorem asy {s:CSh} {n:Nat} (h:(n,s) ∈ o.chunks) (t:Ty) (ht:s=.row t\/s=.frz t):∀ (x:t.T) (cs:List Value),Rep N2.F t x cs->Rep (R.jA bd w N2) t x cs:=λx cs hr=>by
 rcases rz H with hb|⟨_,hq⟩
 ·exact cn (Nt H hb) _ _ _ hr
 ·have:=(hq _ h).1
  refine xC t ?_ x cs hr
  rcases ht with rfl|rfl<;>exact this
theorem aBa {s:CSh} {n:Nat} (h:(n,s) ∈ o.chunks):(!S.bz)=true\/s.cx=false:=by
 rcases rz H with hb|⟨_,hq⟩
 ·exact .inl (by rw [hb];rfl)
 ·exact .inr (hq _ h).1
theorem afq {n:Nat} {s:CSh} {y:s.T} (hs:(n,s) ∈ o.chunks) (hn:N2.hp n=some ⟨0,bY s y⟩) {e:Nat} {c:Nat} (hσ:(R.ek bd w S N2 o yc base).σ c=N2.σ n) (hc:c=(S.nm bd R.hp base n).1):
 eV (R.ek bd w S N2 o yc base) w' c ⟨e,eg (S.nm bd R.hp base) s y⟩:=by
 have h0:=H.hm2.ch n _ hn
 have hrep:=asy H hs
 have hgone:=(uw H hs).1
 cases s with
 |row t=>
  simp only [eV,bY,eg] at h0⊢
  rw [hσ]
  refine ⟨h0.1,h0.2.1,?_⟩
  cases hL:N2.σ n with
  |none=>have:=h0.2.2;rw [hL] at this;exact this
  |some L=>
   have:=h0.2.2
   rw [hL] at this
   obtain ⟨c1,c2,arr,E,c3,c4,c5,c6⟩:=this
   obtain ⟨_,d2,d3,_⟩:=Nj H c1 c2
   exact ⟨d3,d2,arr,E,c3,c4,c5,λi hi=>hrep t (.inl rfl) _ _ (c6 i hi)⟩
 |frz t=>
  simp only [eV,bY,eg] at h0⊢
  rw [hσ]
  refine ⟨h0.1,h0.2.1,?_⟩
  cases hL:N2.σ n with
  |none=>have:=h0.2.2;rw [hL] at this;exact this
  |some L=>
   have:=h0.2.2
   rw [hL] at this
   obtain ⟨arr,E,fz,c3,c4,c5,c6⟩:=this
   refine ⟨arr,E,fz,?_,c4,c5,λi hi=>hrep t (.inr rfl) _ _ (c6 i hi)⟩
   show R.jA bd w N2 L.block=_
   rcases rz H with hb|⟨_,hq⟩
   ·exact Nt H hb _ _ c3
   ·have hf:n<S.fixed:=(hq _ hs).2 rfl
    obtain ⟨c',ch',ch2,g1,g2,g3,g4,g5,g6,g7,g8,cs,g9,g10⟩:=mB H hf
    have hfz:=avW H hs g9 rfl hf
    have hmu:ch'.body.mut=false:=by rw [<-g10,<-hfz];rfl
    obtain ⟨o',ho⟩:=(eD H.hm g3 (by rw [<-g8];exact hL)).2 hmu
    have h1:=C1 H _ _ ho
    have h2:=Ns H _ _ h1
    rw [H.hm2.F _ _ c3] at h2
    cases h2
    exact h1
 |cells l=>
  simp only [eV,bY,eg] at h0⊢
  obtain ⟨L,h1,h2,h3,arr,E,h4,h5,h6,h7,h8⟩:=h0
  obtain ⟨_,d2,d3,_⟩:=Nj H h2 h3
  refine ⟨L,by rw [hσ];exact h1,d3,d2,arr,E,h4,h5,h6.trans (ky (l:=l) (x:=y)).symm,CC (asz H) ?_ h7,h8⟩
  exact aBa H hs
 |gone=>cases hgone
theorem aBV:dt (R.ek bd w S N2 o yc base) w':=by
 refine ⟨Ns H,λb o' h=> ?_,λc ch hc=> ?_,λc c' ch ch' L L' h1 h2 m1 m2 s1 s2 hb=> ?_,λb o' h=> ?_,by have h2:=H.hm2.env;rw [H.inU] at h2;exact h2⟩
 ·have h1:=H.hm.U b o' h
  have hlt:=(Array.getElem?_eq_some_iff.1 h1).1
  replace h:R.U b=some o':=h
  rw [H.old b hlt (λhq=>by rw [(F7 H.hm hq).2] at h;cases h)]
  exact h1
 ·rcases U6 H hc with ⟨n,s,y,k1,k2,k3,rfl,k5⟩|⟨rfl,k2⟩|⟨k1,k2,k3,k4⟩
  ·exact afq H k1 k3 k5 k2
  ·simp only [eV]
   rw [k2]
   exact ⟨by decide,by simp,trivial⟩
  ·have h0:=H.hm.ch c ch k3
   have hfree:∀ L,ch.body.mut=true->R.σ c=some L->¬R.CJ bd L.block:=λL hm hL=>Q8 H k1 k2 k3 hm hL
   obtain ⟨ep,body⟩:=ch
   cases body with
   |row t xs=>
    simp only [eV] at h0⊢
    rw [k4]
    refine ⟨h0.1,h0.2.1,?_⟩
    cases hL:R.σ c with
    |none=>have:=h0.2.2;rw [hL] at this;exact this
    |some L=>
     have:=h0.2.2
     rw [hL] at this
     obtain ⟨c1,c2,arr,E,c3,c4,c5,c6⟩:=this
     have hlt:=(Array.getElem?_eq_some_iff.1 c3).1
     have hf:=hfree L rfl hL
     refine ⟨?_,c2,arr,E,(H.old _ hlt hf).trans c3,c4,c5,λi hi=>cn (C1 H) _ _ _ (c6 i hi)⟩
     show R.jA bd w N2 L.block=none
     unfold Ctx.jA
     rw [if_pos ⟨hlt,hf⟩]
     exact c1
   |frz t xs=>
    simp only [eV] at h0⊢
    rw [k4]
    refine ⟨h0.1,h0.2.1,?_⟩
    cases hL:R.σ c with
    |none=>have:=h0.2.2;rw [hL] at this;exact this
    |some L=>
     have:=h0.2.2
     rw [hL] at this
     obtain ⟨arr,E,fz,c3,c4,c5,c6⟩:=this
     exact ⟨arr,E,fz,C1 H _ _ c3,c4,c5,λi hi=>cn (C1 H) _ _ _ (c6 i hi)⟩
   |cells vs=>
    simp only [eV] at h0⊢
    obtain ⟨L,hL,c1,c2,arr,E,c3,c4,c5,c6,c7⟩:=h0
    have hlt:=(Array.getElem?_eq_some_iff.1 c3).1
    have hf:=hfree L rfl hL
    refine ⟨L,k4.trans hL,?_,c2,arr,E,(H.old _ hlt hf).trans c3,c4,c5,SV.dN (alc H) _ _ c6,c7⟩
    show R.jA bd w N2 L.block=none
    unfold Ctx.jA
    rw [if_pos ⟨hlt,hf⟩]
    exact c1
 ·have inn:∀ (n:Nat) (s:CSh) (y:s.T) (L:Loc),N2.hp n=some ⟨0,bY s y⟩->(bY s y).mut=true->N2.σ n=some L->w.heap.size<=L.block\/R.CJ bd L.block:=λn s y L a1 a2 a3=>by
   have:=(eD H.hm2 a1 a3).1 a2
   exact (Nj H this.1 this.2).2.2.2
  have out:∀ (c:Nat) (ch:Ch) (L:Loc),c ∉ bF (lD (S.nm bd R.hp base) o.chunks yc)->c ∉ bF (dx bd R.hp S.fixed S.chunks)->R.hp c=some ch->ch.body.mut=true->R.σ c=some L->L.block<w.heap.size/\¬R.CJ bd L.block:=λc ch L a1 a2 a3 a4 a5=>by
   refine ⟨?_,Q8 H a1 a2 a3 a4 a5⟩
   have h0:=H.hm.ch c ch a3
   obtain ⟨ep,body⟩:=ch
   cases body with
   |row t xs=>
    simp only [eV,a5] at h0
    obtain ⟨_,_,_,_,arr,E,c3,_⟩:=h0
    exact (Array.getElem?_eq_some_iff.1 c3).1
   |frz t xs=>cases a4
   |cells vs=>
    simp only [eV] at h0
    obtain ⟨L',hL,_,_,arr,E,c3,_⟩:=h0
    rw [a5] at hL
    cases hL
    exact (Array.getElem?_eq_some_iff.1 c3).1
  rcases U6 H h1 with ⟨n,s,y,k1,k2,k3,rfl,k5⟩|⟨rfl,k2⟩|⟨k1,k2,k3,k4⟩<;>
   rcases U6 H h2 with ⟨n',s',y',k1',k2',k3',rfl,k5'⟩|⟨rfl,k2'⟩|⟨k1',k2',k3',k4'⟩
  ·rw [k5] at s1
   rw [k5'] at s2
   have a1:(bY s y).mut=true:=by rw [<-k7];exact m1
   have a2:(bY s' y').mut=true:=by rw [<-k7];exact m2
   have:=H.hm2.apart n n' _ _ L L' k3 k3' a1 a2 s1 s2 hb
   rw [k2,k2',this]
  ·rw [k2'] at s2;cases s2
  ·rw [k5] at s1
   rw [k4'] at s2
   have a1:(bY s y).mut=true:=by rw [<-k7];exact m1
   have h3:=inn n s y L k3 a1 s1
   have h4:=out c' ch' L' k1' k2' k3' m2 s2
   rw [hb] at h3
   rcases h3 with h3|h3
   ·omega
   ·exact absurd h3 h4.2
  ·rw [k2] at s1;cases s1
  ·rw [k2] at s1;cases s1
  ·rw [k2] at s1;cases s1
  ·rw [k5'] at s2
   rw [k4] at s1
   have a1:(bY s' y').mut=true:=by rw [<-k7];exact m2
   have h3:=inn n' s' y' L' k3' a1 s2
   have h4:=out c ch L k1 k2 k3 m1 s1
   rw [<-hb] at h3
   rcases h3 with h3|h3
   ·omega
   ·exact absurd h3 h4.2
  ·rw [k2'] at s2;cases s2
  ·rw [k4] at s1
   rw [k4'] at s2
   exact H.hm.apart c c' ch ch' L L' k3 k3' m1 m2 s1 s2 hb
 ·replace h:R.jA bd w N2 b=some o':=h
  show R.U b=none
  unfold Ctx.jA at h
  split at h
  ·exact H.hm.FU b o' h
  ·rename_i hq
   cases hU:R.U b with
   |none=>rfl
   |some o2=>
    have hlt:=(Array.getElem?_eq_some_iff.1 (H.hm.U b o2 hU)).1
    refine absurd ⟨hlt,λhbd=> ?_⟩ hq
    rw [(F7 H.hm hbd).2] at hU
    cases hU
theorem apk:fy R (R.ek bd w S N2 o yc base) w' (dx bd R.hp S.fixed S.chunks++lD (S.nm bd R.hp base) o.chunks yc):=
 ⟨alc H,rfl,aBV H⟩
end
end Sx
end Go.Proofs.YtohjofabochgfaaGreat

namespace Go.Proofs.YtohjofabochgfaaGreat
namespace Sx
open Go
theorem my:∀ {l:List (Nat×Sh)} {x:SlT l} {tm:List SV},(fM l x tm).length=tm.length
 | [],_,_=>rfl
 |c::r,x,tm=>by simp only [fM,my,List.length_set]
theorem yl:∀ {rs:List Sh} {i j:Nat} {x:SlT (indexed j rs)} {tm:List SV},i<j->(fM (indexed j rs) x tm)[i]? =tm[i]?
 | [],_,_,_,_,_=>rfl
 |s::r,i,j,x,tm,h=>by
  simp only [indexed,fM]
  refine (yl (rs:=r) (i:=i) (j:=j+1) (x:=x.2) (by omega)).trans ?_
  rw [List.getElem?_set_ne (by omega)]
theorem sO {N R:Ctx} {ν:Nm} {lists:Bool} (hr:Wl N R ν lists):∀ {rs:List Sh} (_:lists=true\/rs.any Sh.cx=false) {i:Nat} {y:SlT (indexed i rs)} {tm:List SV} {us:List Value},tm.length=i+rs.length->
 SV.bV N (fM (indexed i rs) y tm) us->SV.bV R (aw.emit.go ν i rs y) (us.drop i)
 | [],_,i,y,tm,us,hl,h=>by
  have:=SV.aV h
  simp only [indexed,fM] at this
  simp only [List.length_nil] at hl
  simp only [aw.emit.go]
  rw [List.drop_eq_nil_of_le (by omega)]
  exact vH
 |s::r,hl',i,y,tm,us,hl,h=>by
  have h1:lists=true\/s.cx=false:=hl'.imp_right λe=>by simp only [List.any_cons,Bool.or_eq_false_iff] at e;exact e.1
  have h2:lists=true\/r.any Sh.cx=false:=hl'.imp_right λe=>by simp only [List.any_cons,Bool.or_eq_false_iff] at e;exact e.2
  simp only [List.length_cons] at hl
  have hlen:=SV.aV h
  rw [my] at hlen
  have hi:i<us.length:=by omega
  have ih:=sO hr h2 (i:=i+1) (y:=y.2) (tm:=tm.set i (tQ s y.1)) (us:=us) (by rw [List.length_set];omega) h
  have hi2:i<(fM (indexed i (s::r)) y tm).length:=by rw [my];omega
  have hv:=SV.m8 h i hi2 hi
  have hg:(fM (indexed i (s::r)) y tm)[i]=tQ s y.1:=by
   have:(fM (indexed i (s::r)) y tm)[i]? =some (tQ s y.1):=by
    simp only [indexed,fM]
    refine (yl (rs:=r) (i:=i) (j:=i+1) (x:=y.2) (by omega)).trans ?_
    rw [List.getElem?_set_self (by omega)]
   rw [List.getElem?_eq_getElem hi2] at this
   exact Option.some.inj this
  rw [hg] at hv
  simp only [aw.emit.go]
  rw [List.drop_eq_getElem_cons hi]
  simp only [SV.bV]
  exact ⟨_,_,rfl,Xb hr h1 hv,ih⟩
theorem MM {ν:Nm}:∀ {rs:List Sh} {i:Nat} {y:SlT (indexed i rs)},(aw.emit.go ν i rs y).length=rs.length
 | [],_,_=>rfl
 |s::r,i,y=>by simp only [aw.emit.go,List.length_cons,MM]
theorem azV {R:Ctx} {n:Nat} {x:SV} {v:Value} {l:List SV} (hv:SV.rel R x v) (hn:(asx n x).length=n) (hl:l.length=n):∃ us,SV.bV R (asx n x) us/\∀ R',SV.bV R' l us->SV.rel R' (oneOf l) v:=by
 unfold asx at hn⊢
 cases hb:Nat.beq n 1
 ·rw [hb] at hn
  simp only [cond_false] at hn⊢
  have hne:n≠1:=λe=>by subst e;cases hb
  cases x<;>simp only [List.length_replicate] at hn⊢ <;>try omega
  case tup q=>
   simp only [SV.rel] at hv
   obtain ⟨vs,rfl,h1⟩:=hv
   refine ⟨vs,h1,λR' h2=> ?_⟩
   cases l with
   |nil=>simp only [oneOf,SV.rel];exact ⟨vs,rfl,h2⟩
   |cons a l=>
    cases l with
    |nil=>simp at hl;omega
    |cons b l=>simp only [oneOf,SV.rel];exact ⟨vs,rfl,h2⟩
 ·have:=Nat.eq_of_beq_eq_true hb
  subst this
  simp only [cond_true]
  refine ⟨[v],bg hv,λR' h2=> ?_⟩
  cases l with
  |nil=>simp at hl
  |cons a l=>
   cases l with
   |nil=>
    simp only [oneOf]
    obtain ⟨v',e,h⟩:=cJ h2
    cases e
    exact h
   |cons b l=>simp at hl
section
variable {P:Program} {te:TE} {Φ:Env} (hte:mZ P te) (hΦ:aQ P Φ) (hany:aW P te Φ)
theorem Z3 {R N1:Ctx} {w w':World} {S:aw} {args:List SV} {x:S.T} {k d:Nat} (hm:dt R w) (hx:S.inp.prj ⟨args,R.hp⟩=some x)
 (hk:S.chunks.all (λc=>Nat.blt c.1 k&& !c.2.pq)=true)
 (h1:(R.named (R.yk (S.inp.bd ⟨args,R.hp⟩) S.bz w) (R.FA (S.inp.bd ⟨args,R.hp⟩) S.bz w) (S.inp.bd ⟨args,R.hp⟩) (dq S.chunks x.2)).Ext N1) (hm1:dt N1 w') {o:az} {y:(o.shape S.fixed).T} {pan:Bool} {v:SV} {u:Value}
 (hv:SV.rel N1 v u) (hy:o.is y pan v N1.hp) (hend:S.zN (S.inp.bd ⟨args,R.hp⟩) R.hp (fresh R.hp d) o=true):
 ∃ R',fy R R' w' (dx (S.inp.bd ⟨args,R.hp⟩) R.hp S.fixed S.chunks++lD (S.nm (S.inp.bd ⟨args,R.hp⟩) R.hp (fresh R.hp d)) o.chunks y.2)/\
  SV.rel R' (oneOf (aw.emit.indexedN (S.nm (S.inp.bd ⟨args,R.hp⟩) R.hp (fresh R.hp d)) o.rs y.1)) u:=by
 obtain ⟨_,hy⟩:=hy
 unfold Shape.prj at hx
 dsimp only at hx
 generalize hbd:S.inp.bd ⟨args,R.hp⟩=bd at*
 cases hb:S.inp.Jd ⟨args,R.hp⟩ bd&&Nat.beq args.length S.inp.n
 ·rw [hb] at hx;cases hx
 ·rw [hb] at hx
  rw [Bool.and_eq_true] at hb
  obtain ⟨hx1,hx2⟩:=bn hx
  have hy':=hy
  unfold Shape.prj at hy'
  dsimp only at hy'
  cases hb2:(o.shape S.fixed).Jd ⟨asx o.rs.length v,N1.hp⟩ ((o.shape S.fixed).bd ⟨asx o.rs.length v,N1.hp⟩)&&Nat.beq (asx o.rs.length v).length (o.shape S.fixed).n
  ·rw [hb2] at hy';cases hy'
  ·rw [hb2] at hy'
   rw [Bool.and_eq_true] at hb2
   obtain ⟨hy1,hy2⟩:=bn hy'
   have hlen:(asx o.rs.length v).length=o.rs.length:=Nat.eq_of_beq_eq_true hb2.2
   obtain ⟨us,hus,hback⟩:=azV (l:=aw.emit.indexedN (S.nm bd R.hp (fresh R.hp d)) o.rs y.1) hv hlen MM
   have hsm:Small ((R.named (R.yk bd S.bz w) (R.FA bd S.bz w) bd (dq S.chunks x.2)).aJV S.fixed) (o.shape S.fixed).fixed:=λc ch hc=>by
    replace hc:cond (Nat.blt c S.fixed) (dq S.chunks x.2 c) none=some ch:=hc
    cases hq:Nat.blt c S.fixed
    ·rw [hq] at hc;cases hc
    ·rw [hq] at hc
     refine ⟨dW hq,?_⟩
     obtain ⟨s,y',g1,g2,g3⟩:=dE hx2 (hc:dq S.chunks x.2 c=some ch)
     have:=(List.all_eq_true.1 hk) _ g1
     simp only [Bool.and_eq_true,Bool.not_eq_true'] at this
     rw [g3]
     cases s<;>first|rfl|(cases this.2;done)
   have hext:((R.named (R.yk bd S.bz w) (R.FA bd S.bz w) bd (dq S.chunks x.2)).aJV S.fixed).Ext N1:=⟨h1.F,h1.U,λc ch hc=>by
    replace hc:cond (Nat.blt c S.fixed) (dq S.chunks x.2 c) none=some ch:=hc
    cases hq:Nat.blt c S.fixed
    ·rw [hq] at hc;cases hc
    ·rw [hq] at hc
     exact h1.ch c ch hc⟩
   obtain ⟨N2,g1,g2⟩:=Shape.aKC (s:=o.shape S.fixed) (a:= {tmps:=us.toArray,defers:= []}) hsm hext ⟨rfl,hm1,hus,rfl⟩ hy
   have hd2:distinct (o.chunks.map (·.1))=true:=by
    have:=hb2.1
    unfold Shape.Jd at this
    simp only [Bool.and_eq_true] at this
    exact this.1.1.1
   have H:AA R w w' S args bd x.2 N2 o y.2 (fresh R.hp d):=⟨hm,hb.1,hx2,g1,g2.mem,g2.hp,⟨_,_,_,hy2⟩,hd2,hend⟩
   refine ⟨R.ek bd w S N2 o y.2 (fresh R.hp d),apk H,hback _ ?_⟩
   have ht:=g2.tm
   have:=sO (asz H) (rs:=o.rs) ?_ (i:=0) (y:=y.1) (tm:=List.replicate o.rs.length .bT) (us:=us) (by simp) ht
   ·exact this
   ·rcases rz H with h|h
    ·exact .inl (by rw [h];rfl)
    ·exact .inr h.1
include hte hΦ hany
theorem aGP {f:FuncId} {fn:Func} {c:Code} (hf:P.funcs[f]? =some fn) (hb:fn.body=some c) (hname:(fn.name== "runtime.NumGoroutine")=false) {S:aw} {k:Nat} (hk:S.chunks.all (λc=>Nat.blt c.1 k&& !c.2.pq)=true) {Λ:Lam}
 (hΛ:∀ R,Small R k->yd P R Λ c) {n:Nat} {pre:S.T->Bool} {F:S.T->OT S.Y}
 (h:∀ x oy,pre x=true->(F x).run=some oy->∃ K Kp,wpf te Φ Λ n fn (S.inp.inj x).tm (S.inp.inj x).hp K Kp/\(∀ v hp,K v hp->oy.1.is oy.2 false v hp)/\∀ v hp,Kp v hp->oy.1.is oy.2 true v hp):ac P f (S.aI pre F):=by
 refine ⟨?_⟩
 intro R w d args vs out hm hr hrun
 refine .inl ⟨fn,hf,hname,by rw [hb];rfl,?_⟩
 simp only [aw.aI] at hrun
 split at hrun
 ·cases hrun
 ·rename_i x hx
  obtain ⟨hpre,h2⟩:=OT.aJ hrun
  obtain ⟨oy,h3,h4⟩:=OT.run_bind h2
  unfold aw.emit at h4
  dsimp only at h4
  obtain ⟨hend,h5⟩:=OT.aJ h4
  obtain ⟨K,Kp,hwp,hK1,hK2⟩:=h x oy hpre h3
  have hx':=hx
  unfold Shape.prj at hx'
  dsimp only at hx'
  cases hbo:S.inp.Jd ⟨args,R.hp⟩ (S.inp.bd ⟨args,R.hp⟩)&&Nat.beq args.length S.inp.n
  ·rw [hbo] at hx';cases hx'
  ·rw [hbo] at hx'
   rw [Bool.and_eq_true] at hbo
   obtain ⟨hx1,hx2⟩:=bn hx'
   have hlen:args.length=S.inp.n:=Nat.eq_of_beq_eq_true hbo.2
   have hN:=BU (s:=S.inp) (st:=⟨args,R.hp⟩) (F':=R.yk (S.inp.bd ⟨args,R.hp⟩) S.bz w) (U':=R.FA (S.inp.bd ⟨args,R.hp⟩) S.bz w) hbo.1 hx2 rfl hm (Cd hm) (tP hm) U2 (Cc hm) Cb akb hm.env
   have hargs:SV.bV (R.named (R.yk (S.inp.bd ⟨args,R.hp⟩) S.bz w) (R.FA (S.inp.bd ⟨args,R.hp⟩) S.bz w) (S.inp.bd ⟨args,R.hp⟩) (dq S.chunks x.2)) (S.inp.inj x).tm vs:=
    ij (s:=S.inp) (st:=⟨args,R.hp⟩) hbo.1 hx2 rfl hm (Cd hm) (tP hm) hr hx1 (SV.sQ (by rw [List.length_replicate,<-hlen];exact SV.aV hr) λi hi hi'=>by simp [SV.rel])
   have hsm:Small (R.named (R.yk (S.inp.bd ⟨args,R.hp⟩) S.bz w) (R.FA (S.inp.bd ⟨args,R.hp⟩) S.bz w) (S.inp.bd ⟨args,R.hp⟩) (dq S.chunks x.2)) k:=λc ch hc=>by
    obtain ⟨s,y',g1,g2,g3⟩:=dE hx2 (hc:dq S.chunks x.2 c=some ch)
    have:=(List.all_eq_true.1 hk) _ g1
    simp only [Bool.and_eq_true,Bool.not_eq_true'] at this
    refine ⟨dW this.1,?_⟩
    rw [g3]
    cases s<;>first|rfl|(cases this.2;done)
   refine (AF hte hΦ hany hf hb (hΛ _ hsm) hN hargs hwp).mono λen w' hp=> ?_
   rcases hp with ⟨y,v,R₁,rfl,hx1,hm1,hv,hy⟩|⟨y,v,R₁,rfl,hx1,hm1,hv,hy⟩
   ·replace hy:=hK1 _ _ hy
    obtain ⟨R',a1,a2⟩:=Z3 hm hx hk hx1 hm1 hv hy hend
    rw [hy.1] at h5
    cases h5
    exact ⟨v,R',rfl,a1,a2⟩
   ·replace hy:=hK2 _ _ hy
    obtain ⟨R',a1,a2⟩:=Z3 hm hx hk hx1 hm1 hv hy hend
    rw [hy.1] at h5
    cases h5
    exact ⟨v,R',rfl,a1,a2⟩
end
end Sx
end Go.Proofs.YtohjofabochgfaaGreat

namespace Go.Proofs.YtohjofabochgfaaGreat
namespace Sx
open Go
theorem Nk {b:Bd} {n m:Nat} {o o':Option Nat} (h:dI b m=some o'):dI (Wc b n o) m=some o':=by
 unfold Wc
 split
 ·exact h
 ·rename_i hn
  simp only [dI]
  cases hb:Nat.beq n m
  ·exact h
  ·have:=Nat.eq_of_beq_eq_true hb
   subst this
   rw [h] at hn
   cases hn
theorem Hq:∀ {ns:List Nat} {l:List SV} {b:Bd} {m:Nat} {o:Option Nat},dI b m=some o->dI (Jb ns l b) m=some o
 | [],_,_,_,_,h=>h
 |n::ns,[],_,_,_,h=>h
 |n::ns,y::r,b,m,o,h=>by
  cases y<;>simp only [Jb]<;>first|exact h|exact Hq (Nk h)
theorem afY {s:Sh} {x:SV} {b:Bd} {m:Nat} {o:Option Nat} (h:dI b m=some o):dI (V9 s x b) m=some o:=by
 unfold V9
 split<;>first|exact h|exact Nk h|exact Hq h|(unfold aJI;split<;>first|exact h|exact Nk h)
theorem rJ:∀ {l:List Sh} {cs:List SV} {b:Bd} {m:Nat} {o:Option Nat},dI b m=some o->dI (pT l cs b) m=some o
 | [],_,_,_,_,h=>h
 |s::r,cs,b,m,o,h=>by
  simp only [pT]
  exact rJ (afY h)
theorem n9 {hp:Hp}:∀ {l:List (Nat×CSh)} {b:Bd} {m:Nat} {o:Option Nat},dI b m=some o->dI (fG hp l b) m=some o
 | [],_,_,_,h=>h
 |(n,s)::r,b,m,o,h=>by
  cases s<;>simp only [fG]
  case cells l=>
   refine n9 ?_
   split
   ·split
    ·exact rJ h
    ·exact h
   ·exact h
  all_goals exact n9 h
section
variable {d:Nat} {hp hp':Hp} (hg:apL d hp hp')
include hg
theorem kK:∀ {l:List (Nat×CSh)} {b:Bd},(∀ q ∈ l,∀ c,dI (fG hp l b) q.1=some (some c)->hp c≠none)->fG hp' l b=fG hp l b
 | [],_,_=>rfl
 |(n,s)::r,b,h=>by
  cases s<;>simp only [fG] at h⊢
  case cells l=>
   have e:(match dI b n with|some (some c)=>(match hp' c with|some ⟨_,.cells vs⟩=>pT l vs b|_=>b)|_=>b)=(match dI b n with|some (some c)=>(match hp c with|some ⟨_,.cells vs⟩=>pT l vs b|_=>b)|_=>b):=by
    split
    ·rename_i c hc
     have h1:=h (n,.cells l) (by simp) c (n9 (by
      split
      ·split
       ·exact rJ hc
       ·exact hc
      ·exact hc))
     cases hq:hp c with
     |none=>exact absurd hq h1
     |some ch=>rw [hg.kN _ _ hq]
    ·rfl
   exact (congrArg (fG hp' r) e).trans (kK λq hq c hc=>h q (List.mem_cons_of_mem _ hq) c hc)
  all_goals exact kK λq hq c hc=>h q (List.mem_cons_of_mem _ hq) c hc
theorem rm {bd:Bd} {n c e:Nat} (h:Fz bd hp n c e=true):Fz bd hp' n c e=true:=by
 unfold Fz at h⊢
 split at h
 ·rename_i c' hc
  rw [Bool.and_eq_true] at h
  have h2:=h.2
  split at h2
  ·rename_i ch hch
   rw [hg.kN _ _ hch]
   simp only
   rw [h.1,h2]
   rfl
  ·cases h2
 ·cases h
theorem C0 {bd:Bd}:∀ {ns:List Nat} {l:List SV},Ac bd hp ns l=true->Ac bd hp' ns l=true
 | [],[],_=>rfl
 | [],_::_,h=>by cases h
 |n::ns,[],h=>by cases h
 |n::ns,y::r,h=>by
  cases y<;>simp only [Ac] at h⊢ <;>try (cases h;done)
  simp only [Bool.and_eq_true] at h⊢
  exact ⟨⟨⟨rm hg h.1.1.1,h.1.1.2⟩,h.1.2⟩,C0 h.2⟩
theorem LU {bd:Bd} {s:Sh} {cs:List SV} (h:k6 bd hp s cs=true):k6 bd hp' s cs=true:=by
 unfold k6 at h⊢
 split at h
 ·exact rm hg h
 ·exact h
 ·simp only [Bool.and_eq_true] at h⊢
  exact ⟨⟨rm hg h.1.1,h.1.2⟩,h.2⟩
 ·simp only [Bool.and_eq_true] at h⊢
  exact ⟨h.1,C0 hg h.2⟩
 ·simp only [Bool.and_eq_true] at h⊢
  exact ⟨h.1,rm hg h.2.1,h.2.2⟩
 ·rfl
 ·rfl
 ·rfl
 ·cases h
theorem Wg {ok:Nat->Bool} {t:Ty} {x:SV} {ys:List t.T} (h:Gf ok t hp x=some ys):Gf ok t hp' x=some ys:=by
 have key:∀ {c:Nat} {f:Option Ch->Option (List t.T)},f none=none->f (hp c)=some ys->f (hp' c)=some ys:=λ{c f} h0 h=>by
  cases hq:hp c with
  |none=>rw [hq,h0] at h;cases h
  |some ch=>rw [hg.kN _ _ hq,<-hq];exact h
 cases x<;>simp only [Gf] at h⊢ <;>try (first|exact h|(cases h;done))
 case own c e=>exact key (c:=c) (f:=λo=>match o with|some ⟨ep,.row t' xs⟩=>cond (Nat.beq ep e&&ok c) (cp t t' xs) none|some ⟨ep,.frz t' xs⟩=>cond (Nat.beq ep e) (cp t t' xs) none|_=>none) rfl h
 case clip c e=>exact key (c:=c) (f:=λo=>match o with|some ⟨ep,.row t' xs⟩=>cond (Nat.beq ep e&&ok c) (cp t t' xs) none|some ⟨ep,.frz t' xs⟩=>cond (Nat.beq ep e) (cp t t' xs) none|_=>none) rfl h
 case part c e off len=>exact key (c:=c) (f:=λo=>match o with|some ⟨ep,.row t' xs⟩=>cond (Nat.beq ep e&&ok c) ((cp t t' xs).map λl=>(l.drop off).take len) none|some ⟨ep,.frz t' xs⟩=>cond (Nat.beq ep e) ((cp t t' xs).map λl=>(l.drop off).take len) none|_=>none) rfl h
theorem jJ {ok:Nat->Bool}:∀ {t:Ty} {cs:List SV} {x:t.T},tE ok hp t cs=some x->tE ok hp' t cs=some x
 |.bool,_,_,h=>h
 |.u64,_,_,h=>h
 |.u8,_,_,h=>h
 |.int,_,_,h=>h
 |.str,_,_,h=>h
 |.elem,_,_,h=>h
 |.prod a b,cs,x,h=>by
  obtain ⟨h1,h2⟩:=bn h
  simp only [tE,jJ h1,jJ h2,q9]
 |.arr n t,cs,x,h=>by
  simp only [tE] at h⊢
  split at h
  ·rename_i hl
   rw [if_pos hl]
   exact ln (λ_ _=>jJ) h
  ·cases h
 |.list t,cs,x,h=>by
  simp only [tE] at h⊢
  split at h
  ·rename_i hp0
   rw [if_pos hp0]
   obtain ⟨y,rfl,hy⟩:=pc h
   simp only [aCV]
   exact Wg hg hy
  ·cases h
omit hg in
theorem Lb {a b:Bool} {x:Unit} (hab:a=true->b=true) (h:Lc a=some x):Lc b=some x:=by
 rw [hab (gE h)];rfl
theorem G9 {bd:Bd} {ok:Nat->Bool} {s:Sh} {cs:List SV} {x:s.T} (h:tz bd ok hp s cs=some x):tz bd ok hp' s cs=some x:=by
 cases s<;>simp only [tz] at h⊢
 case val b t=>exact jJ hg h
 case mix a n b=>
  obtain ⟨h1,h2⟩:=bn h
  obtain ⟨h3,h4⟩:=bn h2
  rw [jJ hg h1,Lb (LU hg) h3,jJ hg h4]
  rfl
 all_goals exact Lb (LU hg) h
theorem Um {bd:Bd} {ok:Nat->Bool} {s:Sh} {y:SV} {x:s.T} (h:E9 bd ok hp s y=some x):E9 bd ok hp' s y=some x:=by
 unfold E9 at h⊢
 split at h
 ·exact G9 hg h
 ·cases h
theorem yi {bd:Bd} {ok:Nat->Bool}:∀ {l:List Sh} {cs:List SV} {x:ShT l},nu bd ok hp l cs=some x->nu bd ok hp' l cs=some x
 | [],[],_,h=>h
 | [],_::_,_,h=>by cases h
 |s::r,cs,x,h=>by
  obtain ⟨h1,h2⟩:=bn (show q9 (tz bd ok hp s (cs.take s.size)) (nu bd ok hp r (cs.drop s.size))=some x from h)
  show q9 (tz bd ok hp' s (cs.take s.size)) (nu bd ok hp' r (cs.drop s.size))=some x
  rw [G9 hg h1,yi h2]
  rfl
theorem yg {bd:Bd} {ok:Nat->Bool} {tm:List SV}:∀ {l:List (Nat×Sh)} {x:SlT l},wm bd ok hp tm l=some x->wm bd ok hp' tm l=some x
 | [],_,h=>h
 |c::r,x,h=>by
  obtain ⟨h1,h2⟩:=bn h
  simp only [wm,Um hg h1,yg h2,q9]
  rfl
theorem Pf {bd:Bd} {ok:Nat->Bool} {s:CSh} {b:Chunk} {x:s.T} (h:iR bd ok hp s b=some x):iR bd ok hp' s b=some x:=by
 cases s<;>cases b<;>simp only [iR] at h⊢ <;>first|exact h|exact yi hg h
theorem YR {bd:Bd} {ok:Nat->Bool} {n:Nat} {s:CSh} {x:s.T} (h:kM bd ok hp n s=some x):kM bd ok hp' n s=some x:=by
 unfold kM at h⊢
 split at h
 ·split at h
  ·rename_i ch hch
   rw [hg.kN _ _ hch]
   exact Pf hg h
  ·cases h
 ·exact h
 ·exact h
theorem tA {bd:Bd} {ok:Nat->Bool}:∀ {l:List (Nat×CSh)} {x:OY l},eP bd ok hp l=some x->eP bd ok hp' l=some x
 | [],_,h=>h
 |c::r,x,h=>by
  obtain ⟨h1,h2⟩:=bn h
  simp only [eP,YR hg h1,tA h2,q9]
  rfl
omit hg in
theorem qY {bd:Bd} {ok:Nat->Bool}:∀ {l:List (Nat×CSh)} {x:OY l},eP bd ok hp l=some x->∀ q ∈ l,∀ c,dI bd q.1=some (some c)->hp c≠none
 | [],_,_,_,hq,_,_=>by cases hq
 |c::r,x,h,q,hq,c',hb=>by
  obtain ⟨h1,h2⟩:=bn h
  rcases List.mem_cons.1 hq with he|he
  ·subst he
   unfold kM at h1
   rw [hb] at h1
   simp only at h1
   intro hn
   rw [hn] at h1
   cases h1
  ·exact qY h2 q he c' hb
theorem atS {s:Shape} (hfx:s.fixed=0) {tm:List SV} {x:s.T} (h:s.prj ⟨tm,hp⟩=some x):s.prj ⟨tm,hp'⟩=some x/\s.bd ⟨tm,hp'⟩=s.bd ⟨tm,hp⟩:=by
 unfold Shape.prj at h⊢
 dsimp only at h⊢
 cases hb:s.Jd ⟨tm,hp⟩ (s.bd ⟨tm,hp⟩)&&Nat.beq tm.length s.n
 ·rw [hb] at h;cases h
 ·rw [hb] at h
  obtain ⟨h1,h2⟩:=bn h
  have e:s.bd ⟨tm,hp'⟩=s.bd ⟨tm,hp⟩:=kK hg (qY h2)
  have e2:s.Jd ⟨tm,hp'⟩ (s.bd ⟨tm,hp⟩)=s.Jd ⟨tm,hp⟩ (s.bd ⟨tm,hp⟩):=by
   unfold Shape.Jd
   rw [hfx]
   rfl
  refine ⟨?_,e⟩
  rw [e,e2,hb,cond_true,yg hg h1,tA hg h2]
  rfl
theorem RM {c:Nat} (h:hp c≠none):akW hp' c=akW hp c:=by
 unfold akW
 cases hq:hp c with
 |none=>exact absurd hq h
 |some ch=>rw [hg.kN _ _ hq]
theorem AK {bd:Bd} {fixed:Nat}:∀ {l:List (Nat×CSh)},(∀ q ∈ l,∀ c,dI bd q.1=some (some c)->hp c≠none)->dx bd hp' fixed l=dx bd hp fixed l
 | [],_=>rfl
 |c::r,h=>by
  have ih:=AK (bd:=bd) (fixed:=fixed) (l:=r) λq hq=>h q (List.mem_cons_of_mem _ hq)
  simp only [dx,ih]
  cases Nat.blt c.1 fixed
  ·simp only [cond_false]
   split
   ·rename_i o ho
    rw [RM hg (h c (by simp) o ho)]
   ·rfl
  ·rfl
theorem aBw {S:aw} {pre:S.T->Bool} {F:S.T->OT S.Y} {args:List SV} {out:Out} (h:((S.aI pre F).f d args hp).run=some out):((S.aI pre F).f d args hp').run=some out:=by
 simp only [aw.aI] at h⊢
 split at h
 ·cases h
 ·rename_i x hx
  obtain ⟨e1,e2⟩:=atS hg (s:=S.inp) rfl hx
  rw [e1]
  simp only
  rw [e2]
  obtain ⟨h1,h2⟩:=OT.aJ h
  rw [h1]
  obtain ⟨oy,h3,h4⟩:=OT.run_bind h2
  have hold:∀ q ∈ S.chunks,∀ c,dI (S.inp.bd ⟨args,hp⟩) q.1=some (some c)->hp c≠none:=by
   have hx':=hx
   unfold Shape.prj at hx'
   dsimp only at hx'
   cases hb:S.inp.Jd ⟨args,hp⟩ (S.inp.bd ⟨args,hp⟩)&&Nat.beq args.length S.inp.n
   ·rw [hb] at hx';cases hx'
   ·rw [hb] at hx'
    obtain ⟨_,h2⟩:=bn hx'
    exact qY h2
  have hbok:∀ p ∈ S.inp.bd ⟨args,hp⟩,∃ q ∈ S.chunks,q.1=p.1:=by
   have hx':=hx
   unfold Shape.prj at hx'
   dsimp only at hx'
   cases hb:S.inp.Jd ⟨args,hp⟩ (S.inp.bd ⟨args,hp⟩)&&Nat.beq args.length S.inp.n
   ·rw [hb] at hx';cases hx'
   ·rw [Bool.and_eq_true] at hb
    have:=hb.1
    unfold Shape.Jd at this
    simp only [Bool.and_eq_true,List.all_eq_true,List.any_eq_true] at this
    intro p hp
    obtain ⟨q,hq,he⟩:=this.1.2 p hp
    exact ⟨q,hq,Nat.eq_of_beq_eq_true he⟩
  have hepN:∀ n c,dI (S.inp.bd ⟨args,hp⟩) n=some (some c)->akW hp' c=akW hp c:=λn c hc=>by
   obtain ⟨q,hq,he⟩:=hbok _ (lq hc)
   exact RM hg (hold q hq c (by rw [he];exact hc))
  unfold aw.emit at h4
  dsimp only at h4
  obtain ⟨hend,h5⟩:=OT.aJ h4
  --the names
  have hfr:fresh hp' d=fresh hp d:=jQ hg
  have hnm:∀ n,S.fixed<=n\/(∃ c,dI (S.inp.bd ⟨args,hp⟩) n=some (some c))->S.nm (S.inp.bd ⟨args,hp⟩) hp' (fresh hp d) n=S.nm (S.inp.bd ⟨args,hp⟩) hp (fresh hp d) n:=λn hn=>by
   unfold aw.nm
   cases hb:Nat.blt n S.fixed
   ·rfl
   ·rcases hn with hn|⟨c,hn⟩
    ·have:=dW hb;omega
    ·simp only [cond_true,nameOf,hn,hepN n c hn]
  have hnmall:S.nm (S.inp.bd ⟨args,hp⟩) hp' (fresh hp d)=S.nm (S.inp.bd ⟨args,hp⟩) hp (fresh hp d):=by
   funext n
   rcases Nat.lt_or_ge n S.fixed with hn|hn
   ·refine hnm n (.inr ?_)
    have he:=hend
    unfold aw.zN at he
    simp only [Bool.and_eq_true,List.all_eq_true] at he
    have h6:=(he.2.1 n (by simpa using hn)).1
    split at h6
    ·rename_i c hc;exact ⟨c,hc⟩
    ·cases h6
   ·exact hnm n (.inl hn)
  have hend':S.zN (S.inp.bd ⟨args,hp⟩) hp' (fresh hp d) oy.1=true:=by
   have he:=hend
   unfold aw.zN at he⊢
   simp only [Bool.and_eq_true] at he⊢
   refine ⟨he.1,he.2.1,he.2.2.1,?_⟩
   have h6:=he.2.2.2
   simp only [List.all_eq_true,Bool.and_eq_true,Bool.or_eq_true] at h6⊢
   intro q hq
   refine ⟨(h6 q hq).1,(h6 q hq).2.imp_right λh7=>⟨h7.1,?_⟩⟩
   have h8:=h7.2
   have hlt:=dW h7.1
   cases hz:hp (fresh hp d+(q.1-S.fixed)) with
   |some ch=>rw [hz] at h8;cases h8
   |none=>
    rw [hg.free _ ?_ hz]
    ·rfl
    ·obtain ⟨k,hk1,hk2⟩:∃ k,k<=4000/\fresh hp d=(d+1)*4096+k:=by
      have:∀ (n k:Nat),n+k<=4000->∃ j,j<=4000/\eT hp d n k=(d+1)*4096+j:=by
       intro n
       induction n with
       |zero=>intro k hk;exact ⟨k,by omega,rfl⟩
       |succ n ih=>
        intro k hk
        simp only [eT]
        split
        ·exact ⟨k,by omega,rfl⟩
        ·exact ih (k+1) (by omega)
      exact this 4000 0 (by omega)
     rw [hk2]
     unfold k9
     omega
  have hem:(S.emit (S.inp.bd ⟨args,hp⟩) d hp' oy.1 oy.2).run=some out:=by
   unfold aw.emit
   dsimp only
   rw [hfr,hend',hnmall,AK hg hold]
   exact h5
  have hbind:∀ {α β:Type} (t:OT α) (f:α->OT β) (a:α) (b:β),t.run=some a->(f a).run=some b->(t.bind f).run=some b:=by
   intro α β t f a b h1 h2
   induction t with
   |ok a'=>cases h1;exact h2
   |br c u v hu hv=>
    cases c
    ·exact hv h1
    ·exact hu h1
   |fail=>cases h1
  exact hbind (F x) _ oy out h3 hem
end
theorem aB {S:aw} {pre:S.T->Bool} {F:S.T->OT S.Y}:aG (S.aI pre F):=λ_ _ _ _ _ hg h=>aBw hg h
end Sx
end Go.Proofs.YtohjofabochgfaaGreat

namespace Go.Proofs.YtohjofabochgfaaGreat
namespace Sx
open Go
def OT.wpR {α:Type} (t:OT α) (K:α->Prop):Prop:=
 OT.rec (motive:=λ_=>Prop) (λa=>K a) (λb _ _ x y=>Bool.rec (motive:=λ_=>Prop) y x b) False t
theorem OT.PO {α:Type} (t:OT α) (K:α->Prop):t.wpR K=t.wp K:=by
 induction t with
 |ok b=>rfl
 |br b x y hx hy=>
  cases b
  ·exact hy
  ·exact hx
 |fail=>rfl
theorem OT.lz {α:Type} {t:OT α} {a:α} {K:α->Prop} (h:t.run=some a) (hk:K a):t.wp K:=by
 induction t with
 |ok b=>cases h;exact hk
 |br b x y hx hy=>
  cases b
  ·exact hy h
  ·exact hx h
 |fail=>cases h
def aj (fn:Func):Code:=fn.body.getD .skip
abbrev aE:=Sigma λp:SE×Shape=>p.2.T
def bU (sh:Shape) (xs:SE->Option Shape) (Q:Sum sh.T aE->Prop) (e:SE) (st:St):Prop:=match e with
 |.normal=>sh.on st λs=>Q (.inl s)
 |e=>match xs e with
  |none=>False
  |some s=>s.on st λx=>Q (.inr ⟨(e,s),x⟩)
def al {σ ε:Type} (T:σ->OT (Sum σ ε)):Nat->σ->Option ε
 |0,_=>none
 |n+1,s=>match (T s).run with
  |some (.inl s')=>al T n s'
  |some (.inr e)=>some e
  |none=>none
def cf (sh:Shape) (id:Nat) (ok:sh.T->Bool) (f:sh.T->OT aE) (st:St) (K:SE->St->Prop):Prop:=
 sh.on st λs=>cond (ok s) ((f s).wp λe=>K (avP id e.1.1) (e.1.2.inj e.2)) False
section
variable {P:Program} {te:TE} {Φ:Env} (hte:mZ P te) (hΦ:aQ P Φ) (hany:aW P te Φ)
include hte hΦ hany
theorem aA9 {R₀:Ctx} {sh:Shape} (h0:Small R₀ sh.fixed) {xs:SE->Option Shape} (hxs:∀ e s,xs e=some s->Small R₀ s.fixed) (hpan:∀ v,xs (.pan v)=none) {Λ:Lam} {body:Code} (hΛ:yd P R₀ Λ body)
 {id n:Nat} {T:sh.T->OT (Sum sh.T aE)} (hT:∀ s Q,wps te Φ Λ n body (sh.inj s) (bU sh xs Q)=(T s).wpR Q):
 WK P R₀ (.block id (.loop body)) λst K=>sh.on st λs=>∃ m e,al T m s=some e/\K (avP id e.1.1) (e.1.2.inj e.2):=by
 intro R st a w K Q hx hst hl hK
 obtain ⟨s,R',⟨m,e,hr,hk⟩,hx',hst'⟩:=Shape.Uw h0 hx hst hl
 refine wp_block (GS ?_)
 clear hl hst hx
 induction m generalizing s R' a w with
 |zero=>cases hr
 |succ m ih=>
  simp only [al] at hr
  cases ht:(T s).run with
  |none=>rw [ht] at hr;cases hr
  |some o=>
   rw [ht] at hr
   have hw:wps te Φ Λ n body (sh.inj s) (bU sh xs (λz=>z=o)):=by
    rw [hT,OT.PO];exact OT.lz ht rfl
   refine LN (WW (R₀:=R₀) hte hΦ hany hΛ hx' hst' hw ⟨?_,?_,?_,?_⟩)
   ·intro R1 st1 a1 w1 hx1 hst1 hk1
    obtain ⟨s',R2,g1,g4,g5⟩:=Shape.Uw h0 hx1 hst1 (hk1:sh.on st1 _)
    subst g1
    exact ih a1 w1 s' R2 hr g4 g5
   ·intro R1 st1 a1 w1 hx1 hst1 hk1
    simp only [bU] at hk1
    split at hk1
    ·exact hk1.elim
    ·rename_i sh' he
     obtain ⟨x,R2,g1,g2,g3⟩:=Shape.Uw (hxs _ sh' he) hx1 hst1 hk1
     subst g1
     cases hr
     exact hK.ret R2 _ a1 w1 g2 g3 hk
   ·intro R1 st1 a1 w1 j hx1 hst1 hk1
    simp only [bU] at hk1
    split at hk1
    ·exact hk1.elim
    ·rename_i sh' he
     obtain ⟨x,R2,g1,g2,g3⟩:=Shape.Uw (hxs _ sh' he) hx1 hst1 hk1
     subst g1
     cases hr
     simp only [avP] at hk
     simp only [Exit.inBlock]
     by_cases e:j=id
     ·subst e
      rw [Nat.beq_refl,cond_true] at hk
      simp only [if_true]
      exact hK.normal R2 _ a1 w1 g2 g3 hk
     ·have hb:Nat.beq j id=false:=by
       cases hq:Nat.beq j id
       ·rfl
       ·exact absurd (Nat.eq_of_beq_eq_true hq) e
      rw [hb,cond_false] at hk
      simp only [e,if_false]
      exact hK.exit R2 _ a1 w1 j g2 g3 hk
   ·intro R1 st1 a1 w1 sv v hx1 hst1 hv hk1
    simp only [bU,hpan] at hk1
theorem aP {R₀:Ctx} {sh:Shape} (h0:Small R₀ sh.fixed) {xs:SE->Option Shape} (hxs:∀ e s,xs e=some s->Small R₀ s.fixed) (hpan:∀ v,xs (.pan v)=none) {Λ:Lam} {body:Code} (hΛ:yd P R₀ Λ body)
 {id n:Nat} {T:sh.T->OT (Sum sh.T aE)} (hT:∀ s Q,wps te Φ Λ n body (sh.inj s) (bU sh xs Q)=(T s).wpR Q) {ok:sh.T->Bool} {f:sh.T->OT aE}
 (hf:∀ s,ok s=true->∃ m e,al T m s=some e/\(f s).run=some e):WK P R₀ (.block id (.loop body)) (cf sh id ok f):=by
 intro R st a w K Q hx hst hl hK
 refine aA9 hte hΦ hany h0 hxs hpan hΛ hT (id:=id) R st a w K Q hx hst ?_ hK
 unfold cf at hl
 unfold Shape.on at hl⊢
 split at hl
 ·rename_i s hs
  cases ho:ok s
  ·rw [ho] at hl;exact hl.elim
  ·rw [ho] at hl
   obtain ⟨m,e,h1,h2⟩:=hf s ho
   obtain ⟨e',h3,h4⟩:=OT.agJ hl
   rw [h2] at h3
   cases h3
   rw [hs]
   exact ⟨m,e,h1,h4⟩
 ·exact hl.elim
def fnK (S:aw) (sel:SV->Option az) (Q:S.Y->Prop) (v:SV) (hp:Hp):Prop:=match sel v with
 |some o=>match (o.shape S.fixed).prj ⟨asx o.rs.length v,hp⟩ with
  |some y=>Q ⟨o,y⟩
  |none=>False
 |none=>False
def aGQ (S:aw):List az->(S.Y->Prop)->SV->Hp->Prop
 | [],_,_,_=>False
 |o::r,Q,v,hp=>match (o.shape S.fixed).prj ⟨asx o.rs.length v,hp⟩ with
  |some y=>Q ⟨o,y⟩
  |none=>aGQ S r Q v hp
omit hte hΦ hany in
theorem Z4 {S:aw} {Q:S.Y->Prop} {v:SV} {hp:Hp}:∀ {outs:List az},aGQ S outs Q v hp->∃ o ∈ outs,∃ y,(o.shape S.fixed).prj ⟨asx o.rs.length v,hp⟩=some y/\Q ⟨o,y⟩
 | [],h=>h.elim
 |o::r,h=>by
  simp only [aGQ] at h
  split at h
  ·rename_i y hy
   exact ⟨o,List.mem_cons_self ..,y,hy,h⟩
  ·obtain ⟨o',h1,h2⟩:=Z4 h
   exact ⟨o',List.mem_cons_of_mem _ h1,h2⟩
theorem aD {f:FuncId} {fn:Func} {c:Code} (hf:P.funcs[f]? =some fn) (hb:fn.body=some c) (hname:(fn.name== "runtime.NumGoroutine")=false) {S:aw} {k:Nat} (hk:S.chunks.all (λc=>Nat.blt c.1 k&& !c.2.pq)=true) {Λ:Lam}
 (hΛ:∀ R,Small R k->yd P R Λ c) {n:Nat} {sel:SV->Option az} (hsel:∀ v o,sel v=some o->o.pan=false) {pre:S.T->Bool} {F T:S.T->OT S.Y}
 (h:∀ x Q,wpf te Φ Λ n fn (S.inp.inj x).tm (S.inp.inj x).hp (fnK S sel Q) (λ_ _=>False)=(T x).wpR Q)
 (hF:∀ x oy,pre x=true->(F x).run=some oy->(T x).run=some oy):ac P f (S.aI pre F):=by
 refine aGP hte hΦ hany hf hb hname hk hΛ (n:=n) λx oy hp hr=>⟨fnK S sel (λz=>z=oy),λ_ _=>False,?_,λv hp hq=> ?_,λ_ _ hq=>hq.elim⟩
 ·rw [h,OT.PO];exact OT.lz (hF x oy hp hr) rfl
 ·unfold fnK at hq
  split at hq
  ·rename_i o ho
   split at hq
   ·rename_i y hy
    subst hq
    exact ⟨hsel v o ho,hy⟩
   ·exact hq.elim
  ·exact hq.elim
theorem aky {f:FuncId} {fn:Func} {c:Code} (hf:P.funcs[f]? =some fn) (hb:fn.body=some c) (hname:(fn.name== "runtime.NumGoroutine")=false) {S:aw} {k:Nat} (hk:S.chunks.all (λc=>Nat.blt c.1 k&& !c.2.pq)=true) {Λ:Lam}
 (hΛ:∀ R,Small R k->yd P R Λ c) {n:Nat} {outs:List az} (hsel:(outs.all λo=> !o.pan)=true) {pre:S.T->Bool} {F T:S.T->OT S.Y}
 (h:∀ x Q,wpf te Φ Λ n fn (S.inp.inj x).tm (S.inp.inj x).hp (aGQ S outs Q) (λ_ _=>False)=(T x).wpR Q)
 (hF:∀ x oy,pre x=true->(F x).run=some oy->(T x).run=some oy):ac P f (S.aI pre F):=by
 refine aGP hte hΦ hany hf hb hname hk hΛ (n:=n) λx oy hp hr=>⟨aGQ S outs (λz=>z=oy),λ_ _=>False,?_,λv hp hq=> ?_,λ_ _ hq=>hq.elim⟩
 ·rw [h,OT.PO];exact OT.lz (hF x oy hp hr) rfl
 ·obtain ⟨o,ho,y,hy,hQ⟩:=Z4 hq
  subst hQ
  exact ⟨by have:=List.all_eq_true.1 hsel o ho;simpa using this,hy⟩
end
end Sx
end Go.Proofs.YtohjofabochgfaaGreat

namespace Go.Proofs.YtohjofabochgfaaGreat
namespace Sx
open Go
def zeroCells:Ty->List Value
 |.bool=> [.bool false]
 |.u64=> [iq 0]
 |.u8=> [vu8 0]
 |.int=> [.int .i64 0]
 |.str=> [.string ⟨#[]⟩]
 |.elem=> [iq 0,iq 0,iq 0,iq 0]
 |.prod a b=>zeroCells a++zeroCells b
 |.arr n t=>(List.replicate n (zeroCells t)).flatten
 |.list _=> [.slice none 0 0]
theorem cV:∀ t:Ty,(zeroCells t).length=t.size
 |.bool=>rfl
 |.u64=>rfl
 |.u8=>rfl
 |.int=>rfl
 |.str=>rfl
 |.elem=>rfl
 |.prod a b=>by simp only [zeroCells,List.length_append,cV a,cV b,Ty.size]
 |.arr n t=>by simp [zeroCells,cV t,Ty.size]
 |.list _=>rfl
theorem Mr {c:List Value} {m:Nat} (hc:c.length=m):∀ (n i:Nat),i<n->seg (List.replicate n c).flatten (i*m) m=c
 |0,_,h=>by omega
 |n+1,0,_=>by
  simp only [seg,List.replicate_succ,List.flatten_cons,Nat.zero_mul,List.drop_zero,List.take_append,hc,Nat.sub_self,List.take_zero,List.append_nil]
  rw [<-hc,List.take_length]
 |n+1,i+1,h=>by
  have ih:=Mr hc n i (by omega)
  simp only [seg] at ih⊢
  rw [List.replicate_succ,List.flatten_cons]
  have:(i+1)*m=c.length+i*m:=by rw [hc,Nat.add_mul];omega
  rw [this,List.drop_append]
  simp only [Nat.add_sub_cancel_left]
  rw [List.drop_eq_nil_of_le (by omega),List.nil_append,ih]
theorem IE {F:Nat->Option Obj}:∀ t:Ty,Rep F t t.d (zeroCells t)
 |.bool=>rfl
 |.u64=>rfl
 |.u8=>rfl
 |.int=>⟨rfl,by decide⟩
 |.str=>⟨rfl,by simp [Ty.d]⟩
 |.elem=>rfl
 |.prod a b=>by
  refine ⟨by simp only [zeroCells,List.length_append,cV],?_,?_⟩
  ·have:(zeroCells (.prod a b)).take a.size=zeroCells a:=by
    simp only [zeroCells]
    rw [<-cV a,List.take_left]
   rw [this];exact IE a
  ·have:(zeroCells (.prod a b)).drop a.size=zeroCells b:=by
    simp only [zeroCells]
    rw [<-cV a,List.drop_left]
   rw [this];exact IE b
 |.arr n t=>by
  refine ⟨cV _,by simp [Ty.d],λi hi=> ?_⟩
  have h1:(Ty.d (.arr n t)).getD i t.d=t.d:=by
   simp [Ty.d,List.getD_eq_getElem?_getD,List.getElem?_replicate,hi]
  rw [h1]
  simp only [zeroCells]
  rw [Mr (cV t) n i hi]
  exact IE t
 |.list t=>⟨by simp [Ty.d],none,0,rfl,by simp [Ty.d],.inl rfl⟩
def aJu (P:Program) (T:TypeId) (d:TypeDesc):TD->Bool
 |.struct fs=>match d with
  |.struct fields=>decide (fields.toList.map (λf=>(f.offset,f.type))=fs)&&fields.toList.all (λf=> !decide (f.name= "_"))&& !P.stoodInHeld T&&
   (fields.toList.mapM (λf=>(P.info? f.type).map λi=>(f.offset,i.size))).isSome
  |_=>false
 |.array n e=>match d with
  |.array n' e'=>Nat.beq n n'&&Nat.beq e e'
  |_=>false
 |.slice e=>match d with
  |.slice e'=>Nat.beq e e'
  |_=>false
 |.int k=>match d with
  |.int k'=>decide (k'=k)
  |_=>false
 |.bool=>match d with
  |.bool=>true
  |_=>false
 |.str=>match d with
  |.string=>true
  |_=>false
 |.ptr ms=>match d with
  |.pointer _=>match P.info? T with
   |some i=>ms.all λnf=>match i.methods.find? (λq=>q.name==nf.1) with
    |some m=>m.path.toList.isEmpty&&(match m.func with
     |some (f,b)=>b&&Nat.beq f nf.2
     |none=>false)
    |none=>false
   |none=>false
  |_=>false
 |.iface=>match d with
  |.interface _=>true
  |_=>false
 |.other=>match d with
  |.struct _=>false
  |.array .. =>false
  |_=>true
theorem ak {P:Program} {T:TypeId} {ti:TI} (h1:(P.info? T).isSome=true) (h4:((P.info? T).get h1).zero.isSome=true) (h10:(P.underlying T).isSome=true)
 (hs:Nat.beq ((P.info? T).get h1).size ti.size=true) (hb:Nat.beq ((P.info? T).get h1).bytes ti.bytes=true)
 (hz:(((P.info? T).get h1).zero.get h4).cells.toList.map Ld=ti.zero) (hc:((((P.info? T).get h1).zero.get h4).cells.toList.all Value.oneCell')=true)
 (hn:Nat.beq (((P.info? T).get h1).zero.get h4).cells.size ti.size=true) (h8:Nat.ble ti.size 16777216=true) (h9:(ti.desc.agg||Nat.beq ti.size 1)=true)
 (hd:aJu P T ((P.underlying T).get h10) ti.desc=true)
 (ht:match ti.ty with
  |none=>True
  |some t=>Nat.beq t.size ti.size=true/\(((P.info? T).get h1).zero.get h4).cells.toList=zeroCells t/\(!ti.desc.agg|| !P.eqGuardType P.depth T)=true):bo P T ti:=by
 have e1:P.info? T=some ((P.info? T).get h1):=(Option.some_get h1).symm
 have e4:((P.info? T).get h1).zero=some (((P.info? T).get h1).zero.get h4):=(Option.some_get h4).symm
 refine ⟨⟨_,_,e1,Nat.eq_of_beq_eq_true hs,Nat.eq_of_beq_eq_true hb,e4,hz,Nat.eq_of_beq_eq_true hn,λu hu=>List.all_eq_true.1 hc u hu⟩,Nat.le_of_ble_eq_true h8,λha=> ?_,⟨_,(Option.some_get h10).symm,?_⟩,λt hty=> ?_⟩
 ·rw [ha,Bool.false_or] at h9
  exact Nat.eq_of_beq_eq_true h9
 ·generalize (P.underlying T).get h10=d at hd
  cases hdd:ti.desc<;>rw [hdd] at hd<;>simp only [aJu] at hd<;>(try dsimp only)
  case struct fs=>
   split at hd
   ·rename_i fields
    simp only [Bool.and_eq_true,decide_eq_true_eq,List.all_eq_true,Bool.not_eq_true',decide_eq_false_iff_not] at hd
    exact ⟨fields,rfl,hd.1.1.1,hd.1.1.2,hd.1.2,hd.2⟩
   ·cases hd
  case array n e=>
   split at hd
   ·rw [Bool.and_eq_true] at hd
    rw [Nat.eq_of_beq_eq_true hd.1,Nat.eq_of_beq_eq_true hd.2]
   ·cases hd
  case slice e=>
   split at hd
   ·rw [Nat.eq_of_beq_eq_true hd]
   ·cases hd
  case int k=>
   split at hd
   ·rw [of_decide_eq_true hd]
   ·cases hd
  case bool=>
   split at hd
   ·rfl
   ·cases hd
  case str=>
   split at hd
   ·rfl
   ·cases hd
  case ptr ms=>
   split at hd
   ·refine ⟨⟨_,rfl⟩,?_⟩
    split at hd
    ·rename_i i hi
     intro nf hnf
     have hq:=List.all_eq_true.1 hd nf hnf
     split at hq
     ·rename_i m hm
      rw [Bool.and_eq_true] at hq
      refine ⟨i,m,hi,hm,?_,?_⟩
      ·apply Array.ext'
       simpa using hq.1
      ·have h2:=hq.2
       split at h2
       ·rename_i f b hf
        rw [Bool.and_eq_true] at h2
        rw [hf,Nat.eq_of_beq_eq_true h2.2,h2.1]
       ·cases h2
     ·cases hq
    ·cases hd
   ·cases hd
  case iface=>
   split at hd
   ·exact ⟨_,rfl⟩
   ·cases hd
  case other=>
   cases d<;>first|trivial|(cases hd;done)
 ·rw [hty] at ht
  obtain ⟨t1,t2,t3⟩:=ht
  refine ⟨Nat.eq_of_beq_eq_true t1,λF z hz'=> ?_,λha=> ?_⟩
  ·rw [e1] at hz'
   simp only [Option.bind_some] at hz'
   rw [e4] at hz'
   cases hz'
   rw [t2]
   exact IE t
  ·rw [ha,Bool.not_true,Bool.false_or,Bool.not_eq_true'] at t3
   exact t3
def aIv:TE:=λ_=>none
def au (T:TypeId) (ti:TI) (te:TE):TE:=λx=>cond (Nat.beq x T) (some ti) (te x)
theorem azA {P:Program}:mZ P aIv:=λ_ _ h=>by cases h
theorem ab {P:Program} {T:TypeId} {ti:TI} {te:TE} (h:bo P T ti) (ht:mZ P te):mZ P (au T ti te):=λx t hx=>by
 unfold au at hx
 cases hb:Nat.beq x T
 ·rw [hb] at hx;exact ht x t hx
 ·rw [hb] at hx
  cases hx
  rw [Nat.eq_of_beq_eq_true hb]
  exact h
def avV:Env:=λ_=>none
def ay (f:FuncId) (s:cj) (Φ:Env):Env:=λx=>cond (Nat.beq x f) (some s) (Φ x)
theorem avU {P:Program}:aQ P avV:=λ_ _ h=>by cases h
theorem ag {P:Program} {f:FuncId} {s:cj} {Φ:Env} (h:ac P f s) (hΦ:aQ P Φ):aQ P (ay f s Φ):=λx t hx=>by
 unfold ay at hx
 cases hb:Nat.beq x f
 ·rw [hb] at hx;exact hΦ x t hx
 ·rw [hb] at hx
  cases hx
  rw [Nat.eq_of_beq_eq_true hb]
  exact h
theorem afi:ax avV:=λ_ _ h=>by cases h
theorem ae {f:FuncId} {s:cj} {Φ:Env} (h:aG s) (hΦ:ax Φ):ax (ay f s Φ):=λx t hx=>by
 unfold ay at hx
 cases hb:Nat.beq x f
 ·rw [hb] at hx;exact hΦ x t hx
 ·rw [hb] at hx
  cases hx
  exact h
end Sx
end Go.Proofs.YtohjofabochgfaaGreat

namespace Go.Proofs.YtohjofabochgfaaGreat
namespace Sx
open Go
def fc (l:List (Nat×Shape)) (r:Option Shape):SE->Option Shape
 |.exit n=>(l.find? λp=>Nat.beq p.1 n).map (·.2)
 |.ret=>r
 |_=>none
theorem aC {l:List (Nat×Shape)} {r:Option Shape} {k:Nat} {R:Ctx} (hl:(l.all λp=>Nat.beq p.2.fixed k)=true) (hr:(r.all λs=>Nat.beq s.fixed k)=true) (hR:Small R k):
 ∀ e s,fc l r e=some s->Small R s.fixed:=by
 intro e s h
 cases e with
 |exit n=>
  simp only [fc] at h
  cases hf:l.find? λp=>Nat.beq p.1 n with
  |none=>rw [hf] at h;cases h
  |some p=>
   rw [hf] at h
   cases h
   rw [Nat.eq_of_beq_eq_true (List.all_eq_true.1 hl p (List.mem_of_find?_eq_some hf))]
   exact hR
 |ret=>
  simp only [fc] at h
  subst h
  have e:s.fixed=k:=Nat.eq_of_beq_eq_true (by simpa using hr)
  rw [e]
  exact hR
 |normal=>cases h
 |pan v=>cases h
theorem aM {l:List (Nat×Shape)} {r:Option Shape} (v:SV):fc l r (.pan v)=none:=rfl
section
variable {σ ε:Type} {T:σ->OT (Sum σ ε)}
theorem aF {s s':σ} {m:Nat} {e:ε} (h:(T s).run=some (.inl s')) (h2:al T m s'=some e):al T (m+1) s=some e:=by
 simp only [al,h];exact h2
theorem aK {s:σ} {e:ε} (h:(T s).run=some (.inr e)):al T 1 s=some e:=by
 simp only [al,h]
theorem LM (st:Nat->σ) (n:Nat) {e:ε} (h:∀ k,k<n->(T (st k)).run=some (.inl (st (k+1)))) (hn:(T (st n)).run=some (.inr e)):∀ j k,k+j=n->al T (j+1) (st k)=some e
 |0,k,hk=>by
  have:k=n:=by omega
  subst this
  exact aK hn
 |j+1,k,hk=>aF (h k (by omega)) (LM st n h hn j (k+1) (by omega))
theorem zC (st:Nat->σ) (n:Nat) {e:ε} (h:∀ k,k<n->(T (st k)).run=some (.inl (st (k+1)))) (hn:(T (st n)).run=some (.inr e)) (k:Nat) (hk:k<=n):∃ m,al T m (st k)=some e:=
 ⟨n-k+1,LM st n h hn (n-k) k (by omega)⟩
def upto {β:Type} (f:Nat->β->β) (b:β):Nat->β
 |0=>b
 |k+1=>f k (upto f b k)
theorem aR {β:Type} (mk:Nat->β->σ) (step:Nat->β->β) (fin:β->ε) (n:Nat) (b0:β) (P:Nat->β->Prop) (h0:P 0 b0)
 (hs:∀ k b,k<n->P k b->(T (mk k b)).run=some (.inl (mk (k+1) (step k b)))/\P (k+1) (step k b))
 (he:∀ b,P n b->(T (mk n b)).run=some (.inr (fin b))):(∃ m,al T m (mk 0 b0)=some (fin (upto step b0 n)))/\P n (upto step b0 n):=by
 have hP:∀ k,k<=n->P k (upto step b0 k):=by
  intro k
  induction k with
  |zero=>exact λ_=>h0
  |succ k ih=>exact λhk=>(hs k _ (by omega) (ih (by omega))).2
 refine ⟨?_,hP n (Nat.le_refl _)⟩
 exact zC (λk=>mk k (upto step b0 k)) n (λk hk=>(hs k _ hk (hP k (by omega))).1) (he _ (hP n (Nat.le_refl _))) 0 (Nat.zero_le _)
end
def tab {α:Type} (x:List α) (n:Nat) (d:α):List α:=(List.range n).map λi=>x.getD i d
theorem jx {α:Type} {x:List α} {n:Nat} {d:α} (h:x.length=n):tab x n d=x:=by
 apply List.ext_getElem
 ·simp [tab,h]
 ·intro i h1 h2
  simp [tab,List.getD_eq_getElem?_getD,h2]
def lay {α:Type} (x y:List α) (n:Nat) (d:α):List α:=(List.range n).foldl (λa i=>a.set i (y.getD i d)) x
theorem gF {α:Type} {x y:List α} {d:α}:∀ n,(lay x y n d).length=x.length
 |0=>rfl
 |n+1=>by
  have:=gF (x:=x) (y:=y) (d:=d) n
  simp only [lay,List.range_succ,List.foldl_append,List.foldl_cons,List.foldl_nil,List.length_set] at this⊢
  exact this
theorem auL {α:Type} {x y:List α} {d:α}:∀ n i,n<=x.length->i<x.length->(lay x y n d)[i]? =if i<n then some (y.getD i d) else x[i]?
 |0,i,_,_=>by simp [lay]
 |n+1,i,h,hi=>by
  have ih:=auL (x:=x) (y:=y) (d:=d) n i (by omega) hi
  have hl:=gF (x:=x) (y:=y) (d:=d) n
  simp only [lay] at ih hl
  simp only [lay,List.range_succ,List.foldl_append,List.foldl_cons,List.foldl_nil]
  by_cases e:n=i
  ·subst e
   rw [List.getElem?_set_self (by omega),if_pos (by omega)]
  ·rw [List.getElem?_set_ne e,ih]
   by_cases h1:i<n
   ·rw [if_pos h1,if_pos (by omega)]
   ·rw [if_neg h1,if_neg (by omega)]
theorem yj {α:Type} {x y:List α} {n:Nat} {d:α} (hx:x.length=n) (hy:y.length=n):lay x y n d=y:=by
 apply List.ext_getElem?
 intro i
 by_cases hi:i<n
 ·rw [auL n i (by omega) (by omega),if_pos hi,List.getD_eq_getElem?_getD,List.getElem?_eq_getElem (by omega)]
  rfl
 ·rw [List.getElem?_eq_none (by rw [gF];omega),List.getElem?_eq_none (by omega)]
theorem OT.cT {α:Type} {a:α}:(OT.ok a).run=some a:=rfl
theorem OT.ao {α:Type} {b:Bool} {x y:OT α} (h:b=true):(OT.br b x y).run=x.run:=by rw [h];rfl
theorem OT.aq {α:Type} {b:Bool} {x y:OT α} (h:b=false):(OT.br b x y).run=y.run:=by rw [h];rfl
def gd {α:Type}:List Bool->OT α->OT α
 | [],x=>x
 |b::r,x=>.br b (gd r x) .fail
theorem ah {α:Type} {x:OT α}:∀ {bs:List Bool},bs.all (λb=>b)=true->(gd bs x).run=x.run
 | [],_=>rfl
 |b::r,h=>by
  rw [List.all_cons,Bool.and_eq_true] at h
  exact (OT.ao h.1).trans (ah h.2)
theorem aH {n:Int} (h: -9223372036854775808<=n/\n<=9223372036854775807):inR n=true:=by simp [inR,h.1,h.2]
theorem aN {k:Int} {n:Nat} (h:0<=k/\k<(n:Int)):inB k n=true:=by simp [inB,h.1,h.2]
theorem ym {k:Int} {n:Nat} (h:inB k n=true):k.toNat<n:=by
 simp only [inB,Bool.and_eq_true,decide_eq_true_eq] at h
 omega
theorem fH {l h:Int} {n:Nat} (hh:0<=l/\l<=h/\h<=(n:Int)):dH l h n=true:=by simp [dH,hh.1,hh.2.1,hh.2.2]
end Sx
end Go.Proofs.YtohjofabochgfaaGreat

namespace Go.Proofs.YtohjofabochgfaaGreat
namespace Sx
open Go Go.RowKit
def iv (w:World):Ctx:=⟨λb=>w.heap[b]?,⟨λ_=>none,w⟩,λ_=>none,aAQ⟩
theorem azE (w:World):dt (iv w) w:=
 ⟨λ_ _ h=>h,(λ_ _ h=>by cases h),(λc ch h=>by cases h),(λc c' ch ch' L L' h=>by cases h),λ_ _ _=>rfl,⟨rfl,rfl,rfl⟩⟩
theorem acq {w w':World} {R':Ctx} {u:List (Nat×Ch)} (h:fy (iv w) R' w' u):Below w.heap.size w w':=by
 have he:=h.mem.env
 rw [h.ext.U] at he
 have hb:∀ k,k<w.heap.size->w'.heap[k]? =w.heap[k]? :=λk hk=>by
  have h1:w.heap[k]? =some w.heap[k]:=by simp [hk]
  rw [h.mem.F k _ (h.ext.F k _ h1),h1]
 refine ⟨he.1,he.2.2,he.2.1,?_,hb⟩
 rcases Nat.lt_or_ge w'.heap.size w.heap.size with hl|hl
 ·have:=hb _ hl
  simp [hl] at this
 ·exact hl
theorem auN {P:Program} {f:FuncId} {s:cj} (h:ac P f s) (hfn:∃ fn,P.funcs[f]? =some fn/\(fn.name== "runtime.NumGoroutine")=false/\fn.body.isNone=false) {w:World} {args:List SV} {vs:List Value} {u:List (Nat×Ch)} (hr:SV.bV (iv w) args vs)
 (ht:(s.f 0 args aAQ).run=some (.ret ⟨.bool true,u⟩)):Calls P f vs.toArray w λe w'=>e=.returned (.bool true)/\Below w.heap.size w w':=by
 have hc:Calls P f vs.toArray w (xX (iv w) (.ret ⟨.bool true,u⟩)):=by
  rcases h.calls (iv w) w 0 args vs _ (azE w) hr ht with ⟨_,_,_,_,hc⟩|⟨v,w',hv,_⟩
  ·exact hc
  ·exfalso
   obtain ⟨fn,f1,f2,f3⟩:=hfn
   have f2':¬fn.name= "runtime.NumGoroutine" :=by simpa using f2
   have f3':¬fn.body=none:=λe=>by rw [e] at f3;simp at f3
   simp [callFunc,f1,f2',f3'] at hv
 refine hc.mono λe w' hp=> ?_
 obtain ⟨v,R',rfl,ha,hv⟩:=hp
 simp only [SV.rel] at hv
 subst hv
 exact ⟨rfl,acq ha⟩
end Sx
end Go.Proofs.YtohjofabochgfaaGreat

namespace Go.Proofs.YtohjofabochgfaaGreat
namespace Sx
open Go Go.RowKit
def Xd (te:TE) (T:TypeId) (n:Nat):Bool:=match te T with
 |some ei=>Nat.beq ei.size n
 |none=>false
def Fb (go:TypeId->Ty->Bool) (te:TE):Nat->List (Nat×TypeId)->Ty->Bool
 |o,[(p,T)],y=>Nat.beq o p&&(Xd te T y.size&&go T y)
 |o,(p,T)::q::r,.prod a b=>Nat.beq o p&&(Xd te T a.size&&(go T a&&Fb go te (o+a.size) (q::r) b))
 |_,_,_=>false
def BL (te:TE):Nat->TypeId->Ty->Bool
 |0,_,_=>false
 |n+1,T,y=>match te T with
  |none=>false
  |some ti=>match ti.desc,y with
   |.bool,.bool=>true
   |.int .u64,.u64=>true
   |.int .u8,.u8=>true
   |.int .i64,.int=>true
   |.str,.str=>true
   |.array m e,.elem=>(match te e with
    |some ei=>(match ei.desc with|.int .u64=>true|_=>false)&&Nat.beq ei.size 1
    |none=>false)&&(Nat.beq m 4&&Nat.beq ti.size 4)
   |.array m e,.arr k t=>Nat.beq m k&&(Xd te e t.size&&(Nat.beq ti.size (k*t.size)&&BL te n e t))
   |.slice e,.list t=>(match te e with
    |some ei=>Nat.beq ei.size t.size&&(Nat.blt 0 ei.size&&Nat.blt 0 ei.bytes)
    |none=>false)&&BL te n e t
   |.struct fs,y=>Nat.beq ti.size y.size&&Fb (BL te n) te 0 fs y
   |_,_=>false
theorem LH {α β:Type} {f:α->Option β}:∀ {l:List α} {ys:List β},l.mapM f=some ys->ys.length=l.length/\∀ (i:Nat) (h:i<l.length) (h':i<ys.length),f l[i]=some ys[i]
 | [],ys,h=>by
  simp only [List.mapM_nil,Option.pure_def,Option.some.injEq] at h
  subst h
  exact ⟨rfl,λi hi=>absurd hi (Nat.not_lt_zero _)⟩
 |x::l,ys,h=>by
  simp only [List.mapM_cons,Option.bind_eq_bind,Option.bind_eq_some_iff,Option.pure_def,Option.some.injEq] at h
  obtain ⟨y,h1,r,h2,rfl⟩:=h
  obtain ⟨h3,h4⟩:=LH h2
  refine ⟨by simp [h3],λi hi hi'=> ?_⟩
  cases i with
  |zero=>exact h1
  |succ i=>exact h4 i (by simpa using hi) (by simpa using hi')
theorem zL {α:Type} {d:α} {Q:Nat->α->Prop}:∀ (n:Nat),(∀ i,i<n->∃ x,Q i x)->∃ l:List α,l.length=n/\∀ i,i<n->Q i (l.getD i d)
 |0,_=>⟨[],rfl,λi h=>absurd h (Nat.not_lt_zero _)⟩
 |n+1,h=>by
  obtain ⟨l,h1,h2⟩:=zL n λi hi=>h i (by omega)
  obtain ⟨x,hx⟩:=h n (by omega)
  refine ⟨l++ [x],by simp [h1],λi hi=> ?_⟩
  rcases Nat.lt_or_ge i n with hi'|hi'
  ·have:=h2 i hi'
   rwa [List.getD_eq_getElem?_getD,List.getElem?_append_left (by omega),<-List.getD_eq_getElem?_getD]
  ·have:i=n:=by omega
   subst this
   rw [List.getD_eq_getElem?_getD,List.getElem?_append_right (by omega),h1]
   simpa using hx
theorem VL {w:World} {a:Addr} {n:Nat} {cs:List Value} (hn:0<n) (h:w.cells? 0 a n=some cs):
 ∃ arr E fz,w.heap[a.block]? =some (.cells arr E fz)/\a.spot=none/\a.off+n<=arr.size/\cs=seg arr.toList a.off n:=by
 unfold World.cells? at h
 rw [if_pos (Nat.zero_le _)] at h
 obtain ⟨h1,h2⟩:=LH h
 rw [List.length_range] at h1
 have hat:∀ i (hi:i<n),w.cell? (a.add i)=some (cs[i]'(by omega)):=λi hi=>by
  have:=h2 i (by simpa using hi) (by omega)
  simpa using this
 have h0:=hat 0 hn
 have e0:a.add 0=a:=rfl
 rw [e0] at h0
 unfold World.cell? at h0
 split at h0
 ·rename_i arr E fz hb
  split at h0
  ·cases h0
  ·rename_i hs
   have hs':a.spot=none:=by simpa using hs
   have hget:∀ i (hi:i<n),arr[a.off+i]? =some (cs[i]'(by omega)):=λi hi=>by
    have:=hat i hi
    unfold World.cell? Addr.add at this
    by_cases hi0:i=0
    ·subst hi0
     simpa [hb,hs'] using this
    ·rw [if_neg hi0] at this
     simpa [hb] using this
   have hle:a.off+n<=arr.size:=by
    have:=(Array.getElem?_eq_some_iff.1 (hget (n-1) (by omega))).1
    omega
   refine ⟨arr,E,fz,hb,hs',hle,?_⟩
   apply List.ext_getElem
   ·rw [gp (by simpa using hle)];exact h1
   ·intro i hi hi'
    obtain ⟨hlt,he⟩:=Array.getElem?_eq_some_iff.1 (hget i (by omega))
    simp only [seg,List.getElem_take,List.getElem_drop,Array.getElem_toList]
    exact he.symm
 ·cases h0
section
variable {H:Type} {enc:TypeId×Value->H} {P:Program} {te:TE} (hte:mZ P te) {w:World} {sp:Nat->Bool}
abbrev U7 (w:World):Nat->Option Obj:=λb=>w.heap[b]?
include hte
theorem jU {T:TypeId} {ti:TI} (h:te T=some ti):P.cellsOf T=ti.size:=by
 obtain ⟨i,z,h1,h2,_⟩:=(hte T ti h).aHU
 unfold Program.cellsOf
 rw [h1]
 exact h2
theorem app {T:TypeId} {ti:TI} (h:te T=some ti):P.bytesOf T=ti.bytes:=by
 obtain ⟨i,z,h1,_,h2,_⟩:=(hte T ti h).aHU
 unfold Program.bytesOf
 rw [h1]
 exact h2
omit hte in
theorem yS {T:TypeId} {n:Nat} (h:Xd te T n=true):∃ ti,te T=some ti/\ti.size=n:=by
 unfold Xd at h
 split at h
 ·rename_i ei he
  exact ⟨ei,he,Nat.eq_of_beq_eq_true h⟩
 ·cases h
omit hte in
theorem n0 {e:TypeId}:∀ {l:List (DataW H)} {d:DataW H},d ∈ l->∀ n ∈ d.weights P e,n ∈ DataW.weightsAll P e l
 |x::l,d,h,n,hn=>by
  simp only [DataW.weightsAll,List.mem_append]
  rcases List.mem_cons.1 h with rfl|h
  ·exact .inl hn
  ·exact .inr (n0 h n hn)
theorem RF {go:TypeId->Ty->Bool} {fuel:Nat} {cs:List Value}
 (hgo:∀ T y c d ps,go T y=true->c.length=y.size->DataW.trod enc P w 0 sp true fuel T c=some (d,ps)->(∀ n ∈ d.weights P T,n<=reachBytes)->∃ x,Rep (U7 w) y x c):
 ∀ (fl:List Field) (o:Nat) (y:Ty) (xs:List (DataW H×List MemPlace)),Fb go te o (fl.map λf=>(f.offset,f.type)) y=true->o+y.size=cs.length->
  fl.mapM (λf=>DataW.trod enc P w 0 sp true fuel f.type ((cs.drop f.offset).take (P.cellsOf f.type)))=some xs->
  (∀ n ∈ DataW.weightsEach P (fl.map (·.type)) (xs.map (·.1)),n<=reachBytes)->∃ x,Rep (U7 w) y x (cs.drop o)
 | [],o,y,xs,h,_,_,_=>by simp [Fb] at h
 | [f],o,y,xs,h,hl,hm,hw=>by
  simp only [List.map_cons,List.map_nil,Fb,Bool.and_eq_true] at h
  obtain ⟨h1,h2,h3⟩:=h
  have h1:=Nat.eq_of_beq_eq_true h1
  obtain ⟨ti,ht,hs⟩:=yS h2
  simp only [List.mapM_cons,List.mapM_nil,Option.bind_eq_bind,Option.bind_eq_some_iff,Option.pure_def,Option.some.injEq] at hm
  obtain ⟨⟨d,ps⟩,e1,r,rfl,rfl⟩:=hm
  rw [jU hte ht,hs,<-h1] at e1
  have hlen:(cs.drop o).length=y.size:=by simp;omega
  rw [List.take_of_length_le (by omega)] at e1
  exact hgo _ _ _ _ _ h3 hlen e1 λn hn=>hw n (by simp only [List.map_cons,List.map_nil,DataW.weightsEach,List.append_nil];exact hn)
 |f::g::r,o,y,xs,h,hl,hm,hw=>by
  cases y<;>simp only [List.map_cons,Fb,Bool.and_eq_true] at h<;>try (cases h;done)
  rename_i a b
  obtain ⟨h1,h2,h3,h4⟩:=h
  have h1:=Nat.eq_of_beq_eq_true h1
  obtain ⟨ti,ht,hs⟩:=yS h2
  rw [List.mapM_cons] at hm
  simp only [Option.bind_eq_bind,Option.bind_eq_some_iff,Option.pure_def,Option.some.injEq] at hm
  obtain ⟨⟨d,ps⟩,e1,q,e2,rfl⟩:=hm
  rw [jU hte ht,hs,<-h1] at e1
  simp only [Ty.size] at hl
  obtain ⟨x1,k1⟩:=hgo _ _ _ _ _ h3 (by simp;omega) e1 λn hn=>hw n (by simp only [List.map_cons,DataW.weightsEach,List.mem_append];exact .inl hn)
  obtain ⟨x2,k2⟩:=RF hgo (g::r) (o+a.size) b q h4 (by omega) e2 λn hn=>hw n (by simp only [List.map_cons,DataW.weightsEach,List.mem_append] at hn⊢;exact .inr hn)
  refine ⟨(x1,x2),?_⟩
  simp only [Rep]
  refine ⟨by simp;omega,k1,?_⟩
  rw [List.drop_drop]
  exact k2
theorem axd {go:TypeId->Ty->Bool} {fuel:Nat} {cs:List Value} {e:TypeId} {t:Ty} {ei:TI} (he:te e=some ei) (hs:ei.size=t.size)
 (hgo:∀ c d ps,c.length=t.size->DataW.trod enc P w 0 sp true fuel e c=some (d,ps)->(∀ n ∈ d.weights P e,n<=reachBytes)->∃ x,Rep (U7 w) t x c) {m:Nat} (hl:cs.length=m*t.size) {xs:List (DataW H×List MemPlace)}
 (hm:((List.range m).mapM λi=>DataW.trod enc P w 0 sp true fuel e ((cs.drop (i*P.cellsOf e)).take (P.cellsOf e)))=some xs)
 (hw:∀ n ∈ DataW.weightsAll P e (xs.map (·.1)),n<=reachBytes):∀ i,i<m->∃ x,Rep (U7 w) t x (seg cs (i*t.size) t.size):=λi hi=>by
 obtain ⟨h1,h2⟩:=LH hm
 rw [List.length_range] at h1
 have:=h2 i (by simpa using hi) (by omega)
 rw [List.getElem_range,jU hte he,hs] at this
 have hle:(i+1)*t.size<=m*t.size:=Nat.mul_le_mul_right _ hi
 rw [Nat.succ_mul] at hle
 refine hgo _ (xs[i]'(by omega)).1 (xs[i]'(by omega)).2 (gp (by omega)) this λn hn=>hw n (n0 (List.mem_map.2 ⟨xs[i]'(by omega),List.getElem_mem _,rfl⟩) n hn)
omit hte in
theorem aDM {fuel:Nat} {e:TypeId} {c:Value} {d:DataW H} {ps:List MemPlace} (hu:P.underlying e=some (.int .u64)) (hr:DataW.trod enc P w 0 sp true fuel e [c]=some (d,ps)):∃ x:UInt64,c=iq x:=by
 cases fuel with
 |zero=>simp [DataW.trod] at hr
 |succ fuel=>
  simp only [DataW.trod,hu] at hr
  cases c<;>simp only at hr<;>try (cases hr;done)
  rename_i k' n
  split at hr
  ·rename_i hk
   obtain ⟨rfl,hwf⟩:=hk
   have:=bounds_u64 hwf
   refine ⟨UInt64.ofNat n.toNat,?_⟩
   simp only [iq,UInt64.toNat_ofNat']
   congr 1
   omega
  ·cases hr
theorem AL:∀ (k fuel:Nat) (T:TypeId) (y:Ty) (cs:List Value) (d:DataW H) (ps:List MemPlace),BL te k T y=true->cs.length=y.size->DataW.trod enc P w 0 sp true fuel T cs=some (d,ps)->
 (∀ n ∈ d.weights P T,n<=reachBytes)->∃ x,Rep (U7 w) y x cs
 |0,_,_,_,_,_,_,h,_,_,_=>by simp [BL] at h
 |k+1,0,_,_,_,_,_,_,_,h,_=>by simp [DataW.trod] at h
 |k+1,fuel+1,T,y,cs,d,ps,h,hl,hr,hw=>by
  simp only [BL] at h
  split at h
  ·cases h
  ·rename_i ti hT
   obtain ⟨ds,hu,hd⟩:=(hte T ti hT).desc
   have hcells:=jU hte hT
   simp only [DataW.trod,hu] at hr
   split at h
   ·--bool
    rename_i he
    rw [he] at hd
    simp only at hd
    subst hd
    match cs,hl with
    | [c],hl1=>
     cases c<;>simp only [Option.some.injEq] at hr<;>try (cases hr;done)
     exact ⟨_,rfl⟩
   ·rename_i he
    rw [he] at hd
    simp only at hd
    subst hd
    match cs,hl with
    | [c],hl1=>
     cases c<;>simp only at hr<;>try (cases hr;done)
     rename_i k' n
     split at hr
     ·rename_i hk
      obtain ⟨rfl,hwf⟩:=hk
      have:=bounds_u64 hwf
      refine ⟨UInt64.ofNat n.toNat,?_⟩
      simp only [Rep,iq,UInt64.toNat_ofNat']
      congr 2
      omega
     ·cases hr
   ·rename_i he
    rw [he] at hd
    simp only at hd
    subst hd
    match cs,hl with
    | [c],hl1=>
     cases c<;>simp only at hr<;>try (cases hr;done)
     rename_i k' n
     split at hr
     ·rename_i hk
      obtain ⟨rfl,hwf⟩:=hk
      have:=bounds_u8 hwf
      refine ⟨UInt8.ofNat n.toNat,?_⟩
      simp only [Rep,vu8,UInt8.toNat_ofNat']
      congr 2
      omega
     ·cases hr
   ·rename_i he
    rw [he] at hd
    simp only at hd
    subst hd
    match cs,hl with
    | [c],hl1=>
     cases c<;>simp only at hr<;>try (cases hr;done)
     rename_i k' n
     split at hr
     ·rename_i hk
      obtain ⟨rfl,hwf⟩:=hk
      have:=bounds_i64 hwf
      exact ⟨n,rfl,aH (by omega)⟩
     ·cases hr
   ·rename_i he
    rw [he] at hd
    simp only at hd
    subst hd
    match cs,hl with
    | [c],hl1=>
     cases c<;>simp only at hr<;>try (cases hr;done)
     rename_i s
     split at hr
     ·cases hr
      refine ⟨s.data.toList,?_⟩
      have:=hw s.data.toList.length (by simp [DataW.weights])
      unfold reachBytes at this
      simp only [Rep]
      exact ⟨trivial,by unfold cW;omega⟩
     ·cases hr
   ·--four words
    rename_i m e he
    rw [he] at hd
    simp only at hd
    subst hd
    simp only [Bool.and_eq_true] at h
    obtain ⟨h1,h2,h3⟩:=h
    split at h1
    ·rename_i ei hei
     rw [Bool.and_eq_true] at h1
     obtain ⟨h4,h5⟩:=h1
     split at h4
     ·rename_i hed
      have h2:=Nat.eq_of_beq_eq_true h2
      have h5:=Nat.eq_of_beq_eq_true h5
      subst h2
      obtain ⟨de,hue,hde⟩:=(hte e ei hei).desc
      rw [hed] at hde
      simp only at hde
      subst hde
      have hl4:cs.length=4:=hl
      simp only at hr
      rw [if_pos (by rw [hcells];rw [hl4];exact (Nat.eq_of_beq_eq_true h3).symm)] at hr
      simp only [Option.map_eq_some_iff] at hr
      obtain ⟨xs,hm,hx⟩:=hr
      obtain ⟨m1,m2⟩:=LH hm
      rw [List.length_range] at m1
      match cs,hl4 with
      | [c0,c1,c2,c3],hl1=>
       have key:∀ i (hi:i<4),∃ x:UInt64,[c0,c1,c2,c3][i]=iq x:=λi hi=>by
        have:=m2 i (by simpa using hi) (by omega)
        rw [List.getElem_range,jU hte hei,h5,Nat.mul_one] at this
        have e2:([c0,c1,c2,c3].drop i).take 1= [[c0,c1,c2,c3][i]]:=by
         rw [List.drop_eq_getElem_cons (by simpa using hi)]
         rfl
        rw [e2] at this
        exact aDM hue this
       obtain ⟨x0,k0⟩:=key 0 (by omega)
       obtain ⟨x1,k1⟩:=key 1 (by omega)
       obtain ⟨x2,k2⟩:=key 2 (by omega)
       obtain ⟨x3,k3⟩:=key 3 (by omega)
       simp only [List.getElem_cons_zero,List.getElem_cons_succ] at k0 k1 k2 k3
       exact ⟨⟨x0,x1,x2,x3⟩,by simp only [Rep,k0,k1,k2,k3]⟩
     ·cases h4
    ·cases h1
   ·--an array
    rename_i m e k' t he
    rw [he] at hd
    simp only at hd
    subst hd
    simp only [Bool.and_eq_true] at h
    obtain ⟨h1,h2,h3,h4⟩:=h
    have h1:=Nat.eq_of_beq_eq_true h1
    subst h1
    obtain ⟨ei,hei,hs⟩:=yS h2
    have hl':cs.length=m*t.size:=hl
    simp only at hr
    rw [if_pos (by rw [hcells,hl'];exact (Nat.eq_of_beq_eq_true h3).symm)] at hr
    simp only [Option.map_eq_some_iff] at hr
    obtain ⟨xs,hm,hx⟩:=hr
    cases hx
    have key:=axd (go:=λ_ _=>true) hte hei hs (λc d ps h1 h2 h3=>AL k fuel e t c d ps h4 h1 h2 h3) hl' hm (λn hn=>hw n (by simp only [DataW.weights,hu];exact hn))
    obtain ⟨l,l1,l2⟩:=zL (d:=t.d) m key
    exact ⟨l,hl',l1,l2⟩
   ·--a slice
    rename_i e t he
    rw [he] at hd
    simp only at hd
    subst hd
    rw [Bool.and_eq_true] at h
    obtain ⟨h1,h4⟩:=h
    split at h1
    ·rename_i ei hei
     simp only [Bool.and_eq_true] at h1
     obtain ⟨h1,h2,h3⟩:=h1
     have hs:=Nat.eq_of_beq_eq_true h1
     have hpos:=dW h2
     have hby:=dW h3
     match cs,hl with
     | [c],hl1=>
      cases c<;>try (exfalso;simp at hr;done)
      rename_i ad len cap
      cases ad with
      |none=>
       rcases len with _|len
       ·rcases cap with _|cap
        ·exact ⟨[],by simp only [Rep];exact ⟨Nat.zero_le _,none,0,rfl,Nat.le_refl _,.inl trivial⟩⟩
        ·cases hr
       ·cases hr
      |some a=>
       simp only at hr
       split at hr
       ·rename_i hcond
        obtain ⟨_,hlc,_⟩:=hcond
        simp only [Option.bind_eq_some_iff,Option.map_eq_some_iff] at hr
        obtain ⟨elems,hm,rest,_,hx⟩:=hr
        cases hx
        obtain ⟨m1,m2⟩:=LH hm
        rw [List.length_range] at m1
        have hwt:=hw ((elems.length+rest.length)*P.bytesOf e) (by simp [DataW.weights,hu])
        rw [app hte hei] at hwt
        have hlen:len<=cW:=by
         have:elems.length<=(elems.length+rest.length)*ei.bytes:=Nat.le_trans (Nat.le_add_right _ _) (Nat.le_mul_of_pos_right _ hby)
         unfold reachBytes at hwt
         unfold cW
         omega
        rcases Nat.eq_zero_or_pos len with h0|h0
        ·subst h0
         exact ⟨[],by simp only [Rep];exact ⟨Nat.zero_le _,_,_,rfl,Nat.zero_le _,.inl trivial⟩⟩
        ·have key:∀ i,i<len->∃ c,w.cells? 0 (a.add (i*t.size)) t.size=some c/\∃ x,Rep (U7 w) t x c:=λi hi=>by
          have:=m2 i (by simpa using hi) (by omega)
          rw [List.getElem_range,jU hte hei,hs] at this
          obtain ⟨c,hc,hrr⟩:=Option.bind_eq_some_iff.1 this
          refine ⟨c,hc,AL k fuel e t c (elems[i]'(by omega)).1 (elems[i]'(by omega)).2 h4 ?_ hrr λn hn=>hw n ?_⟩
          ·obtain ⟨arr,E,fz,_,_,hle,rfl⟩:=VL (by omega) hc
           exact gp (by simpa using hle)
          ·simp only [DataW.weights,hu,List.mem_cons,List.mem_append]
           exact .inr (.inl (n0 (List.mem_map.2 ⟨elems[i]'(by omega),List.getElem_mem _,rfl⟩) n hn))
         obtain ⟨c0,hc0,_⟩:=key 0 h0
         rw [Nat.zero_mul] at hc0
         obtain ⟨arr,E,fz,hb,hsp,_,_⟩:=VL (by omega) hc0
         have hb':w.heap[a.block]? =some (.cells arr E fz):=hb
         have hsp':a.spot=none:=hsp
         have at_i:∀ i,i<len->a.off+i*t.size+t.size<=arr.size/\∃ x,Rep (U7 w) t x (seg arr.toList (a.off+i*t.size) t.size):=λi hi=>by
          obtain ⟨c,hc,x,hx⟩:=key i hi
          obtain ⟨arr2,E2,fz2,hb2,_,hle,rfl⟩:=VL (by omega) hc
          have hblk:(a.add (i*t.size)).block=a.block:=by unfold Addr.add;split<;>rfl
          have hoff:(a.add (i*t.size)).off=a.off+i*t.size:=by
           unfold Addr.add
           split
           ·rename_i h;rw [h];rfl
           ·rfl
          rw [hblk,hb'] at hb2
          cases hb2
          rw [hoff] at hle hx
          exact ⟨hle,x,hx⟩
         obtain ⟨l,l1,l2⟩:=zL (d:=t.d) len λi hi=>(at_i i hi).2
         refine ⟨l,?_⟩
         simp only [Rep]
         refine ⟨by omega,some a,cap,by rw [l1],by omega,.inr ⟨a.block,a.off,arr,E,fz,?_,hb',?_,λi hi=>l2 i (by omega)⟩⟩
         ·obtain ⟨blk,off,spot⟩:=a
          simp only at hsp'
          rw [hsp']
         ·have:=(at_i (len-1) (by omega)).1
          have e2:(len-1)*t.size+t.size=len*t.size:=by
           rw [<-Nat.succ_mul]
           congr 1
           omega
          rw [l1]
          omega
       ·cases hr
    ·cases h1
   ·--a struct
    rename_i y _ _ fs he
    rw [he] at hd
    simp only at hd
    obtain ⟨fields,rfl,hf,_⟩:=hd
    rw [Bool.and_eq_true] at h
    have hsz:=Nat.eq_of_beq_eq_true h.1
    simp only at hr
    rw [if_pos (by rw [hcells,hl];exact hsz.symm)] at hr
    simp only [Option.map_eq_some_iff] at hr
    obtain ⟨xs,hm,hx⟩:=hr
    cases hx
    have h2:=h.2
    rw [<-hf] at h2
    have:=RF hte (go:=BL te k) (cs:=cs) (λT y c d ps a b c' d'=>AL k fuel T y c d ps a b c' d') fields.toList 0 y xs h2 (by omega) hm (λn hn=>hw n (by simp only [DataW.weights,hu];exact hn))
    simpa using this
   ·cases h
end
end Sx
end Go.Proofs.YtohjofabochgfaaGreat
