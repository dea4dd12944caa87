/- Plain lemmas: what the functions of the program and of the reference compute. -/
import Derived.Test.YthhobbgaejimgaaGreatDoorP126
set_option linter.all false
set_option maxRecDepth 100000
namespace Go.Sf.Sc
open Go Go.Sf
def OG:AB:=AB.mk [BO.mk (⟨#[65,99,99,111,117,110,116]⟩:ByteArray) (-1) true [rc.mk (⟨#[98,97,108,97,110,99,101]⟩:ByteArray) (-1000) 1000 []],BO.mk (⟨#[67,97,115,104]⟩:ByteArray) 0 false [],BO.mk (⟨#[76,111,97,110]⟩:ByteArray) 0 false [rc.mk (⟨#[115,116,97,116,101]⟩:ByteArray) 0 1 [(⟨#[111,112,101,110]⟩:ByteArray),(⟨#[99,108,111,115,101,100]⟩:ByteArray)]],BO.mk (⟨#[80,101,114,115,111,110]⟩:ByteArray) (-1) false []] [Bg.mk (⟨#[111,119,110,115]⟩:ByteArray) 3 0 0 (-1) 1 1,Bg.mk (⟨#[112,97,121,115]⟩:ByteArray) 1 1 0 (-1) 0 (-1)]
def Jy:AM:=AM.mk (hT.mk [] []) []
theorem Xt:Bp OG=some (⟨#[]⟩,0):=
 have h:Mo (@Bp (eN 40) OG) (@Bp Ax OG):=inferInstance
 h.le _ (by decide +kernel)
theorem aV:Cd OG Jy=some (-1,0):=
 have h:Mo (@Cd (eN 40) OG Jy) (@Cd Ax OG Jy):=inferInstance
 h.le _ (by decide +kernel)
theorem VK{a:List BW}(i:a.length<=30)(j:∀m∈a,H0 m)(o:(Ao (a.flatMap Hv)).size<=20000){v:List AY×Int×Int}(k:Co (Ao (a.flatMap Hv))=some v)(hv:v.2.2=0)(p:v.1.length<=4000)(q:∀t∈v.1,t.sn.size<=20000):Dv OG Jy (Ao (a.flatMap Hv))=some (⟨Jy,a⟩,0,0):=by
 have e:Dv OG Jy (Ao (a.flatMap Hv))=(Bp OG).bind fun c=>if(!decide (c.2=0))=true then some (HO,0,c.2)else(Cd OG Jy).bind fun d=>if(!decide (d.2=0))=true then some (HO,0,d.2)else(Co (Ao (a.flatMap Hv))).bind fun b=>if(!decide (b.2.2=0))=true then some (HO,b.2.1,b.2.2)else(CH Jy).bind fun h=>
   o4 (E5 (UE b.1) (AL.mk h [],AE.mk b.1 0 0 0)) (fun f=>if(!decide (f.2.err=0))=true then some (HO,f.2.qo,f.2.err)else some (f.1,0,0)) (fun r=>some r):=rfl
 have l:=XP o rfl i j k hv;rw[e,Xt,bs,bk (by decide),aV,bs,bk (by decide),k,bs,bk (by simp[hv]),show CH Jy=some Jy from WY Yh,bs];have key:∃g,F9 (UE v.1) (⟨Jy,[]⟩,⟨v.1,0,0,0⟩) (.inl (⟨Jy,a⟩,g))/\g.err=0:=by
  by_cases s:1<=v.1.length
  .exact Rz a ⟨Jy,[]⟩ ⟨v.1,0,0,0⟩ 1 j (by simpa using i) ⟨⟨Int.le_refl _,by simp,s,p,q⟩,rfl,rfl,l⟩
  .have n:v.1.length=0:=by omega
   have u:a=[]:=by
    cases a with
    |nil=>rfl|cons m a=>
     have:=congrArg List.length l;simp[NC,F4,n]at this
   subst u;exact⟨⟨v.1,0,0,0⟩,.brk (by unfold UE;simp[n]),rfl⟩
 obtain ⟨g,w,x⟩:=key;rw[show(AL.mk Jy [],AE.mk v.1 0 0 0)=((⟨Jy,[]⟩,⟨v.1,0,0,0⟩):AL×AE)from rfl,w.eq];simp[o4,x]
theorem Lu(d:AL)(h:(BF d).Sm):D7 d=some true:=by
 have i:TV.t1 [_,_,_,_]:=h;obtain⟨b,e,f⟩:=aX (d:=d) (QV (e:=Dp) i.2.2.2.1).2 (rJ:=33) (by decide);unfold D7;rw[Xl,bs,bk (by decide),e,bs,bs];cases b with
 |false=>rfl|true=>
 obtain ⟨p,j,k,l⟩:=TK d;rw[bk (by decide),d5 (f rfl),bs,j,k,bs,bs];by_cases a:p.2=0
 .obtain⟨c,m,n⟩:=l a;rw[bk (by simp[a]),n];by_cases g:(Ao (d.po.flatMap Hv)).size<=20000
  .obtain⟨v,o,q,r,s⟩:=TM g;rw[q,bs];by_cases hv:v.2.2=0
   .rw[bk (by simp[hv]),show Gd=some OG from rfl,bs,show(AM.mk (hT.mk [] []) [])=Jy from rfl,VK c m g o hv r s,bs,az (by simp),bI];rfl
   .rw[az (by simp[hv])]
  .have:Da (Ao (d.po.flatMap Hv))=some ([],0,3):=by
    unfold Da;rw[az (by simp;omega)]
   rw [this];rfl
 .rw[az (by simp[a])];simp
end Go.Sf.Sc
