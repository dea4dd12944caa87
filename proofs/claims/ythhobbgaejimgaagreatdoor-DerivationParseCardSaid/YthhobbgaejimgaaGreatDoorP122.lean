/- Plain lemmas: what the functions of the program and of the reference compute. -/
import Derived.Test.YthhobbgaejimgaaGreatDoorP121
set_option linter.all false
set_option maxRecDepth 100000
namespace Go.Sf.Sc
open Go Go.Sf
noncomputable def ZK[Ev](D:AN)(x78:AE):Option (Bk (AN×AE) (AN×Int×Int)):=
 (Al x78 1 (⟨#[109,111,118,101]⟩:ByteArray)).bind fun x80=>
 (Ai x80.2).bind fun x82=>
 (A0 x82.2 40 false).bind fun x85=>
 (A0 x85.2 80 false).bind fun x90=>
 (A0 x90.2 12 true).bind fun x95=>
 (Al x95.2 4 (⟨#[59]⟩:ByteArray)).bind fun x99=>
 (Aj D.o4 [CQ.mk x82.1 (AR.mk (ec.mk x85.1 x90.1) x95.1)]).bind fun x104=>
 some (.next (AN.mk D.qy x104,x99.2))
noncomputable def ZN[Ev](D:AN)(x78:AX):Option (Bk (AN×AX) (AN×Int×Int)):=
 (AW x78 1 (⟨#[109,111,118,101]⟩:ByteArray)).bind fun x80=>
 (AW x80.2 2 (⟨#[]⟩:ByteArray)).bind fun x83=>
 (Bs x83.1).bind fun x84=>
 (BE x83.2 40 false).bind fun x89=>
 (BE x89.2 80 false).bind fun x94=>
 (BE x94.2 12 true).bind fun x99=>
 (AW x99.2 4 (⟨#[59]⟩:ByteArray)).bind fun x103=>
 (Aj D.o4 [CQ.mk x84.1 (AR.mk (ec.mk x89.1 x94.1) x99.1)]).bind fun x108=>
 some (.next (AN.mk D.qy x108,x103.2))
noncomputable def QD[Ev](l:List Ap):AN×AE->Option (Bk (AN×AE) (AN×Int×Int)):=fun s0=>
 if ((decide (s0.2.at'<(l.length:Int)))&&(decide (s0.2.err=0)))=true then
 (Ak s0.2 1 (⟨#[109,111,118,101]⟩:ByteArray)).bind fun x70=>
 if (x70&&(decide ((s0.1.o4.length:Int)=30)))=true then
 (A9 s0.2 3).bind fun x78=>ZK s0.1 x78
 else ZK s0.1 s0.2
 else
 some (.brk (s0.1,s0.2))
noncomputable def QI[Ev](l:List Ap):AN×AX->Option (Bk (AN×AX) (AN×Int×Int)):=fun s0=>
 if ((decide (s0.2.at'<(l.length:Int)))&&(decide (s0.2.e=0)))=true then
 (A4 s0.2 1 (⟨#[109,111,118,101]⟩:ByteArray)).bind fun x70=>
 if (x70&&(decide ((s0.1.o4.length:Int)=30)))=true then
 (BV s0.2 3).bind fun x78=>ZN s0.1 x78
 else ZN s0.1 s0.2
 else
 some (.brk (s0.1,s0.2))
variable{D:AN}{r:AE}
theorem TX(h:RI r)(U:D.o4.length<=5000):∃M d a,ZK D r=some (.next (⟨D.qy,D.o4++[M]⟩,a))/\ZN D (DG r)=some (.next (⟨D.qy,D.o4++[d]⟩,DG a))/\RI a/\a.l=r.l/\(a.err=0->r.err=0/\M=d/\r.at'+1<=a.at'):=by
 have b:∀v:CQ,Aj D.o4 [v]=some (D.o4++[v]):=fun v=>DM (by simp[Bi];omega);obtain⟨a1,V,j,W,k,X⟩:=DP h 1 (⟨#[109,111,118,101]⟩:ByteArray);obtain⟨m,n,o,Y,p,Z⟩:=DP a1 2 (⟨#[]⟩:ByteArray);obtain⟨x,x',r1,q,s,t,c4,c5,u⟩:=Nb m 40 false;obtain⟨y,w,r2,A,B,C,E,d5,F⟩:=Nb t 80 false;obtain⟨z,z',G,H,I,c,J,e5,K⟩:=Nb C 12 true;obtain⟨L,f2,N,f4,O,f6⟩:=DP c 4 (⟨#[59]⟩:ByteArray);obtain⟨_,⟨e,P⟩,_⟩:=Iu n;refine⟨CQ.mk (LT (Ci (Ci r 1 (⟨#[109,111,118,101]⟩:ByteArray)).2 2 (⟨#[]⟩:ByteArray)).1) (AR.mk (ec.mk x y) z),CQ.mk (LT (Ci (Ci r 1 (⟨#[109,111,118,101]⟩:ByteArray)).2 2 (⟨#[]⟩:ByteArray)).1) (AR.mk (ec.mk x' w) z'),(Ci G 4 (⟨#[59]⟩:ByteArray)).2,?_,?_,L,by rw[N,J,E,c4,o,j],fun f=>?_⟩
 .unfold ZK;rw[N6 h,bs,N5 a1,bs,q,bs,A,bs,H,bs,N6 c,bs,b,bs]
 .unfold ZN;rw[Iw h,bs,Iw a1,bs,P,bs,s,bs,B,bs,I,bs,Iw c,bs,b,bs]
 .have g:=(O f).1;obtain⟨Q,rfl⟩:=K g;obtain⟨R,rfl⟩:=F Q;obtain⟨S,rfl⟩:=u R;have i:=(p S).1;obtain⟨T,g6⟩:=k i;exact⟨T,rfl,by omega⟩
theorem Zx(h:RI r)(k:D.o4.length<=5000)(he:r.err=0)(n:r.at'<r.l.length):∃M b a,QD r.l (D,r)=some (.next (⟨D.qy,D.o4++[M]⟩,a))/\QI r.l (D,DG r)=some (.next (⟨D.qy,D.o4++[b]⟩,DG a))/\RI a/\a.l=r.l/\(a.err=0->M=b/\r.at'+1<=a.at'):=by
 have m:((decide (r.at'<(r.l.length:Int)))&&(decide (r.err=0)))=true:=by simp[he,n]
 have c:((decide ((DG r).at'<(r.l.length:Int)))&&(decide ((DG r).e=0)))=true:=m;unfold QD QI;simp only;rw[QQ m,QQ c,JX h,Kg h,bs,bs];split
 .obtain⟨M,b,a,d,f,g,i,j⟩:=TX (F8 h 3) k;rw[Oa h,Oe h,bs,bs];refine⟨M,b,a,d,f,g,i.trans (by unfold EO;split<;>rfl),fun e=>?_⟩;have:=(j e).1;unfold EO at this;rw[QQ he]at this;exact absurd (show(3:Int)=0 from this) (by decide)
 .obtain⟨M,b,a,d,f,g,i,j⟩:=TX h k;exact⟨M,b,a,d,f,g,i,fun e=>(j e).2⟩
theorem Vq(l:List Ap):∀(m:Nat)(D:AN)(r:AE),RI r->r.l=l->(if r.err=0 then(r.l.length:Int)-r.at'+1 else 0)<=m->(D.o4.length:Int)<=r.at'+(if r.err=0 then 0 else 1) ->
  ∃c g a,Fk (QD l) (D,r) (.inl (c,a))/\Fk (QI l) (D,DG r) (.inl (g,DG a))/\(a.err=0->c=g)/\c.qy=D.qy:=by
 intro m
 induction m with
 |zero=>
  intro D r h i j ho;have:=h.uv;have he:¬r.err=0:=fun e=>by rw[QQ e]at j;omega
  have d:((decide (r.at'<(l.length:Int)))&&(decide (r.err=0)))=false:=by simp[he]
  refine ⟨D,D,r,.brk ?_,.brk ?_,fun _=>rfl,rfl⟩
  .unfold QD;simp only;rw[a6 (by rw[d];decide)]
  .unfold QI;simp only;rw[a6 (show¬((decide ((DG r).at'<(l.length:Int)))&&(decide ((DG r).e=0)))=true by show¬((decide (r.at'<(l.length:Int)))&&(decide (r.err=0)))=true;rw[d];decide)]
 |succ m A=>
  intro D r h i j ho;have:=h.uv;have:=h.few;by_cases d:r.err=0/\r.at'<(r.l.length:Int)
  .obtain⟨he,k⟩:=d;rw[QQ he]at j ho;obtain⟨M,q,a,n,o,s,p,t⟩:=Zx (D:=D) h (by omega) he k;rw[i]at n o;by_cases f:a.err=0
   .obtain⟨rfl,B⟩:=t f;obtain⟨c,g,u,v,w,y,z⟩:=A ⟨D.qy,D.o4++[M]⟩ a s (p.trans i) (by rw[QQ f,p];omega) (by rw[QQ f];simp;omega);exact⟨c,g,u,.next n v,.next o w,y,z⟩
   .have b:((decide (a.at'<(l.length:Int)))&&(decide (a.err=0)))=false:=by simp[f]
    refine ⟨⟨D.qy,D.o4++[M]⟩,⟨D.qy,D.o4++[q]⟩,a,.next n (.brk ?_),.next o (.brk ?_),fun e=>absurd e f,rfl⟩
    .unfold QD;simp only;rw[a6 (by rw[b];decide)]
    .unfold QI;simp only;rw[a6 (show¬((decide ((DG a).at'<(l.length:Int)))&&(decide ((DG a).e=0)))=true by show¬((decide (a.at'<(l.length:Int)))&&(decide (a.err=0)))=true;rw[b];decide)]
  .have b:((decide (r.at'<(l.length:Int)))&&(decide (r.err=0)))=false:=by
    rw [<-i];by_cases e:r.err=0
    .have:¬r.at'<(r.l.length:Int):=fun x=>d ⟨e,x⟩;simp[this]
    .simp[e]
   refine ⟨D,D,r,.brk ?_,.brk ?_,fun _=>rfl,rfl⟩
   .unfold QD;simp only;rw[a6 (by rw[b];decide)]
   .unfold QI;simp only;rw[a6 (show¬((decide ((DG r).at'<(l.length:Int)))&&(decide ((DG r).e=0)))=true by show¬((decide (r.at'<(l.length:Int)))&&(decide (r.err=0)))=true;rw[b];decide)]
theorem US{t:AB}(hf:CX t){h:AL}(hh:Gq h){s:ByteArray}(o:s.size<=20000):∃v,Ew t h s=some v/\IA t h s=some v/\Gq v.1.qy:=by
 obtain ⟨v,w,x,y,z⟩:=S2 o;have p:Ew t h s=(B5 t).bind fun b=>if(!decide (b.2=0))=true then some (FH,0,b.2)else(Cx t h).bind fun c=>if(!decide (c.2=0))=true then some (FH,0,c.2)else(E8 s).bind fun a=>if(!decide (a.2.2=0))=true then some (FH,a.2.1,a.2.2)else(Cb h).bind fun f=>
   hV (Dy (QD a.1) (AN.mk f [],AE.mk a.1 0 0 0)) (fun d=>if(!decide (d.2.err=0))=true then some (FH,d.2.qw,d.2.err)else some (d.1,0,0)) (fun i=>some i):=rfl
 have q:IA t h s=(El t).bind fun b=>if(!decide (b.2=0))=true then some (FH,0,b.2)else(G3 t h).bind fun c=>if(!decide (c.2=0))=true then some (FH,0,c.2)else(E0 s).bind fun a=>if(!decide (a.2.2=0))=true then some (FH,a.2.1,a.2.2)else(E2 h).bind fun f=>
   hV (Dy (QI a.1) (AN.mk f [],AX.mk a.1 0 0 0)) (fun d=>if(!decide (d.2.e=0))=true then some (FH,d.2.qw,d.2.e)else some (d.1,0,0)) (fun i=>some i):=rfl
 rw [p,q,Qg hf,Qh hf,bs,bs];split
 .exact⟨_,rfl,rfl,Mp⟩
 .rw[dY hf,dl hf,bs,bs];split
  .exact⟨_,rfl,rfl,Mp⟩
  .rw[w,x,bs,bs];split
   .exact⟨_,rfl,rfl,Mp⟩
   .rw[WC hh,Q9 hh,bs,bs];by_cases u:1<=v.1.length
    .have j:RI (AE.mk v.1 0 0 0):=⟨Int.le_refl _,by simp,u,y,z⟩;obtain⟨A,E,m,k,l,B,C⟩:=Vq v.1 (v.1.length+1) ⟨h,[]⟩ ⟨v.1,0,0,0⟩ j rfl (by rw[QQ rfl];simp) (by simp);rw[k.eq];have g:=l.eq;rw[show DG ⟨v.1,0,0,0⟩=AX.mk v.1 0 0 0 from rfl]at g;rw[g];simp only[hV];by_cases e:m.err=0
     .have:=B e;subst this;exact⟨(A,0,0),by simp[e],by simp[DG,e],by rw[C];exact hh⟩
     .exact⟨(FH,m.qw,m.err),by simp[e],by simp[DG,e],Mp⟩
    .have n:v.1.length=0:=by omega
     have k:Dy (QD v.1) (AN.mk h [],AE.mk v.1 0 0 0)=some (.inl (AN.mk h [],AE.mk v.1 0 0 0)):=Fk.eq (.brk (by unfold QD;simp[n]));have l:Dy (QI v.1) (AN.mk h [],AX.mk v.1 0 0 0)=some (.inl (AN.mk h [],AX.mk v.1 0 0 0)):=Fk.eq (.brk (by unfold QI;simp[n]));rw[k,l];exact⟨_,rfl,rfl,hh⟩
theorem Mb(t:AB)(h:AL)(s:ByteArray)(st:(AS t).Sm):EQ t h s=some true:=by
 obtain ⟨b,e,f⟩:=Vv st;obtain⟨c,d,g⟩:=Vu (h:=h);unfold EQ;rw[XM,bs,a6 (by decide),e,bs,bs];cases b with
 |false=>rfl|true=>
 rw [a6 (by decide),d,bs,bs];cases c with
 |false=>rfl|true=>
 by_cases a:1500<(s.size:Int)
 .rw[QQ (by simp[a])];rfl
 .have hh:=g rfl;obtain⟨v,i,j,k⟩:=US (f rfl) hh (s:=s) (by omega);rw[a6 (by simp[a]),Q9 hh,bs,i,j,bs,bs,QQ (by simp),iB k];rfl
end Go.Sf.Sc
