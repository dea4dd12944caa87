/- Plain lemmas: what the functions of the program and of the reference compute. -/
import Derived.Test.YtpagkickoiafkaaGreatP208
set_option linter.all false
set_option maxRecDepth 100000
open List renaming mem_append->v?,mem_append_left->w_,length_replicate->w!,map_congr_left->w?,map_id->x_,map->x!
namespace Go.Sf.Sc
open Go Go.Sf
variable{n:Nat}
theorem Qg{J:Fp}(d:J.Nodup)(e:∀x∈J,0<=x/\x<n):(AX J n).length+J.length=n:=by
 have f:(AX J n++J).Nodup:=LJ ((pH J n).imp λh=>U) d λx a b=>(MA.1 b).2 a;have g:=RG f (n:=n) λx a=>by
  rcases v?.1 a with h|h
  .exact(MA.1 h).1
  .exact e x h
 have c:=List.Nodup.length_le_of_subset (l₁:=Ak n) (l₂:=AX J n++J) (Li n) λx a=>by
  by_cases b:x∈J
  .exact List.mem_append_right _ b
  .exact w_ _ (MA.2 ⟨CB.1 a,b⟩)
 rw [Az]at c;rw[a5]at g c;omega
variable{m:cE}
theorem oM{a b:ci}(h:EY a b m)(ga:BW a)(nl:a.bq.length=b.bq.length)(el:a.ca.length=b.ca.length):EY b a ⟨(Ak b.bq.length).map (Ao m.bq),(Ak b.ca.length).map (Ao m.ca)⟩:=by
 have F:=h.nl;have G:=h.el;have o:∀{l:Fp}{n:Nat},l.Nodup->(∀x∈l,0<=x/\x<n)->l.length=n->∀k:Int,0<=k->k<n->k∈l:=λ{l n}hd D E k f g=>by
  have p:=fP hd D;rw[decide_eq_true E]at p;unfold ip at p;rw[Bool.not_eq_true',BY]at p;exact Aq.1 (by simpa using p k f g)
 have w:=o h.nnd (n:=b.bq.length) (λx j=>by
  obtain ⟨i,d,t,rfl⟩:=A9 j;exact(h.node i d U).1) U
 have z:=o h.Aa6 (n:=b.ca.length) (λx j=>by
  obtain ⟨i,d,t,rfl⟩:=A9 j;exact(h.edge i d U).1) U
 have A:∀{l:Fp}{n:Nat},(∀k:Int,0<=k->k<n->k∈l)->((Ak n).map (Ao l)).Nodup:=λ{l n}u=>by
  unfold List.Nodup;rw[List.pairwise_map];refine List.Pairwise.imp_of_mem (λ{x y}j v q e=>q ?_) (Li n);exact Se (u x (CB.1 j).1 (CB.1 j).2) (u y (CB.1 v).1 (CB.1 v).2) e
 have s:∀k:Int,0<=k->k<b.bq.length->AA ((Ak b.bq.length).map (Ao m.bq)) k=Ao m.bq k:=λk f g=>GH _ f g;refine⟨u!,u!,λk f g=>?_,λk f g=>?_,A w,A z⟩
 .obtain⟨d,t,c,_⟩:=BH (w k f g);dsimp only;rw[s k f g,<-(h.node _ d U).2,c];exact⟨⟨d,U⟩,rfl⟩
 .obtain⟨d,t,c,_⟩:=BH (z k f g);have he:=(h.edge _ d U).2;have hf:=(ga.fit _ (AG d (show _<(a.ca.length:Int)by omega))).2;have B:=(h.node _ hf.1.1 hf.1.2).1;have C:=(h.node _ hf.2.1 hf.2.2).1;rw[c]at he;dsimp only;rw[GH _ f g,he];dsimp only;rw[s _ B.1 B.2,s _ C.1 C.2,Df h.nnd hf.1.1 U,Df h.nnd hf.2.1 U];exact⟨⟨d,U⟩,rfl⟩
theorem u7:(A8 BL).2=0:=(Tu al).1
theorem bS{k:Int}(a:0<=k)(b:k<5):A4 BL k=[]:=by
 have:=fY a b;rw[IR u7 a (by exact b)]at this;exact congrArg Prod.fst this
variable{h:AH}
theorem fg(hh:(Cy BL h).2=0):QK h:=by
 obtain ⟨_,hO⟩:=NE Dq hh;refine⟨hO.g,hO.len,λv hv=>?_⟩;obtain⟨i,b,c,rfl⟩:=A9 hv;have:=hO.row i b (by have:=hO.len;omega);have a:=hO.kind i b (by have:=hO.len;omega);rw[bS a.1 a.2]at this;exact List.eq_nil_of_length_eq_zero this
theorem jJ(g:Cp h.ci)(hv:h.eg=List.replicate h.ci.bq.length []):(Cy BL h).2=0:=by
 refine k8 u7 g.e0 (by rw[hv,w!]) (λi a b=>?_) λi a b=>?_
 .have hn:=g.node _ (AG a b);have c:AA h.eg i=[]:=by
   have:=AG (l:=h.eg) a (by rw[hv,w!];exact b);rw[hv]at this|-;exact List.eq_of_mem_replicate this
  rw [c];unfold FU;rw[aE (by show¬((5:Nat):Int)<=_;omega),uz _ hn.1 hn.2,aE a_,bS hn.1 hn.2,aE V,aE];rw[C3];rintro⟨j,e,d,_⟩;simp at d;omega
 .have he:=g.edge _ (AG a b);unfold Hj De;rw[aE (by show¬((6:Nat):Int)<=_;omega),he.2.2.2];rfl
variable{r:ec}
theorem kQ{M:cE}(fr:EK r)(a:CW BL AP r=0)(hh:(Cy BL h).2=0)(c:EY r.eh.ci h.ci M)(d:(Ce r h.ci M.bq).bq.length<=40)(f:(Ce r h.ci M.bq).ca.length<=80):
  Bh BL r h ⟨M,[]⟩=(CA BL r h ⟨M,[]⟩,0)/\(CA BL r h ⟨M,[]⟩).fq.ci=Ce r h.ci M.bq/\(Cy BL (CA BL r h ⟨M,[]⟩).fq).2=0:=by
 obtain ⟨st,e,g,v⟩:=io Dq fr a hh c d f;obtain⟨_,b⟩:=Oe Dq fr (RW a) (h:=h) (m:=⟨M,[]⟩) (by rw[e]);rw[b]at e;injection e with e;subst e;exact⟨b,g,v⟩
theorem bY{m:AN}(e:Bh BL r h m=(CA BL r h m,0)):Og BL (CA BL r h m)=true:=by
 unfold Og;show(decide ((Bh BL r h m).2=0)&&bg (Bh BL r h m).1 _)=true;rw[e];simp only[decide_true,Bool.true_and];exact fU.2 rfl
theorem dr{x:Int}(h:0<=x/\x<n):AA (E9 n (Ak n)) x=x:=by rw[KE h.1 h.2,S3 h.1 h.2]
theorem pY{L R:ci}(G:EP L R m)(l1:L.bq.length<=3)(l2:L.ca.length<=3)(r1:R.bq.length<=6)(r2:R.ca.length<=7)(hh:(Cy BL h).2=0)(n1:h.ci.bq.length<=4)(n2:h.ci.ca.length<=6){m0:AN}(k:IL BL (B4 L R m) h m0)(e0:Bh BL (B4 L R m) h m0=(CA BL (B4 L R m) h m0,0)):
  ∃a b,YH BL AP (CA BL (B4 L R m) h m0)=(a,b,0)/\a.gA=h/\b.gA=a.fq/\Og BL a=true/\Og BL b=true/\(EK a.ec/\DM a.ec.c9<=40)/\(EK b.ec/\DM b.ec.c9<=40)/\(Cy BL a.fq).2=0/\(Cy BL b.fq).2=0/\(Cy BL (CA BL (B4 L R m) h m0).fq).2=0/\∃mm,Ud b.fq (CA BL (B4 L R m) h m0).fq mm:=by
 have u:=Yt G;obtain⟨hc,_⟩:=NX u;obtain⟨_,ho,p1,p2⟩:=FA u;obtain⟨_,hO⟩:=NE Dq hh;have l:EY L h.ci m0.cE:=nf u k.chk;have P:(CA BL (B4 L R m) h m0).fq.ci=Ce (B4 L R m) h.ci m0.cE.bq:=ZG (t:=BL) hc ho p1 hO.g l;have z:(Cy BL (CA BL (B4 L R m) h m0).fq).2=0:=by
  show (Cy BL (MM BL _ _ _)).2=0;rw[V4 k]
 have o:=gv G;have fs:EK (sB L R m):=Wd (Yy G) (show((⟨#[114]⟩:ByteArray).size:Int)<=60 by decide);have N:=YG (R:=R) (m:=m) G l;have a1:(AX (sB L R m).eE.bq (sB L R m).d5.ci.bq.length).length<=6:=by
  have:=Jm (sB L R m).eE.bq (sB L R m).d5.ci.bq.length;have:(sB L R m).d5.ci.bq.length=(AS AP R 1).bq.length:=k?
  have:(AS AP R 1).bq.length<=R.bq.length:=Su _ _;omega
 have a2:(AX (sB L R m).eE.ca (sB L R m).d5.ci.ca.length).length<=7:=by
  have:=Jm (sB L R m).eE.ca (sB L R m).d5.ci.ca.length;have:(sB L R m).d5.ci.ca.length=(AS AP R 1).ca.length:=k?
  have:(AS AP R 1).ca.length<=R.ca.length:=Su _ _;omega
 have b1:(Ce (sB L R m) h.ci (mS L m0.cE).bq).bq.length=h.ci.bq.length+(AX (sB L R m).eE.bq (sB L R m).d5.ci.bq.length).length:=by simp[Ce]
 have b2:(Ce (sB L R m) h.ci (mS L m0.cE).bq).ca.length=h.ci.ca.length+(AX (sB L R m).eE.ca (sB L R m).d5.ci.ca.length).length:=by simp[Ce]
 obtain ⟨eF,w,K⟩:=kQ fs o hh N U U;obtain⟨s,_⟩:=NX o;obtain⟨_,ε,κ,η⟩:=FA o;have hd:dS (sB L R m) h ⟨mS L m0.cE,[]⟩=⟨Ak h.ci.bq.length,Ak h.ci.ca.length⟩:=Rd s N;have eN:df AP (CA BL (B4 L R m) h m0) (CA BL (sB L R m) h ⟨mS L m0.cE,[]⟩)=⟨nS L R m h.ci m0.cE,[]⟩:=by
  have t1:m0.cE.bq.map (AA (EE h (dS (sB L R m) h ⟨mS L m0.cE,[]⟩)).bq)=m0.cE.bq:=by
   rw [hd];refine(w? λx e=>?_).trans (x_ _);obtain⟨i,d,f,rfl⟩:=A9 e;exact dr (l.node i d (by have:=l.nl;omega)).1
  have t2:m0.cE.ca.map (AA (EE h (dS (sB L R m) h ⟨mS L m0.cE,[]⟩)).ca)=m0.cE.ca:=by
   rw [hd];refine(w? λx e=>?_).trans (x_ _);obtain⟨i,d,f,rfl⟩:=A9 e;exact dr (l.edge i d (by have:=l.el;omega)).1
  have t3:((C8 AP (B4 L R m) [1]).map λi=>AA (cS (sB L R m) h ⟨mS L m0.cE,[]⟩).bq (Ao (AS AP R 1).bq i))=(C8 AP (B4 L R m) [1]).map λv=>Eu (sB L R m).eE.bq (mS L m0.cE).bq h.ci.bq.length (Ao (AS AP R 1).bq v):=by
   refine w? λv hv=>?_;obtain⟨a,b,_,_⟩:=BH (HU hv).1;exact WY s ε κ N a (by show _<(((CQ R (AS AP R 1)).bq.length:Nat):Int);rw[(Dv _ _).1];exact b)
  have t4:((Ch AP (B4 L R m) [1]).map λi=>AA (cS (sB L R m) h ⟨mS L m0.cE,[]⟩).ca (Ao (AS AP R 1).ca i))=(Ch AP (B4 L R m) [1]).map λv=>Eu (sB L R m).eE.ca (mS L m0.cE).ca h.ci.ca.length (Ao (AS AP R 1).ca v):=by
   refine w? λv hv=>?_;obtain⟨a,b,_,_⟩:=BH (HT hv).1;exact kW (t:=BL) s η N a (by show _<(((CQ R (AS AP R 1)).ca.length:Nat):Int);rw[(Dv _ _).2];exact b)
  show AN.mk ⟨m0.cE.bq.map (AA (EE h (dS (sB L R m) h ⟨mS L m0.cE,[]⟩)).bq)++((C8 AP (B4 L R m) [1]).map λi=>AA (cS (sB L R m) h ⟨mS L m0.cE,[]⟩).bq (Ao (AS AP R 1).bq i)),m0.cE.ca.map (AA (EE h (dS (sB L R m) h ⟨mS L m0.cE,[]⟩)).ca)++((Ch AP (B4 L R m) [1]).map λi=>AA (cS (sB L R m) h ⟨mS L m0.cE,[]⟩).ca (Ao (AS AP R 1).ca i))⟩ []=_;rw[t1,t2,t3,t4];rfl
 have p:=jL (R:=R) G hO.g l;have C:=tq G U U;have ft:EK (tB L R m):=Wd (Xc G [1] a_ U U) (show((⟨#[114]⟩:ByteArray).size:Int)<=60 by decide);rw[<-w]at p;have c1:(Ce (tB L R m) (CA BL (sB L R m) h ⟨mS L m0.cE,[]⟩).fq.ci (nS L R m h.ci m0.cE).bq).bq.length=h.ci.bq.length+(AX (sB L R m).eE.bq (sB L R m).d5.ci.bq.length).length+(AX (A0 AP (B4 L R m) [1]) R.bq.length).length:=by
  rw [w,<-b1];show(_++x! _ _).length=_;rw[a5,az];rfl
 have c2:(Ce (tB L R m) (CA BL (sB L R m) h ⟨mS L m0.cE,[]⟩).fq.ci (nS L R m h.ci m0.cE).bq).ca.length=h.ci.ca.length+(AX (sB L R m).eE.ca (sB L R m).d5.ci.ca.length).length+(AX (Eg AP (B4 L R m) [1]) R.ca.length).length:=by
  rw [w,<-b2];show(_++x! _ _).length=_;rw[a5,az];rfl
 have d1:=Jm (A0 AP (B4 L R m) [1]) R.bq.length;have d2:=Jm (Eg AP (B4 L R m) [1]) R.ca.length;obtain⟨eT,gT,hT⟩:=kQ (M:=nS L R m h.ci m0.cE) ft C K p U U;refine⟨_,_,?_,rfl,rfl,bY eF,bY eT,⟨fs,RW o⟩,⟨ft,RW C⟩,K,hT,z,?_⟩
 .have eM:Ob AP (CA BL (B4 L R m) h m0)=⟨mS L m0.cE,[]⟩:=rfl;unfold YH;rw[eM];show(if CW BL AP (B4 L R m)≠0 then _ else if Og BL (CA BL (B4 L R m) h m0)=false then _ else if(Bh BL (sB L R m) h ⟨mS L m0.cE,[]⟩).2≠0 then _ else if(Bh BL (tB L R m) (Bh BL (sB L R m) h ⟨mS L m0.cE,[]⟩).1.fq (df AP (CA BL (B4 L R m) h m0) (Bh BL (sB L R m) h ⟨mS L m0.cE,[]⟩).1)).2≠0 then _ else((Bh BL (sB L R m) h ⟨mS L m0.cE,[]⟩).1,(Bh BL (tB L R m) (Bh BL (sB L R m) h ⟨mS L m0.cE,[]⟩).1.fq (df AP (CA BL (B4 L R m) h m0) (Bh BL (sB L R m) h ⟨mS L m0.cE,[]⟩).1)).1,(0:Int)))=_;rw[aE o?,bY e0,aE a_,eF,aE V];dsimp only;rw[eN,eT,aE V]
 ·
  have hB:EY h.ci (CA BL (sB L R m) h ⟨mS L m0.cE,[]⟩).fq.ci ⟨Ak h.ci.bq.length,Ak h.ci.ca.length⟩:=by
   rw [w];refine⟨Az _,Az _,λi d f=>?_,λi d f=>?_,Li _,Li _⟩
   .dsimp only;rw[Hy d f];exact⟨⟨d,U⟩,DV d f⟩
   .have hf:=(hO.g.fit _ (AG d f)).2;dsimp only;rw[Hy d f,Hy hf.1.1 hf.1.2,Hy hf.2.1 hf.2.2];exact⟨⟨d,U⟩,DV d f⟩
  have hl:=l.nl;have hle:=l.el;have gl:=G.pr;have ge:=G.sr;have nN:∀j:Int,0<=j->j<m.bq.length->AA (nS L R m h.ci m0.cE).bq j=AA m0.cE.bq j:=λj H j1=>DV H U;have pf:∀{I J S θ A:Fp}{δ:Fp}{gn hn:Nat},θ=J++S->A.length=J.length->(F:Int->Int)->δ=A++S.map F->δ.Nodup->(∀k∈δ,0<=k/\k<gn)->(∀v∈S,v∉J->(hn:Int)<=F v)->hn<=gn->WS (Ak hn) J θ δ gn:=λ{I J S θ A δ gn hn}hT z F hY nd hr K hh=>by
   subst hT hY;refine⟨λv hv=>w_ _ hv,by rw[a5,a5,az,z],hr,nd,λv hv O=>?_,λk B=>by have:=CB.1 B;omega⟩;have Q:=(v?.1 hv).resolve_left O;obtain⟨a,b,c,_⟩:=BH Q;rw[QZ O Q];obtain⟨q,hq⟩:=Int.eq_ofNat_of_zero_le a;rw[hq,<-z,JJ,<-hq,CZ a b,c];intro hm;have:=CB.1 hm;have:=K v Q O;omega
  have pn:=pf (I:=[]) (J:=m.bq) (S:=C8 AP (B4 L R m) [1]) (θ:=A0 AP (B4 L R m) [1]) (A:=m0.cE.bq) (gn:=(CA BL (sB L R m) h ⟨mS L m0.cE,[]⟩).fq.ci.bq.length) (hn:=h.ci.bq.length) rfl U _ rfl p.nnd (λk B=>by
   obtain ⟨i,d,f,rfl⟩:=A9 B;exact(p.node i d (by have:=p.nl;exact_mod_cast this▸f)).1) (λv hv _=>by
    rw [RM (Yg G (HU hv).1 (HU hv).2)];omega) (by rw[w,b1];omega)
  have pe:=pf (I:=[]) (J:=m.ca) (S:=Ch AP (B4 L R m) [1]) (θ:=Eg AP (B4 L R m) [1]) (A:=m0.cE.ca) (gn:=(CA BL (sB L R m) h ⟨mS L m0.cE,[]⟩).fq.ci.ca.length) (hn:=h.ci.ca.length) rfl U _ rfl p.Aa6 (λk B=>by
   obtain ⟨i,d,f,rfl⟩:=A9 B;exact(p.edge i d (by have:=p.el;exact_mod_cast this▸f)).1) (λv hv _=>by
    rw [RM (Vk G (HT hv).1 (HT hv).2)];omega) (by rw[w,b2];omega)
  have hC:=m8 (r:=B4 L R m) (iso:=⟨Ak h.ci.bq.length,Ak h.ci.ca.length⟩) (y:=nS L R m h.ci m0.cE) (M:=m0.cE) u (fS u a_) hO.g hB p (λj H j1=>by
   obtain ⟨ζ,_⟩:=l.node j H (by have:(B4 L R m).eE.bq.length=m.bq.length:=rfl;omega);refine⟨ζ,?_⟩;dsimp only;rw[Hy ζ.1 ζ.2,nN j H j1]) pn pe
  have eG:Mw AP (B4 L R m) [1] (CA BL (sB L R m) h ⟨mS L m0.cE,[]⟩).fq.ci (nS L R m h.ci m0.cE)=Ce (tB L R m) (CA BL (sB L R m) h ⟨mS L m0.cE,[]⟩).fq.ci (nS L R m h.ci m0.cE).bq:=rfl;rw[eG,<-gT,<-P]at hC;obtain⟨_,Z⟩:=NE Dq z;have D:∀x∈m.bq,0<=x/\x<R.bq.length:=λx e=>by
   obtain ⟨i,d,f,rfl⟩:=A9 e;exact(G.node i d U).1
  have E:∀x∈m.ca,0<=x/\x<R.ca.length:=λx e=>by
   obtain ⟨i,d,f,rfl⟩:=A9 e;exact(G.edge i d U).1
  have w1:=Qg G.nn D;have w2:=Qg G.ne E;have w3:=Qg (J:=A0 AP (B4 L R m) [1]) (n:=R.bq.length) (LJ G.nn (Dc _ _) λx e=>(HU e).2) λx e=>by
   rcases v?.1 e with h|h
   .exact D x h
   .exact(Ji.1 h).1
  have w4:=Qg (J:=Eg AP (B4 L R m) [1]) (n:=R.ca.length) (LJ G.ne (Dc _ _) λx e=>(HT e).2) λx e=>by
   rcases v?.1 e with h|h
   .exact E x h
   .exact(Ji.1 h).1
  have v1:(A0 AP (B4 L R m) [1]).length=m.bq.length+(C8 AP (B4 L R m) [1]).length:=a5 ..;have v2:(Eg AP (B4 L R m) [1]).length=m.ca.length+(Ch AP (B4 L R m) [1]).length:=a5 ..;have u1:(C8 AP (B4 L R m) [1]).length=(AX (sB L R m).eE.bq (sB L R m).d5.ci.bq.length).length:=eK G;have u2:(Ch AP (B4 L R m) [1]).length=(AX (sB L R m).eE.ca (sB L R m).d5.ci.ca.length).length:=eJ G;have x1:(CA BL (B4 L R m) h m0).fq.ci.bq.length=h.ci.bq.length+(AX m.bq R.bq.length).length:=by
   rw [P];show(_++x! _ _).length=_;rw[a5,az];rfl
  have x2:(CA BL (B4 L R m) h m0).fq.ci.ca.length=h.ci.ca.length+(AX m.ca R.ca.length).length:=by
   rw [P];show(_++x! _ _).length=_;rw[a5,az];rfl
  rw [<-gT]at c1 c2;have z1:(CA BL (B4 L R m) h m0).fq.ci.bq.length=(CA BL (tB L R m) (CA BL (sB L R m) h ⟨mS L m0.cE,[]⟩).fq ⟨nS L R m h.ci m0.cE,[]⟩).fq.ci.bq.length:=U
  have z2:(CA BL (B4 L R m) h m0).fq.ci.ca.length=(CA BL (tB L R m) (CA BL (sB L R m) h ⟨mS L m0.cE,[]⟩).fq ⟨nS L R m h.ci m0.cE,[]⟩).fq.ci.ca.length:=U
  exact ⟨_,oM hC Z.g z1 z2,z1.symm,z2.symm⟩
end Go.Sf.Sc
