/- The invariant between an environment of the pure language and a frame with memory. -/
import Derived.Test.YtpagkickoiafkaaGreatSfSem
import Derived.Laws.AppendOwn
set_option linter.all false
open Option renaming some->Y,none->W
open Bool renaming true->X
open Nat renaming le_trans->l!,lt_of_lt_of_le->l?,lt_or_ge->m_
namespace Go.Sf
open Go.RowKit (Below)
def C2(w:World)(size:Nat)(v:Value)(n:Nat)(xs:List Value)(z:Option (Nat×Nat)):Prop:=
 xs.length=n*size/\
 ((v=.slice W 0 0/\n=0/\z=W)\/
 ∃g cap cur e,v=.slice (Y ⟨g,0,W⟩) n cap/\w.heap[g]?=Y (.cells cur e (0,0))/\n<=cap/\cap<=maxLen/\cur.size=cap*size/\cur.toList.take (n*size)=xs/\z=Y (g,n*size))
def E1(w:World)(size:Nat)(v:Value)(n:Nat)(xs:List Value)(z:Option (Nat×Nat)):Prop:=
 ∃z0,C2 w size v n xs z0/\z=z0.map λp=>(p.1,0)
def BA(w:World)(F:Nat->Nat->Prop)(z:Option (Nat×Nat)):TV->Value->Prop
 |.list n es,v=>∃xs,C2 w n v es.length xs z/\AM w F (es.flatMap TV.cells) xs/\(∀e∈es,e.cells.length=n)/\∀x∈xs,x.oneCell'=X|_,_=>False
abbrev Du:=Nat->Nat->Option (Nat×Nat)
def KN(w:World)(F:Nat->Nat->Prop)(z:Option (Nat×Nat))(n:Nat)(es:Fq)(v:Value):Prop:=
 ∃xs,E1 w n v es.length xs z/\AM w F (es.flatMap TV.cells) xs/\(∀e∈es,e.cells.length=n)/\∀x∈xs,x.oneCell'=X
def Cm(w:World)(F:Nat->Nat->Prop)(ρ:Du)(z:Option (Nat×Nat))(es:Fq)(v:Value):Prop:=
 ∃xs,E1 w 1 v es.length xs z/\(∀x∈xs,x.oneCell'=X)/\∀(j:Nat)(e:TV),es[j]?=Y e->∃g x n fs,z=Y (g,0)/\xs[j]?=Y x/\e=.list n fs/\KN w F (ρ g j) n fs x
def CH(w:World)(F:Nat->Nat->Prop)(ρ:Du)(z:Option (Nat×Nat)):TV->Value->Prop
 |.xl n es,v=>∃xs,E1 w n v es.length xs z/\AM w F (es.flatMap TV.cells) xs/\(∀e∈es,e.cells.length=n)/\∀x∈xs,x.oneCell'=X|.xn es,v=>Cm w F ρ z es v|t,v=>BA w F z t v
variable{ρ:Du}{t:TV}{v:Value}
theorem BA.c{w:World}{F:Nat->Nat->Prop}{z:Option (Nat×Nat)}(h:BA w F z t v):CH w F ρ z t v:=by
 cases t<;>first|exact h|(simp[BA]at h)
def Ar(w:World)(F:Nat->Nat->Prop)(ρ:Du)(z:Option (Nat×Nat))(c:AI)(v:Value):Prop:=
 match c with
 |⟨X,t⟩=>CH w F ρ z t v|⟨false,t⟩=>AV w F t v/\v.oneCell'=X
abbrev Ay:=Nat->Option Nat->Option (Nat×Nat)
def j8(a:Act)(G:Ay):Du:=λg j=>G (a.tmps.size+g) (Y j)
def AP(base:Nat)(F0:Nat->Nat->Prop)(G:Ay)(b o:Nat):Prop:=(b<base/\F0 b o)\/∃s i lo,G s i=Y (b,lo)/\lo<=o
def slot(a:Act)(s:Nat):Value:=a.tmps.getD s undef
def XV(a:Act)(w:World)(q:Nat)(i:Option Nat)(v:Value):Prop:=
 match i with
 |none=>v=slot a q|some k=>∃b c θ,slot a q=.pointer (Y ⟨b,0,W⟩)/\w.heap[b]?=Y (.cells c θ (0,0))/\c[k]?=Y v
def NK.at(w:World)(x:Value):NK->Value->Prop
 |.hd,v=>v=x|.el j,v=>∃g len cap,x=.slice (Y ⟨g,0,W⟩) len cap/\v=.pointer (Y ⟨g,j,W⟩)|.rw j,v=>∃g len cap,x=.slice (Y ⟨g,0,W⟩) len cap/\w.cell? ⟨g,j,W⟩=Y v|.rp j p,v=>∃g len cap,x=.slice (Y ⟨g,0,W⟩) len cap/\∃r len' cap',w.cell? ⟨g,j,W⟩=Y (.slice (Y ⟨r,0,W⟩) len' cap')/\v=.pointer (Y ⟨r,p,W⟩)
def NH(a:Act)(w:World)(q i:Nat)(k:NK)(v:Value):Prop:=
 ∃b c θ x,slot a q=.pointer (Y ⟨b,0,W⟩)/\w.heap[b]?=Y (.cells c θ (0,0))/\c[i]?=Y x/\k.at w x v
def CY(k:Int×Int):Value:=.agg #[.int .i64 k.1,.int .i64 k.2]
def QB(w:World)(b:Nat)(kvs:Be):Prop:=
 ∃es clock,w.heap[b]?=Y (.map es clock)/\es.toList.map (λe=>(e.key,e.val))=kvs.map (λp=>(CY p.1,Value.int .i64 p.2))/\es.toList.Pairwise (λx y=>x.born<y.born)/\∀e∈es.toList,e.born<clock
def VA(w:World)(r b:Nat)(last:Option ((Int×Int)×Int))(todo:Be):Prop:=
 ∃(es:Array MapEntry)(clock since c0:Nat)(seen:Array Nat),w.heap[b]?=Y (.map es clock)/\w.heap[r]?=Y (.mapIter (Y b) since seen c0)/\es.toList.Pairwise (λx y=>x.born<y.born)/\(∀e∈es.toList,e.born<since)/\since<=c0/\since<=clock/\
  (∀p,last=Y p->∃(seen':Array Nat)(e:MapEntry),seen=seen'.push e.born/\e∈es.toList/\c0=clock/\e.key=CY p.1/\e.val=.int .i64 p.2)/\
  ((es.toList.filter λe=>!seen.contains e.born).map (λe=>(e.key,e.val))).Perm (todo.map (λp=>(CY p.1,Value.int .i64 p.2)))
def PE(w:World)(F:Nat->Nat->Prop)(z z2:Option (Nat×Nat)):MX->Value->Prop
 |.mp b kvs,v=>v=.map (Y b)/\z=Y (b,0)/\QB w b kvs|.tm b kvs ts,v=>∃vs,v=.tuple (Value.map (Y b)::vs).toArray/\z=Y (b,0)/\QB w b kvs/\AM w F ts vs|.mi last todo,v=>∃r b,v=.pointer (Y ⟨r,0,W⟩)/\z=Y (r,0)/\z2=Y (b,0)/\VA w r b last todo
def AH(a:Act)(w:World)(F:Nat->Nat->Prop)(G:Ay)(O:AA)(s:Nat):EV->Value->Prop
 |.undef,_=>True|.sk,v=>v=undef|.tv t,v=>AV w F t v|.ow t,v=>BA w F (G s W) t v|.bx cs,v=>∃b c θ,v=.pointer (Y ⟨b,0,W⟩)/\w.heap[b]?=Y (.cells c θ (0,0))/\c.size=cs.length/\G s W=Y (b,0)/\∀(i:Nat)(d:AI),cs[i]?=Y d->∃x,c[i]?=Y x/\Ar w F (j8 a G) (G s (Y i)) d x|.bp q off,v=>(∃cs,O.get q=.bx cs)->∃b,slot a q=.pointer (Y ⟨b,0,W⟩)/\v=.pointer (Y ⟨b,off,W⟩)|.tp ts,v=>∃vs,v=.tuple vs/\AM w F ts vs.toList|.xo n es,v=>∃xs,E1 w n v es.length xs (G s W)/\AM w F (es.flatMap TV.cells) xs/\(∀e∈es,e.cells.length=n)/\∀x∈xs,x.oneCell'=X|.kC cs,v=>∃vs,v=.agg vs/\vs.size=cs.length/\∀(i:Nat)(d:AI),cs[i]?=Y d->∃x,vs[i]?=Y x/\Ar w F (j8 a G) (G s (Y i)) d x|.la q i,v=>(∃p,O.jT q i=Y p)->XV a w q i v|.lp q i c,v=>(∃p,O.jT q i=Y p)->∃g len cap,XV a w q i (.slice (Y ⟨g,0,W⟩) len cap)/\v=.pointer (Y ⟨g,c,W⟩)|.xn es,v=>Cm w F (j8 a G) (G s W) es v|.x1 n fs,v=>∃g cap x,v=.slice (Y ⟨g,0,W⟩) 1 cap/\1<=cap/\w.cell? ⟨g,0,W⟩=Y x/\¬F g 0/\x.oneCell'=X/\KN w F (G s W) n fs x|.nh q i k,v=>(∃es,O.nat q i=Y es)->NH a w q i k v|.mx m,v=>PE w F (G s W) (G s (Y 0)) m v
def Qv(w:World)(E:Nat->Nat->Prop):Prop:=N8 w/\∀b o,E b o->S3<=b
structure W0 extends World where
 E:Nat->Nat->Prop
theorem CH.own{w:World}{F:Nat->Nat->Prop}{z:Option (Nat×Nat)}(h:CH w F ρ z t v)(f:t.kR=false):BA w F z t v:=by
 cases t<;>first|exact h|(simp[TV.kR]at f)
structure DU(F0:Nat->Nat->Prop)(w0:W0)(w:World):Prop where
 os:w.os=w0.os
 tape:w.tape=w0.tape
 output:w.output=w0.output
 size:w0.heap.size<=w.heap.size
 block:∀k,k<w0.heap.size->(∀o,¬w0.E k o)->w.heap[k]?=w0.heap[k]?
 cell:∀b o u,¬w0.E b o->w0.cell? ⟨b,o,W⟩=Y u->w.cell? ⟨b,o,W⟩=Y u
 free:∀b o o',w0.E b o->¬F0 b o'
 tab:Qv w0.toWorld w0.E
theorem DU.trans{F0:Nat->Nat->Prop}{w0:W0}{w w':World}(h:DU F0 w0 w)(j:w'.os=w.os)(l:w'.tape=w.tape)(m:w'.output=w.output)(r:w.heap.size<=w'.heap.size)(x:∀k,k<w0.heap.size->(∀o,¬w0.E k o)->w'.heap[k]?=w.heap[k]?)(y:∀b o u,b<w0.heap.size->¬w0.E b o->w.cell? ⟨b,o,W⟩=Y u->w'.cell? ⟨b,o,W⟩=Y u):DU F0 w0 w':=
 ⟨j.trans h.os,l.trans h.tape,m.trans h.output,l! h.size r,λb f he=>(x b f he).trans (h.block b f he),λb o u he g=>y b o u (World.block_lt_of_cell? _ ⟨b,o,W⟩ g) he (h.cell b o u he g),h.free,h.tab⟩
theorem DU.now{F0:Nat->Nat->Prop}{w0:W0}{w:World}(h:DU F0 w0 w):N8 w:=
 h.tab.1.jj λb f=>h.block b (l? f h.tab.1.lt) λo e=>absurd (h.tab.2 b o e) U
theorem DU.but{F0:Nat->Nat->Prop}{w0:W0}{w w':World}(h:DU F0 w0 w)(f:w'.os=w.os)(g:w'.tape=w.tape)(j:w'.output=w.output)(l:w.heap.size<=w'.heap.size){Z:Nat->Prop}(m:∀b,Z b->w0.heap.size<=b\/∀o,w0.E b o)(r:∀k,k<w0.heap.size->¬Z k->w'.heap[k]?=w.heap[k]?):DU F0 w0 w':=
 h.trans f g j l (λk x he=>r k x λz=>(m k z).elim (λe=>U) (λe=>he 0 (e 0))) (λb o u y he A=>by
  grind [World.cell?_of_block])
theorem DU.go{F0:Nat->Nat->Prop}{w0:W0}{w w':World}(h:DU F0 w0 w)(k:Below w.heap.size w w'):DU F0 w0 w':=
 h.trans k.os k.tape k.output k.size (λb f _=>k.block b (l? f h.size)) (λb o u f _ g=>by rw[k.cell (p:=⟨b,o,W⟩) (l? f h.size)];exact g)
structure AJ(F0:Nat->Nat->Prop)(w0:W0)(O:AA)(a:Act)(w:World)(G:Ay):Prop where
 jp:∀s i s' i' b lo lo',G s i=Y (b,lo)->G s' i'=Y (b,lo')->s=s'/\i=i'
 lt:∀s i b lo,G s i=Y (b,lo)->b<w.heap.size/\(w0.heap.size<=b\/∀o,lo<=o->w0.E b o)
 below:DU F0 w0 w
 defers:a.defers=[]
 dom:∀s,a.tmps.size<=s->O.get s=.undef
 slots:∀s,s<a.tmps.size->AH a w (AP w0.heap.size F0 G) G O s (O.get s) (slot a s)
 wf:∀s,(O.get s).WF
variable{s:Nat}{i:Option Nat}
theorem AJ.low{F0:Nat->Nat->Prop}{w0:W0}{O:AA}{a:Act}{w:World}{G:Ay}(h:AJ F0 w0 O a w G){b lo:Nat}(e:G s i=Y (b,lo)):S3<=b:=
 (h.lt _ _ _ _ e).2.elim (λk=>l! h.below.tab.1.lt k) λk=>h.below.tab.2 b lo (k lo (bk _))
def BF(F0:Nat->Nat->Prop)(w0:W0)(O:AA)(a:Act)(w:World):Prop:=∃G,AJ F0 w0 O a w G
theorem AA.gp(k:Nat)(e:EV)(O:AA)(n:Nat):AA.get ((k,e)::O) n=if k=n then e else O.get n:=rfl
theorem AA.get_map_keep(O:AA):∀(live:Ne)(n:Nat),AA.get (live.map λs=>(s,O.get s)) n=if n∈live then O.get n else .undef
 |[],n=>by simp[AA.get]|s::live,n=>by
  simp [AA.get,AA.get_map_keep O live n]
  grind
theorem AA.kO(O:AA)(live:Ne)(n:Nat):(O.jj live).get n=if n∈live then O.get n else .undef:=AA.get_map_keep O live n
variable{q:Nat}
theorem AA.kE{O env':AA}(h:env'.get q=O.get q):env'.jT q i=O.jT q i:=by
 cases i<;>simp[AA.jT,h]
theorem AA.kZ{O:AA}(h:O.get q=.undef):O.jT q i=W:=by
 cases i<;>simp[AA.jT,h]
variable{live:Ne}
theorem AA.xat_keep{O:AA}(h:∃p,(O.jj live).jT q i=Y p):∃p,O.jT q i=Y p:=by grind[AA.kE,AA.kO,AA.kZ]
variable{n:Nat}
theorem AA.jV{O:AA}{q k:Nat}{es:Fq}(h:O.jT q (Y k)=Y (n,es)):∃cs,O.get q=.bx cs/\cs[k]?=Y ⟨X,.xl n es⟩:=by grind[AA.jT,jR]
theorem AA.j6{O:AA}{es:Fq}(h:O.jT q W=Y (n,es)):O.get q=.xo n es:=by grind[AA.jT,jR]
theorem AA.kM{O env':AA}{i:Nat}(h:env'.get q=O.get q):env'.nat q i=O.nat q i:=by
 simp [AA.nat,h]
theorem AA.nat_undef{O:AA}{i:Nat}(h:O.get q=.undef):O.nat q i=W:=by
 simp [AA.nat,h]
theorem AA.nat_keep{O:AA}{i:Nat}(h:∃p,(O.jj live).nat q i=Y p):∃p,O.nat q i=Y p:=by grind[AA.kM,AA.kO,AA.nat_undef]
theorem AA.j0{O:AA}{q k:Nat}{es:Fq}(h:O.nat q k=Y es):∃cs,O.get q=.bx cs/\cs[k]?=Y ⟨X,.xn es⟩:=by grind[AA.nat,jR]
variable{b o:Nat}
theorem AP.mono{base:Nat}{F0:Nat->Nat->Prop}{G l:Ay}(h:∀s i b lo,l s i=Y (b,lo)->∃g j f,G g j=Y (b,f)/\f<=lo)(hf:AP base F0 l b o):AP base F0 G b o:=by
 rcases hf with hf|⟨s,i,lo,u,x⟩
 .exact .inl hf
 .obtain⟨g,j,f,m,r⟩:=h s i b lo u;exact .inr ⟨g,j,f,m,l! r x⟩
theorem BF.jj{F0:Nat->Nat->Prop}{w0:W0}{O:AA}{a:Act}{w:World}(h:BF F0 w0 O a w)(live:Ne):BF F0 w0 (O.jj live) a w:=by
 obtain ⟨G,g⟩:=h;refine⟨G,g.jp,g.lt,g.below,g.defers,λs l=>?_,λs l=>?_,λs=>?_⟩
 .rw[AA.kO,g.dom s l];split<;>rfl
 .have:=g.slots s l;rw[AA.kO];split
  .cases he:O.get s with
   |bp q r=>
    rw [he]at this;simp only[AH]at this|-;rintro⟨cs,f⟩;rw[AA.kO]at f;split at f
    .exact this ⟨cs,f⟩
    .cases f
   |undef=>trivial|sk=>rw[he]at this;exact this|tv t=>rw[he]at this;exact this|ow t=>rw[he]at this;exact this|bx cs=>rw[he]at this;exact this|tp u=>rw[he]at this;exact this|xo n es=>rw[he]at this;exact this|kC cs=>rw[he]at this;exact this|xn es=>rw[he]at this;exact this|x1 n x=>rw[he]at this;exact this|mx m=>rw[he]at this;exact this|nh q i k=>
    rw [he]at this;simp only[AH]at this|-;exact λj=>this (AA.nat_keep j)
   |la q i=>
    rw [he]at this;simp only[AH]at this|-;exact λj=>this (AA.xat_keep j)
   |lp q i c=>
    rw [he]at this;simp only[AH]at this|-;exact λj=>this (AA.xat_keep j)
  .trivial
 .rw[AA.kO];split
  .exact g.wf s
  .trivial
section own
variable{w w':World}{F F':Nat->Nat->Prop}{z:Option (Nat×Nat)}
variable{size:Nat}{v:Value}{n:Nat}
theorem C2.kept{xs:List Value}(h:C2 w size v n xs z)(l:∀b lo,z=Y (b,lo)->w'.heap[b]?=w.heap[b]?):C2 w' size v n xs z:=by
 refine ⟨h.1,?_⟩;rcases h.2 with f|⟨g,cap,j,e,m,r,u,x,y,A,B⟩
 .exact .inl f
 grind
theorem E1.kept{xs:List Value}(h:E1 w size v n xs z)(g:∀b lo,z=Y (b,lo)->w'.heap[b]?=w.heap[b]?):E1 w' size v n xs z:=by
 obtain ⟨l,m,f⟩:=h;exact⟨l,m.kept (λb lo j=>g b 0 (by rw[f,j];rfl)),f⟩
variable{t:TV}
theorem BA.kept(f:A3 w w' F F')(h:BA w F z t v)(g:∀b lo,z=Y (b,lo)->w'.heap[b]?=w.heap[b]?):BA w' F' z t v:=by
 cases t<;>simp[BA]at h|-;obtain⟨xs,j,l,m⟩:=h;exact⟨xs,j.kept g,AY f _ _ l,m⟩
theorem KN.kept{es:Fq}(f:A3 w w' F F')(h:KN w F z n es v)(g:∀b lo,z=Y (b,lo)->w'.heap[b]?=w.heap[b]?):KN w' F' z n es v:=by
 obtain ⟨xs,j,l,m⟩:=h;exact⟨xs,j.kept g,AY f _ _ l,m⟩
def At(w w':World)(ρ:Du):Prop:=∀g j b lo,ρ g j=Y (b,lo)->w'.heap[b]?=w.heap[b]?
variable{ρ:Du}
theorem At.rfl'{w:World}:At w w ρ:=λ_ _ _ _ _=>rfl
theorem Cm.kept{es:Fq}(f:A3 w w' F F')(h:Cm w F ρ z es v)(l:∀b lo,z=Y (b,lo)->w'.heap[b]?=w.heap[b]?)(m:At w w' ρ):Cm w' F' ρ z es v:=by
 obtain ⟨xs,y,A,B⟩:=h;refine⟨xs,y.kept l,A,λj e r=>?_⟩;obtain⟨g,x,n,C,D,E,H,I⟩:=B j e r;exact⟨g,x,n,C,D,E,H,I.kept f (λb lo u=>m g j b lo u)⟩
def QC(w w':World)(ρ:Du)(z:Option (Nat×Nat)):Prop:=∀g lo j b lo',z=Y (g,lo)->ρ g j=Y (b,lo')->w'.heap[b]?=w.heap[b]?
theorem At.spot{w w':World}{z:Option (Nat×Nat)}(h:At w w' ρ):QC w w' ρ z:=λg _ j b f _ l=>h g j b f l
theorem Cm.ms{es:Fq}(l:A3 w w' F F')(h:Cm w F ρ z es v)(m:∀b lo,z=Y (b,lo)->w'.heap[b]?=w.heap[b]?)(r:QC w w' ρ z):Cm w' F' ρ z es v:=by
 obtain ⟨xs,A,B,C⟩:=h;refine⟨xs,A.kept m,B,λj e u=>?_⟩;obtain⟨g,x,n,D,f,E,H,I⟩:=C j e u;exact⟨g,x,n,D,f,E,H,I.kept l (λb lo y=>r g 0 j b lo f y)⟩
variable{ρ':Du}
theorem Cm.j8{es:Fq}(h:Cm w F ρ z es v)(m:∀g lo j,z=Y (g,lo)->ρ' g j=ρ g j):Cm w F ρ' z es v:=by
 obtain ⟨xs,f,l,u⟩:=h;refine⟨xs,f,l,λj e r=>?_⟩
 grind
variable{c:AI}
theorem Ar.j8(h:Ar w F ρ z c v)(f:∀g lo j,z=Y (g,lo)->ρ' g j=ρ g j):Ar w F ρ' z c v:=by
 obtain ⟨_|_,t⟩:=c
 .exact h
 .cases t<;>first|exact h|exact Cm.j8 h f
theorem CH.kept(f:A3 w w' F F')(h:CH w F ρ z t v)(g:∀b lo,z=Y (b,lo)->w'.heap[b]?=w.heap[b]?)(j:At w w' ρ):CH w' F' ρ z t v:=by
 cases t<;>simp[CH]at h|- <;>first|exact BA.kept f h g|exact Cm.kept f h g j|skip
 obtain ⟨xs,l,m,r⟩:=h;exact⟨xs,l.kept g,AY f _ _ m,r⟩
theorem Ar.kept(f:A3 w w' F F')(h:Ar w F ρ z c v)(g:∀b lo,z=Y (b,lo)->w'.heap[b]?=w.heap[b]?)(j:At w w' ρ):Ar w' F' ρ z c v:=by
 obtain ⟨_|_,t⟩:=c
 .exact⟨BQ f _ _ h.1,h.2⟩
 .exact CH.kept f h g j
theorem Ar.ms(f:A3 w w' F F')(h:Ar w F ρ z c v)(g:∀b lo,z=Y (b,lo)->w'.heap[b]?=w.heap[b]?)(j:QC w w' ρ z):Ar w' F' ρ z c v:=by
 obtain ⟨_|_,t⟩:=c
 .exact⟨BQ f _ _ h.1,h.2⟩
 .replace h:CH w F ρ z t v:=h;show CH w' F' ρ z t v;cases t<;>simp[CH]at h|- <;>first|exact BA.kept f h g|exact Cm.ms f h g j|skip
  obtain ⟨xs,l,m,r⟩:=h;exact⟨xs,l.kept g,AY f _ _ m,r⟩
end own
variable{v:Value}
theorem PE.kept{w w':World}{F F':Nat->Nat->Prop}{z z2:Option (Nat×Nat)}{m:MX}(B:A3 w w' F F')(h:PE w F z z2 m v)(l:∀b lo,z=Y (b,lo)->w'.heap[b]?=w.heap[b]?)(u:∀b lo,z2=Y (b,lo)->w'.heap[b]?=w.heap[b]?):PE w' F' z z2 m v:=by
 cases m with
 |mp b y=>
  obtain ⟨j,f,g⟩:=h;exact⟨j,f,by unfold QB;rw[l _ _ f];exact g⟩
 |tm b y C=>
  obtain ⟨vs,j,f,g,x⟩:=h;exact⟨vs,j,f,by unfold QB;rw[l _ _ f];exact g,AY B _ _ x⟩
 |mi last A=>
  obtain ⟨r,b,j,f,g,x⟩:=h;exact⟨r,b,j,f,g,by unfold VA;rw[l _ _ f,u _ _ g];exact x⟩
variable{s:Nat}{e:EV}
theorem AH.kept'{a a':Act}{w w':World}{F F':Nat->Nat->Prop}{G L:Ay}{O env':AA}
  (r:A3 w w' F F')(u:∀i,L s i=G s i)(y:∀i b lo,G s i=Y (b,lo)->w'.heap[b]?=w.heap[b]?)
  (M:∀i g lo j,G s i=Y (g,lo)->j8 a' L g j=j8 a G g j)(N:∀i,QC w w' (j8 a G) (G s i))
  (P:∀q i k,e=.nh q i k->(∃p,env'.nat q i=Y p)->(∃p,O.nat q i=Y p)/\∀v,NH a w q i k v->NH a' w' q i k v)
  (Q:∀q B,e=.bp q B->(∃cs,env'.get q=.bx cs)->(∃cs,O.get q=.bx cs)/\slot a' q=slot a q)
  (H:∀q i,(e=.la q i\/∃c,e=.lp q i c)->(∃p,env'.jT q i=Y p)->(∃p,O.jT q i=Y p)/\∀v,XV a w q i v->XV a' w' q i v)
  (h:AH a w F G O s e v):AH a' w' F' L env' s e v:=by
 cases e with
 |undef=>trivial|sk=>exact h|tv t=>exact BQ r t v h|ow t=>
  simp [AH]at h|-;rw[u];exact h.kept r (λb lo=>y _ b lo)
 |bx cs=>
  simp only[AH]at h|-;obtain⟨b,c,θ,f,A,D,K,J⟩:=h;refine⟨b,c,θ,f,by rw[y _ _ _ K];exact A,D,by rw[u];exact K,λi d hd=>?_⟩;obtain⟨x,R,l⟩:=J i d hd;exact⟨x,R,by rw[u];exact(l.ms r (λb lo=>y _ b lo) (N _)).j8 (λg lo j I=>M _ g lo j I)⟩
 |bp q B=>
  simp only[AH]at h|-;intro C;obtain⟨l,E⟩:=Q q B rfl C;rw[E];exact h l
 |tp ε=>
  simp [AH]at h|-;obtain⟨vs,f,A⟩:=h;exact⟨vs,f,AY r _ _ A⟩
 |xo n es=>
  simp [AH]at h|-;obtain⟨xs,f,A,D⟩:=h;rw[u];exact⟨xs,f.kept (λb lo=>y _ b lo),AY r _ _ A,D⟩
 |kC cs=>
  simp [AH]at h|-;obtain⟨vs,f,D,J⟩:=h;refine⟨vs,f,D,λi d hd=>?_⟩;obtain⟨x,R,l⟩:=J i d hd;exact⟨x,R,by rw[u];exact(l.ms r (λb lo=>y _ b lo) (N _)).j8 (λg lo j I=>M _ g lo j I)⟩
 |xn es=>
  simp [AH]at h|-;rw[u];exact(h.ms r (λb lo=>y _ b lo) (N _)).j8 (λg lo j I=>M _ g lo j I)
 |x1 n κ=>
  simp only[AH]at h|-;obtain⟨g,cap,x,f,A,D,K,J,S⟩:=h;rw[u];have:=r g 0 x D K;exact⟨g,cap,x,f,A,this.1,this.2,J,S.kept r (λb lo=>y _ b lo)⟩
 |mx m=>
  simp [AH]at h|-;rw[u,u];exact h.kept r (λb lo=>y _ b lo) (λb lo=>y _ b lo)
 |nh q i k=>
  simp only[AH]at h|-;intro C;obtain⟨l,E⟩:=P q i k rfl C;exact E _ (h l)
 |la q i=>
  simp only[AH]at h|-;intro C;obtain⟨l,E⟩:=H q i (.inl rfl) C;exact E _ (h l)
 |lp q i c=>
  simp only[AH]at h|-;intro C;obtain⟨l,E⟩:=H q i (.inr ⟨c,rfl⟩) C;obtain⟨g,len,cap,f,A⟩:=h l;exact⟨g,len,cap,E _ f,A⟩
theorem AH.kept{a a':Act}{w w':World}{F F':Nat->Nat->Prop}{G f:Ay}{O env':AA}
  (x:A3 w w' F F')(y:∀i,f s i=G s i)(A:∀i b lo,G s i=Y (b,lo)->w'.heap[b]?=w.heap[b]?)
  (B:j8 a' f=j8 a G)(C:At w w' (j8 a G))
  (l:∀q i k,e=.nh q i k->(∃p,env'.nat q i=Y p)->(∃p,O.nat q i=Y p)/\∀v,NH a w q i k v->NH a' w' q i k v)
  (m:∀q u,e=.bp q u->(∃cs,env'.get q=.bx cs)->(∃cs,O.get q=.bx cs)/\slot a' q=slot a q)
  (r:∀q i,(e=.la q i\/∃c,e=.lp q i c)->(∃p,env'.jT q i=Y p)->(∃p,O.jT q i=Y p)/\∀v,XV a w q i v->XV a' w' q i v)
  (h:AH a w F G O s e v):AH a' w' F' f env' s e v:=
 AH.kept' x y A (λ_ g _ j _=>by rw[B]) (λ_=>At.spot C) l m r h
variable{q:Nat}{i:Option Nat}
theorem AJ.xv{F0:Nat->Nat->Prop}{w0:W0}{O:AA}{a a':Act}{w w':World}{G:Ay}(h:AJ F0 w0 O a w G)(x:∃p,O.jT q i=Y p)(m:slot a' q=slot a q)(y:∀b,G q W=Y (b,0)->w'.heap[b]?=w.heap[b]?):∀v,XV a w q i v->XV a' w' q i v:=by
 intro v hv;cases i with
 |none=>exact hv.trans m.symm|some k=>
  obtain ⟨⟨n,es⟩,A⟩:=x;obtain⟨cs,g,_⟩:=AA.jV A;obtain⟨b,c,θ,u,B,C⟩:=hv;have f:q<a.tmps.size:=by
   rcases m_ q a.tmps.size with l|l
   .exact l
   .rw[h.dom q l]at g;cases g
  have r:=h.slots q f;rw[g]at r;obtain⟨E,c',H,j,I,_,D,_⟩:=r;rw[u]at j;simp at j;subst j;exact⟨b,c,θ,by rw[m,u],by rw[y b D];exact B,C⟩
theorem NK.at.kept{w w':World}{x:Value}{k:NK}(h:k.at w x v)(u:∀g len cap,x=.slice (Y ⟨g,0,W⟩) len cap->w'.heap[g]?=w.heap[g]?):k.at w' x v:=by
 have m:∀g len cap,x=.slice (Y ⟨g,0,W⟩) len cap->∀j,w'.cell? ⟨g,j,W⟩=w.cell? ⟨g,j,W⟩:=λg len cap e j=>World.cell?_of_block (w:=w) (w':=w') (a:=⟨g,j,W⟩) (u g len cap e);cases k with
 |hd=>exact h|el j=>exact h|rw j=>obtain⟨g,len,cap,e,h⟩:=h;exact⟨g,len,cap,e,by rw[m _ _ _ e];exact h⟩
 |rp j p=>obtain⟨g,len,cap,e,r,f,l,h,y⟩:=h;exact⟨g,len,cap,e,r,f,l,by rw[m _ _ _ e];exact h,y⟩
theorem NH.kept{a a':Act}{w w':World}{q i:Nat}{k:NK}(h:NH a w q i k v)(m:slot a' q=slot a q)(r:∀b,slot a q=.pointer (Y ⟨b,0,W⟩)->w'.heap[b]?=w.heap[b]?)
  (u:∀b c θ g len cap,slot a q=.pointer (Y ⟨b,0,W⟩)->w.heap[b]?=Y (.cells c θ (0,0))->c[i]?=Y (.slice (Y ⟨g,0,W⟩) len cap)->w'.heap[g]?=w.heap[g]?):NH a' w' q i k v:=by
 obtain ⟨b,c,θ,x,f,j,l,y⟩:=h;exact⟨b,c,θ,x,by rw[m];exact f,by rw[r b f];exact j,l,y.kept λg len cap e=>u b c θ g len cap f j (by rw[l,e])⟩
variable{ρ:Du}
theorem Cm.nil_or{w:World}{F:Nat->Nat->Prop}{z:Option (Nat×Nat)}{es:Fq}{g len cap:Nat}(h:Cm w F ρ z es (.slice (Y ⟨g,0,W⟩) len cap)):z=Y (g,0):=by
 obtain ⟨xs,⟨m,j,r⟩,_⟩:=h;rcases j.2 with⟨e,_⟩|⟨u,f,l,e,x,_,_,_,_,_,y⟩
 .cases e
 grind
theorem AJ.lts{F0:Nat->Nat->Prop}{w0:W0}{O:AA}{a:Act}{w:World}{G:Ay}(h:AJ F0 w0 O a w G)(g:O.get q≠.undef):q<a.tmps.size:=by
 rcases m_ q a.tmps.size with f|f
 .exact f
 .exact absurd (h.dom q f) g
theorem AJ.nh{F0:Nat->Nat->Prop}{w0:W0}{O:AA}{a a':Act}{w w':World}{G:Ay}(h:AJ F0 w0 O a w G){q i:Nat}{k:NK}(y:∃p,O.nat q i=Y p)(A:slot a' q=slot a q)(B:∀j b,(j=W\/j=Y i)->G q j=Y (b,0)->w'.heap[b]?=w.heap[b]?):∀v,NH a w q i k v->NH a' w' q i k v:=by
 intro v hv;obtain⟨es,I⟩:=y;obtain⟨cs,r,J⟩:=AA.j0 I;have m:=h.slots q (h.lts (by rw[r];simp));rw[r]at m;obtain⟨M,c',N,f,u,_,P,K⟩:=m;refine hv.kept A (λb C=>?_) (λb c θ g len cap D E H=>?_)
 .grind
 .rw[D]at f;simp at f;subst f;rw[E]at u;cases u;obtain⟨x,l,L⟩:=K i _ J;rw[H]at l;simp at l;subst l;exact B (Y i) g (.inr rfl) (Cm.nil_or L)
theorem AJ.mS{F0:Nat->Nat->Prop}{w0:W0}{O:AA}{a:Act}{w:World}{G:Ay}(h:AJ F0 w0 O a w G)(u:s<a.tmps.size){b lo g j l f:Nat}(m:G s i=Y (b,lo))(r:j8 a G g j=Y (l,f)):l≠b:=by
 rintro rfl;have:=(h.jp _ _ _ _ _ _ _ m r).1;omega
theorem GU{a a':Act}{G f:Ay}(g:a'.tmps.size=a.tmps.size)(h:∀s,a.tmps.size<=s->f s=G s):j8 a' f=j8 a G:=by grind[j8]
theorem Bg(a:Act)(d:Nat)(v:Value)(h:d<a.tmps.size):slot (a.put (Y d) v) d=v:=by
 simp [slot,Act.put,Array.getD_eq_getD_getElem?,h]
theorem AQ(a:Act)(d s:Nat)(v:Value)(h:d≠s):slot (a.put (Y d) v) s=slot a s:=by
 simp [slot,Act.put,Array.getD_eq_getD_getElem?,Array.getElem?_setIfInBounds,h]
theorem A6(a:Act)(d:Option Nat)(v:Value):(a.put d v).tmps.size=a.tmps.size:=by
 cases d<;>simp[Act.put]
theorem Ca(a:Act)(d:Option Nat)(v:Value):(a.put d v).defers=a.defers:=by
 cases d<;>simp[Act.put]
def KL(a:Act)(d:Nat)(a':Act):Prop:=∃v,a'=a.put (Y d) v
structure GH(N:Nat)(p:Option (Nat×Value))(a:Act):Prop where
 size:a.tmps.size=N
 pin:∀i v,p=Y (i,v)->slot a i=v
variable{d:Nat}
theorem GH.put{N:Nat}{p:Option (Nat×Value)}{a a':Act}(h:GH N p a)(hd:∀i v,p=Y (i,v)->Y d≠Y i)(k:KL a d a'):GH N p a':=by
 obtain ⟨v,rfl⟩:=k;exact⟨by rw[A6];exact h.size,λi u f=>by rw[AQ _ _ _ _ (λe=>hd i u f (by rw[e]))];exact h.pin i u f⟩
theorem Jx(w:World)(F:Nat->Nat->Prop):A3 w w F F:=λ_ _ _ f g=>⟨f,g⟩
variable{t:TV}
theorem AJ.rem{F0:Nat->Nat->Prop}{w0:W0}{O env':AA}{a:Act}{w:World}{G:Ay}(h:AJ F0 w0 O a w G)(s:Nat)(A:s<a.tmps.size)(m:AV w (AP w0.heap.size F0 G) t (slot a s))(x:t.WF)
  (l:∀n,env'.get n=O.get n\/(n=s/\env'.get n=.tv t)):AJ F0 w0 env' a w G:=by
 refine ⟨h.jp,h.lt,h.below,h.defers,λq u=>?_,λq u=>?_,λq=>?_⟩
 .rcases l q with e|⟨rfl,_⟩
  .rw[e];exact h.dom q u
  .omega
 .rcases l q with e|⟨rfl,e⟩
  .rw[e];refine AH.kept (Jx _ _) (λ_=>rfl) (λ_ _ _ _=>rfl) rfl At.rfl' (λr i k m⟨p,g⟩=>?_) (λr y m⟨cs,j⟩=>?_) (λr i m⟨p,g⟩=>?_) (h.slots q u)
   .rcases l r with f|⟨_,f⟩
    .rw[AA.kM f]at g;exact⟨⟨p,g⟩,λ_ hv=>hv⟩
    .simp only[AA.nat,f]at g;cases g
   .rcases l r with f|⟨_,f⟩
    .rw[f]at j;exact⟨⟨cs,j⟩,rfl⟩
    .rw[f]at j;cases j
   .rcases l r with f|⟨_,f⟩
    .rw[AA.kE f]at g;exact⟨⟨p,g⟩,λ_ hv=>hv⟩
    .cases i<;>simp[AA.jT,f]at g<;>cases g
  .rw[e];exact m
 .rcases l q with e|⟨_,e⟩
  .rw[e];exact h.wf q
  .rw[e];exact x
end Go.Sf
namespace Go.Sf
open Go.RowKit (Below)
theorem AA.jX(d:Nat):∀(O:AA),O.je d=X->∀s,(O.get s).jZ≠Y d
 |[],_,s=>by simp[AA.get,EV.jZ]|(k,e)::r,f,s=>by
  simp [AA.je]at f;rw[AA.gp];split
  .grind[EV.kx]
  .exact AA.jX d r f.2 s
theorem AA.ll(d:Nat)(O:AA)(h:O.je d=X)(s:Nat):(∀i,O.get s≠.la d i)/\∀i c,O.get s≠.lp d i c:=
 ⟨λi e=>AA.jX d O h s j!,λi c e=>AA.jX d O h s j!⟩
theorem AA.lh(d:Nat)(O:AA)(h:O.je d=X)(s f:Nat):O.get s≠.bp d f:=
 λe=>AA.jX d O h s j!
variable{d:Nat}{e:EV}{i:Option Nat}{p:Nat×Fq}
theorem AA.ly{O:AA}(h:AA.jT ((d,e)::O) d i=Y p):(∃cs,e=.bx cs)\/(∃n es,e=.xo n es):=by
 obtain ⟨n,es⟩:=p;cases i with
 |none=>have:=AA.j6 h;rw[AA.gp,ae rfl]at this;exact .inr ⟨n,es,this⟩|some k=>obtain⟨cs,f,_⟩:=AA.jV h;rw[AA.gp,ae rfl]at f;exact .inl ⟨cs,f⟩
variable{q:Nat}
theorem AA.jW{O:AA}(f:∀cs,e≠.bx cs)(g:∀n es,e≠.xo n es)(h:AA.jT ((d,e)::O) q i=Y p):d≠q/\O.jT q i=Y p:=by grind[AA.ly,AA.kE,AA.gp]
theorem AA.kv{O:AA}(h:d≠q):AA.jT ((d,e)::O) q i=O.jT q i:=by grind[AA.kE,AA.gp]
variable{s:Nat}{k:Option Nat}
theorem AA.noXs_iff:∀{O:AA}{z:Ne},AA.nq s k z O=X↔∀p,p∉z->(O.get p).mM s k=X
 |[],z=>by simp[AA.nq,AA.get,EV.mM]|(q,e)::r,z=>by
  simp [AA.nq,kY,AA.noXs_iff (O:=r)]
  grind [AA.gp]
theorem AA.lw{O:AA}:O.lV s k=X↔∀p,(O.get p).mM s k=X:=
 AA.noXs_iff.trans ⟨λh p=>h p V,λh p _=>h p⟩
theorem AA.noX_all{s k:Nat}{O:AA}(f:O.lV s W=X):O.lV s (Y k)=X:=by
 rw [AA.lw]at f|-;intro p;have h:=f p;generalize O.get p=e at h|-;cases e<;>try rfl
 .rename_i q i;cases i with
  |none=>rfl|some i=>simp[EV.mM]at h;simp[EV.mM,h]
 .rename_i q i c;cases i with
  |none=>rfl|some i=>simp[EV.mM]at h;simp[EV.mM,h]
 next q i c=>simp[EV.mM]at h;simp[EV.mM,h]
theorem AA.noX_ref{O:AA}(f:O.je s=X):O.lV s W=X:=by
 rw [AA.lw];intro p;have h:=AA.jX s O f p;generalize O.get p=e at h|-;cases e<;>try rfl
 .rename_i q i;cases i with
  |none=>rfl|some i=>simp[EV.mM,bne_iff_ne];exact λe=>h j!
 .rename_i q i c;cases i with
  |none=>rfl|some i=>simp[EV.mM,bne_iff_ne];exact λe=>h j!
 next q i c=>simp[EV.mM,bne_iff_ne];exact λe=>h j!
theorem AA.noX_nh{O:AA}(f:O.lV s k=X)(p j:Nat)(g:k=W\/k=Y j)(c:NK):O.get p≠.nh s j c:=by grind[AA.lw,EV.mM]
theorem AA.mb(d:Nat)(O:AA)(h:O.je d=X)(s:Nat):∀i c,O.get s≠.nh d i c:=
 λi c e=>AA.jX d O h s j!
theorem AA.kV{O:AA}{d i:Nat}{p:Fq}(h:AA.nat ((d,e)::O) d i=Y p):∃cs,e=.bx cs:=by grind[AA.j0,AA.gp]
theorem AA.kf{O:AA}{d q i:Nat}{p:Fq}(f:∀cs,e≠.bx cs)(h:AA.nat ((d,e)::O) q i=Y p):d≠q/\O.nat q i=Y p:=by grind[AA.kV,AA.kM,AA.gp]
theorem AA.kA{O:AA}{d q i:Nat}(h:d≠q):AA.nat ((d,e)::O) q i=O.nat q i:=by grind[AA.kM,AA.gp]
theorem AA.noX_spec{O:AA}(f:O.lV s k=X)(p j:Nat)(g:k=W\/k=Y j):O.get p≠.la s (Y j)/\∀c,O.get p≠.lp s (Y j) c:=by grind[AA.lw,EV.mM]
def EZ(G:Ay)(d:Nat)(zd:Option Nat->Option (Nat×Nat)):Ay:=λs=>if s=d then zd else G s
theorem BH(G:Ay)(d:Nat)(f:Option Nat->Option (Nat×Nat)):EZ G d f d=f:=by simp[EZ]
theorem Aq(G:Ay)(d s:Nat)(f:Option Nat->Option (Nat×Nat))(h:s≠d):EZ G d f s=G s:=by simp[EZ,h]
section
variable{F0:Nat->Nat->Prop}{w0:W0}{O:AA}{a:Act}{w:World}{G:Ay}
theorem FX{w':World}(u:Below w.heap.size w w')(d:Nat)(l:Option Nat->Option (Nat×Nat))(x:∀i b lo,l i=Y (b,lo)->w.heap.size<=b):
  A3 w w' (AP w0.heap.size F0 G) (AP w0.heap.size F0 (EZ G d l)):=by
 intro b o v m hf;have j:b<w.heap.size:=World.block_lt_of_cell? w ⟨b,o,W⟩ m;refine⟨by rw[u.cell (p:=⟨b,o,W⟩) j];exact m,λg=>hf ?_⟩;rcases g with h|⟨s,i,lo,f,y⟩
 .exact .inl h
 .by_cases r:s=d
  .subst r;rw[BH]at f;have:=x i b lo f;omega
  .rw[Aq _ _ _ _ r]at f;exact .inr ⟨s,i,lo,f,y⟩
theorem AJ.lF{w':World}(h:AJ F0 w0 O a w G)(f:Below w.heap.size w w'):At w w' (j8 a G):=by
 intro g j b lo l;exact f.block b (h.lt _ _ _ _ l).1
theorem AJ.quiet{w':World}(h:AJ F0 w0 O a w G)(C:Below w.heap.size w w')(d:Nat)(hd:d<a.tmps.size)(e:EV)(v:Value)
  (D:Option Nat->Option (Nat×Nat))(K:∀i b lo,D i=Y (b,lo)->w.heap.size<=b/\b<w'.heap.size)(L:∀i H b lo l,D i=Y (b,lo)->D H=Y (b,l)->i=H)
  (E:(∃cs,e=.bx cs)\/(∃n es,e=.xo n es)->O.je d=X)
  (J:AH (a.put (Y d) v) w' (AP w0.heap.size F0 (EZ G d D)) (EZ G d D) ((d,e)::O) d e v)(M:e.WF):
  AJ F0 w0 ((d,e)::O) (a.put (Y d) v) w' (EZ G d D):=by
 have Q:=FX (F0:=F0) (w0:=w0) (G:=G) C d D (λi b lo h=>(K i b lo h).1);refine⟨?_,?_,h.below.go C,d!,?_,?_,?_⟩
 .intro s i P H b lo l m B;by_cases g:s=d<;>by_cases y:P=d
  .subst g;subst y;rw[BH]at m B;exact⟨rfl,L i H b lo l m B⟩
  .subst g;rw[BH]at m;rw[Aq _ _ _ _ y]at B;have:=(K i b lo m).1;have:=(h.lt P H b l B).1;omega
  .subst y;rw[BH]at B;rw[Aq _ _ _ _ g]at m;have:=(K H b l B).1;have:=(h.lt s i b lo m).1;omega
  .rw[Aq _ _ _ _ g]at m;rw[Aq _ _ _ _ y]at B;exact h.jp s i P H b lo l m B
 .intro s i b lo m;by_cases g:s=d
  .subst g;rw[BH]at m;have:=K i b lo m;exact⟨this.2,.inl (l! h.below.size this.1)⟩
  .rw[Aq _ _ _ _ g]at m;have:=h.lt s i b lo m;exact⟨l? this.1 C.size,this.2⟩
 .intro s g;rw[A6]at g;rw[AA.gp,az U];exact h.dom s g
 .intro s g;rw[A6]at g;rw[AA.gp];by_cases A:d=s
  .subst A;rw[ae rfl,Bg _ _ _ hd];exact J
  .rw[az A,AQ _ _ _ _ A];refine AH.kept Q (λi=>by rw[Aq _ _ _ _ (λe=>A e.symm)]) (λi b lo S=>C.block b (h.lt s i b lo S).1) (GU (A6 _ _ _) (λs g=>Aq _ _ _ _ U)) (h.lF C) (λq i k u⟨p,x⟩=>?_) (λq N u⟨cs,r⟩=>?_) (λq i u⟨p,x⟩=>?_) (h.slots s g)
   .by_cases f:d=q
    .subst f;exact absurd u (AA.mb d O (E (.inl (AA.kV x))) s i k)
    .rw[AA.kA f]at x;exact⟨⟨p,x⟩,h.nh ⟨p,x⟩ (AQ _ _ _ _ f) (λj b _ I=>C.block b (h.lt _ _ _ _ I).1)⟩
   .rw[AA.gp]at r;by_cases f:d=q
    .subst f;rw[ae rfl]at r;exact absurd u (AA.lh d O (E (.inl ⟨cs,r⟩)) s N)
    .rw[az f]at r;exact⟨⟨cs,r⟩,AQ _ _ _ _ f⟩
   .by_cases f:d=q
    .subst f;have R:=AA.ll d O (E (AA.ly x)) s;rcases u with u|⟨c,u⟩
     .exact absurd u (R.1 i)
     .exact absurd u (R.2 i c)
    .rw[AA.kv f]at x;exact⟨⟨p,x⟩,h.xv ⟨p,x⟩ (AQ _ _ _ _ f) (λb I=>C.block b (h.lt _ _ _ _ I).1)⟩
 .intro s;rw[AA.gp];split
  .exact M
  .exact h.wf s
theorem AJ.tv{w':World}(h:AJ F0 w0 O a w G)(j:Below w.heap.size w w')(d:Nat)(hd:d<a.tmps.size)(t:TV)(v:Value)
  (f:AV w' (AP w0.heap.size F0 (EZ G d λ_=>W)) t v)(g:t.WF):
  BF F0 w0 ((d,.tv t)::O) (a.put (Y d) v) w':=
 ⟨_,h.quiet j d hd (.tv t) v (λ_=>W) V V V f g⟩
theorem AJ.tv_same(h:AJ F0 w0 O a w G)(d:Nat)(hd:d<a.tmps.size)(t:TV)(v:Value)
  (f:AV w (AP w0.heap.size F0 G) t v)(g:t.WF):
  BF F0 w0 ((d,.tv t)::O) (a.put (Y d) v) w:=
 h.tv (Below.refl _ _) d hd t v (BQ (FX (Below.refl _ _) d _ V) t v f) g
theorem AJ.ow{w':World}(h:AJ F0 w0 O a w G)(m:Below w.heap.size w w')(d:Nat)(hd:d<a.tmps.size)(t:TV)(v:Value)(z:Option (Nat×Nat))
  (r:∀b lo,z=Y (b,lo)->w.heap.size<=b/\b<w'.heap.size)
  (f:BA w' (AP w0.heap.size F0 (EZ G d λi=>if i=W then z else W)) z t v)(g:t.WF):
  BF F0 w0 ((d,.ow t)::O) (a.put (Y d) v) w':=by
 refine ⟨_,h.quiet m d hd (.ow t) v (λi=>if i=W then z else W) (λi b lo hi=>?_) (λi x b lo u j l=>?_) V ?_ g⟩
 .split at hi
  .exact r b lo hi
  .cases hi
 .split at j
  .split at l
   .simp_all
   .cases l
  .cases j
 .simp[AH,BH];exact f
end
section reads
variable{w:World}{F:Nat->Nat->Prop}
theorem Pg(n:Nat):∀(es:Fq)(b o:Nat),(∀e∈es,e.cells.length=n)->Bv w F (es.flatMap TV.cells) b o->EB w F n es b o
 |[],_,_,_,_=>trivial|e::es,b,o,f,h=>by
  rw [J9];have he:e.cells.length=n:=f e V;rw[List.flatMap_cons]at h;refine⟨by have:=TN h e.cells.length;simpa using this,he,Pg n es b (o+n) (λx g=>f x (by simp[g])) ?_⟩;have:=JH h e.cells.length
  grind
theorem I5(n:Nat):∀(es:Fq),(∀e∈es,e.cells.length=n)->(es.flatMap TV.cells).length=es.length*n
 |[],_=>by simp|e::es,f=>by
  rw [List.flatMap_cons,bq,I5 n es (λx g=>f x (by simp[g])),f e V,ci,Nat.add_mul,Nat.one_mul,Nat.add_comm]
variable{b o:Nat}
theorem LK{f:Fq}{xs:List Value}(h:AM w F f xs)(j:∀x∈xs,x.oneCell'=X)(l:∀(i:Nat)(x:Value),xs[i]?=Y x->w.cell? ⟨b,o+i,W⟩=Y x/\¬F b (o+i)):Bv w F f b o:=by
 rw [EO];rw[A4]at h;intro i t hi;have g:i<f.length:=by
  grind
 have m:xs[i]?=Y xs[i]:=List.getElem?_eq_getElem U
 grind
variable{size:Nat}{v:Value}{n:Nat}
theorem C2.cell{xs:List Value}{z:Option (Nat×Nat)}{g cap:Nat}(h:C2 w size v n xs z)(hv:v=.slice (Y ⟨g,0,W⟩) n cap):∀(j:Nat)(u:Value),xs[j]?=Y u->w.cell? ⟨g,j,W⟩=Y u:=by
 intro j u y;rcases h.2 with⟨rfl,_⟩|⟨r,m,f,e,rfl,x,_,_,_,l,_⟩
 .cases hv
 .simp only[Value.slice.injEq,jR,Addr.mk.injEq]at hv;obtain⟨⟨rfl,_⟩,_⟩:=hv;rw[cell_of_row w r j f e (0,0) x]
  grind
variable{t:TV}
theorem BA.ns{z:Option (Nat×Nat)}(h:BA w F z t v)(u:∀b lo o,z=Y (b,lo)->o<lo->¬F b o):AV w F t v:=by
 cases t<;>simp[BA]at h;rename_i n es;obtain⟨xs,m,A,B,C⟩:=h;simp[AV];rcases m.2 with⟨rfl,J,r⟩|⟨g,cap,D,e,rfl,K,j,E,H,l,r⟩
 .grind
 .refine⟨Y ⟨g,0,W⟩,cap,rfl,j,V,λI f=>?_⟩;simp at f;subst f;refine⟨.inr rfl,Pg n es g 0 B (LK A C λi x y=>?_)⟩;rw[Nat.zero_add];refine⟨m.cell rfl i x y,u g _ i r ?_⟩
  grind
variable{ρ:Du}
theorem CH.ns{z:Option (Nat×Nat)}(h:CH w F ρ z t v)(f:∀b lo o,z=Y (b,lo)->o<lo->¬F b o):AV w F t v:=by
 cases t<;>first|exact BA.ns h f|skip
 all_goals
  obtain ⟨xs,⟨m,j,_⟩,_⟩:=h;simp[AV];rcases j.2 with⟨rfl,_⟩|⟨g,cap,l,e,rfl,_⟩<;>rfl
end reads
end Go.Sf
