/- The invariant between an environment of the pure language and a frame with memory. -/
import Derived.Test.YthgbaecihlidaaaGreatDoorSfSem
import Derived.Laws.AppendOwn
set_option linter.all false
namespace Go.Sf
open Go.RowKit (Below)
def FO(w:World)(size:Nat)(v:Value)(n:Nat)(xs:List Value)(z:Option (Nat×Nat)):Prop:=
 xs.length=n*size/\
 ((v=.slice none 0 0/\n=0/\z=none)\/
 ∃g cap cur e,v=.slice (some ⟨g,0,none⟩) n cap/\w.heap[g]?=some (.cells cur e (0,0))/\n<=cap/\cap<=maxLen/\cur.size=cap*size/\cur.toList.take (n*size)=xs/\z=some (g,n*size))
def IC(w:World)(size:Nat)(v:Value)(n:Nat)(xs:List Value)(z:Option (Nat×Nat)):Prop:=
 ∃z0,FO w size v n xs z0/\z=z0.map fun p=>(p.1,0)
def Bj(w:World)(F:Nat->Nat->Prop)(z:Option (Nat×Nat)):TV->Value->Prop
 |.list n es,v=>∃xs,FO w n v es.length xs z/\AL w F (es.flatMap TV.cells) xs/\(∀e∈es,e.cells.length=n)/\∀x∈xs,x.oneCell'=true|_,_=>False
abbrev G7:=Nat->Nat->Option (Nat×Nat)
def Ot(w:World)(F:Nat->Nat->Prop)(z:Option (Nat×Nat))(n:Nat)(es:Fq)(v:Value):Prop:=
 ∃xs,IC w n v es.length xs z/\AL w F (es.flatMap TV.cells) xs/\(∀e∈es,e.cells.length=n)/\∀x∈xs,x.oneCell'=true
def Es(w:World)(F:Nat->Nat->Prop)(ρ:G7)(z:Option (Nat×Nat))(es:Fq)(v:Value):Prop:=
 ∃xs,IC w 1 v es.length xs z/\(∀x∈xs,x.oneCell'=true)/\∀(j:Nat)(e:TV),es[j]?=some e->∃g x n fs,z=some (g,0)/\xs[j]?=some x/\e=.list n fs/\Ot w F (ρ g j) n fs x
def Dy(w:World)(F:Nat->Nat->Prop)(ρ:G7)(z:Option (Nat×Nat)):TV->Value->Prop
 |.xl n es,v=>∃xs,IC w n v es.length xs z/\AL w F (es.flatMap TV.cells) xs/\(∀e∈es,e.cells.length=n)/\∀x∈xs,x.oneCell'=true|.xn es,v=>Es w F ρ z es v|t,v=>Bj w F z t v
variable{ρ:G7}{t:TV}{v:Value}
theorem Bj.c{w:World}{F:Nat->Nat->Prop}{z:Option (Nat×Nat)}(h:Bj w F z t v):Dy w F ρ z t v:=by
 cases t<;>first|exact h|(simp[Bj]at h)
def BH(w:World)(F:Nat->Nat->Prop)(ρ:G7)(z:Option (Nat×Nat))(c:AQ)(v:Value):Prop:=
 match c with
 |⟨true,t⟩=>Dy w F ρ z t v|⟨false,t⟩=>AX w F t v/\v.oneCell'=true
abbrev BQ:=Nat->Option Nat->Option (Nat×Nat)
def rho(a:Act)(G:BQ):G7:=fun g j=>G (a.tmps.size+g) (some j)
def AR(base:Nat)(F0:Nat->Nat->Prop)(G:BQ)(b o:Nat):Prop:=(b<base/\F0 b o)\/∃s i lo,G s i=some (b,lo)/\lo<=o
def slot(a:Act)(s:Nat):Value:=a.tmps.getD s undef
def XV(a:Act)(w:World)(q:Nat)(i:Option Nat)(v:Value):Prop:=
 match i with
 |none=>v=slot a q|some k=>∃b c T,slot a q=.pointer (some ⟨b,0,none⟩)/\w.heap[b]?=some (.cells c T (0,0))/\c[k]?=some v
def NK.at(w:World)(x:Value):NK->Value->Prop
 |.hd,v=>v=x|.el j,v=>∃g len cap,x=.slice (some ⟨g,0,none⟩) len cap/\v=.pointer (some ⟨g,j,none⟩)|.rw j,v=>∃g len cap,x=.slice (some ⟨g,0,none⟩) len cap/\w.cell? ⟨g,j,none⟩=some v|.rp j p,v=>∃g len cap,x=.slice (some ⟨g,0,none⟩) len cap/\∃r len' cap',w.cell? ⟨g,j,none⟩=some (.slice (some ⟨r,0,none⟩) len' cap')/\v=.pointer (some ⟨r,p,none⟩)
def NH(a:Act)(w:World)(q i:Nat)(k:NK)(v:Value):Prop:=
 ∃b c T x,slot a q=.pointer (some ⟨b,0,none⟩)/\w.heap[b]?=some (.cells c T (0,0))/\c[i]?=some x/\k.at w x v
def EF(k:Int×Int):Value:=.agg #[.int .i64 k.1,.int .i64 k.2]
def UL(w:World)(b:Nat)(kvs:BR):Prop:=
 ∃es clock,w.heap[b]?=some (.map es clock)/\es.toList.map (fun e=>(e.key,e.val))=kvs.map (fun p=>(EF p.1,Value.int .i64 p.2))/\es.toList.Pairwise (fun x y=>x.born<y.born)/\∀e∈es.toList,e.born<clock
def dN(w:World)(r b:Nat)(last:Option ((Int×Int)×Int))(todo:BR):Prop:=
 ∃(es:Array MapEntry)(clock since c0:Nat)(seen:Array Nat),w.heap[b]?=some (.map es clock)/\w.heap[r]?=some (.mapIter (some b) since seen c0)/\es.toList.Pairwise (fun x y=>x.born<y.born)/\(∀e∈es.toList,e.born<since)/\since<=c0/\since<=clock/\
  (∀p,last=some p->∃(seen':Array Nat)(e:MapEntry),seen=seen'.push e.born/\e∈es.toList/\c0=clock/\e.key=EF p.1/\e.val=.int .i64 p.2)/\
  ((es.toList.filter fun e=>!seen.contains e.born).map (fun e=>(e.key,e.val))).Perm (todo.map (fun p=>(EF p.1,Value.int .i64 p.2)))
def S0(w:World)(F:Nat->Nat->Prop)(z z2:Option (Nat×Nat)):MX->Value->Prop
 |.mp b kvs,v=>v=.map (some b)/\z=some (b,0)/\UL w b kvs|.tm b kvs ts,v=>∃vs,v=.tuple (Value.map (some b)::vs).toArray/\z=some (b,0)/\UL w b kvs/\AL w F ts vs|.mi last todo,v=>∃r b,v=.pointer (some ⟨r,0,none⟩)/\z=some (r,0)/\z2=some (b,0)/\dN w r b last todo
def AJ(a:Act)(w:World)(F:Nat->Nat->Prop)(G:BQ)(O:AB)(s:Nat):EV->Value->Prop
 |.undef,_=>True|.sk,v=>v=undef|.tv t,v=>AX w F t v|.ow t,v=>Bj w F (G s none) t v|.bx cs,v=>∃b c T,v=.pointer (some ⟨b,0,none⟩)/\w.heap[b]?=some (.cells c T (0,0))/\c.size=cs.length/\G s none=some (b,0)/\∀(i:Nat)(d:AQ),cs[i]?=some d->∃x,c[i]?=some x/\BH w F (rho a G) (G s (some i)) d x|.bp q off,v=>(∃cs,O.get q=.bx cs)->∃b,slot a q=.pointer (some ⟨b,0,none⟩)/\v=.pointer (some ⟨b,off,none⟩)|.tp ts,v=>∃vs,v=.tuple vs/\AL w F ts vs.toList|.xo n es,v=>∃xs,IC w n v es.length xs (G s none)/\AL w F (es.flatMap TV.cells) xs/\(∀e∈es,e.cells.length=n)/\∀x∈xs,x.oneCell'=true|.oag cs,v=>∃vs,v=.agg vs/\vs.size=cs.length/\∀(i:Nat)(d:AQ),cs[i]?=some d->∃x,vs[i]?=some x/\BH w F (rho a G) (G s (some i)) d x|.la q i,v=>(∃p,O.x8 q i=some p)->XV a w q i v|.lp q i c,v=>(∃p,O.x8 q i=some p)->∃g len cap,XV a w q i (.slice (some ⟨g,0,none⟩) len cap)/\v=.pointer (some ⟨g,c,none⟩)|.xn es,v=>Es w F (rho a G) (G s none) es v|.x1 n fs,v=>∃g cap x,v=.slice (some ⟨g,0,none⟩) 1 cap/\1<=cap/\w.cell? ⟨g,0,none⟩=some x/\¬F g 0/\x.oneCell'=true/\Ot w F (G s none) n fs x|.nh q i k,v=>(∃es,O.nat q i=some es)->NH a w q i k v|.mx m,v=>S0 w F (G s none) (G s (some 0)) m v
def XZ(w:World)(E:Nat->Nat->Prop):Prop:=Rw w/\∀b o,E b o->Y8<=b
structure W0 extends World where
 E:Nat->Nat->Prop
theorem Dy.own{w:World}{F:Nat->Nat->Prop}{z:Option (Nat×Nat)}(h:Dy w F ρ z t v)(f:t.AaS=false):Bj w F z t v:=by
 cases t<;>first|exact h|(simp[TV.AaS]at f)
structure GM(F0:Nat->Nat->Prop)(w0:W0)(w:World):Prop where
 os:w.os=w0.os
 tape:w.tape=w0.tape
 output:w.output=w0.output
 size:w0.heap.size<=w.heap.size
 block:∀k,k<w0.heap.size->(∀o,¬w0.E k o)->w.heap[k]?=w0.heap[k]?
 cell:∀b o u,¬w0.E b o->w0.cell? ⟨b,o,none⟩=some u->w.cell? ⟨b,o,none⟩=some u
 free:∀b o o',w0.E b o->¬F0 b o'
 tab:XZ w0.toWorld w0.E
theorem GM.trans{F0:Nat->Nat->Prop}{w0:W0}{w w':World}(h:GM F0 w0 w)(j:w'.os=w.os)(l:w'.tape=w.tape)(m:w'.output=w.output)(r:w.heap.size<=w'.heap.size)(x:∀k,k<w0.heap.size->(∀o,¬w0.E k o)->w'.heap[k]?=w.heap[k]?)(y:∀b o u,b<w0.heap.size->¬w0.E b o->w.cell? ⟨b,o,none⟩=some u->w'.cell? ⟨b,o,none⟩=some u):GM F0 w0 w':=
 ⟨j.trans h.os,l.trans h.tape,m.trans h.output,Nat.le_trans h.size r,fun b f he=>(x b f he).trans (h.block b f he),fun b o u he g=>y b o u (World.block_lt_of_cell? _ ⟨b,o,none⟩ g) he (h.cell b o u he g),h.free,h.tab⟩
theorem GM.now{F0:Nat->Nat->Prop}{w0:W0}{w:World}(h:GM F0 w0 w):Rw w:=
 h.tab.1.fu fun b f=>h.block b (Nat.lt_of_lt_of_le f h.tab.1.lt) fun o e=>absurd (h.tab.2 b o e) (by omega)
theorem GM.but{F0:Nat->Nat->Prop}{w0:W0}{w w':World}(h:GM F0 w0 w)(f:w'.os=w.os)(g:w'.tape=w.tape)(j:w'.output=w.output)(l:w.heap.size<=w'.heap.size){Z:Nat->Prop}(m:∀b,Z b->w0.heap.size<=b\/∀o,w0.E b o)(r:∀k,k<w0.heap.size->¬Z k->w'.heap[k]?=w.heap[k]?):GM F0 w0 w':=
 h.trans f g j l (fun k x he=>r k x fun z=>(m k z).elim (fun e=>by omega) (fun e=>he 0 (e 0))) (fun b o u y he A=>by
  grind [World.cell?_of_block])
theorem GM.go{F0:Nat->Nat->Prop}{w0:W0}{w w':World}(h:GM F0 w0 w)(k:Below w.heap.size w w'):GM F0 w0 w':=
 h.trans k.os k.tape k.output k.size (fun b f _=>k.block b (Nat.lt_of_lt_of_le f h.size)) (fun b o u f _ g=>by rw[k.cell (p:=⟨b,o,none⟩) (Nat.lt_of_lt_of_le f h.size)];exact g)
structure AM(F0:Nat->Nat->Prop)(w0:W0)(O:AB)(a:Act)(w:World)(G:BQ):Prop where
 og:∀s i s' i' b lo lo',G s i=some (b,lo)->G s' i'=some (b,lo')->s=s'/\i=i'
 lt:∀s i b lo,G s i=some (b,lo)->b<w.heap.size/\(w0.heap.size<=b\/∀o,lo<=o->w0.E b o)
 below:GM F0 w0 w
 defers:a.defers=[]
 dom:∀s,a.tmps.size<=s->O.get s=.undef
 slots:∀s,s<a.tmps.size->AJ a w (AR w0.heap.size F0 G) G O s (O.get s) (slot a s)
 wf:∀s,(O.get s).WF
variable{s:Nat}{i:Option Nat}
theorem AM.low{F0:Nat->Nat->Prop}{w0:W0}{O:AB}{a:Act}{w:World}{G:BQ}(h:AM F0 w0 O a w G){b lo:Nat}(e:G s i=some (b,lo)):Y8<=b:=
 (h.lt _ _ _ _ e).2.elim (fun k=>Nat.le_trans h.below.tab.1.lt k) fun k=>h.below.tab.2 b lo (k lo (bk _))
def Bi(F0:Nat->Nat->Prop)(w0:W0)(O:AB)(a:Act)(w:World):Prop:=∃G,AM F0 w0 O a w G
theorem AB.ec(k:Nat)(e:EV)(O:AB)(n:Nat):AB.get ((k,e)::O) n=if k=n then e else O.get n:=rfl
theorem AB.get_map_keep(O:AB):∀(live:QQ)(n:Nat),AB.get (live.map fun s=>(s,O.get s)) n=if n∈live then O.get n else .undef
 |[],n=>by simp[AB.get]|s::live,n=>by
  simp [AB.get,AB.get_map_keep O live n]
  grind
theorem AB.AaI(O:AB)(live:QQ)(n:Nat):(O.fu live).get n=if n∈live then O.get n else .undef:=AB.get_map_keep O live n
variable{q:Nat}
theorem AB.Aav{O env':AB}(h:env'.get q=O.get q):env'.x8 q i=O.x8 q i:=by
 cases i<;>simp[AB.x8,h]
theorem AB.AaR{O:AB}(h:O.get q=.undef):O.x8 q i=none:=by
 cases i<;>simp[AB.x8,h]
variable{live:QQ}
theorem AB.xat_keep{O:AB}(h:∃p,(O.fu live).x8 q i=some p):∃p,O.x8 q i=some p:=by grind[AB.Aav,AB.AaI,AB.AaR]
variable{n:Nat}
theorem AB.t1{O:AB}{q k:Nat}{es:Fq}(h:O.x8 q (some k)=some (n,es)):∃cs,O.get q=.bx cs/\cs[k]?=some ⟨true,.xl n es⟩:=by grind[AB.x8,wi]
theorem AB.zt{O:AB}{es:Fq}(h:O.x8 q none=some (n,es)):O.get q=.xo n es:=by grind[AB.x8,wi]
theorem AB.AaC{O env':AB}{i:Nat}(h:env'.get q=O.get q):env'.nat q i=O.nat q i:=by
 simp [AB.nat,h]
theorem AB.nat_undef{O:AB}{i:Nat}(h:O.get q=.undef):O.nat q i=none:=by
 simp [AB.nat,h]
theorem AB.nat_keep{O:AB}{i:Nat}(h:∃p,(O.fu live).nat q i=some p):∃p,O.nat q i=some p:=by grind[AB.AaC,AB.AaI,AB.nat_undef]
theorem AB.x7{O:AB}{q k:Nat}{es:Fq}(h:O.nat q k=some es):∃cs,O.get q=.bx cs/\cs[k]?=some ⟨true,.xn es⟩:=by grind[AB.nat,wi]
variable{b o:Nat}
theorem AR.mono{base:Nat}{F0:Nat->Nat->Prop}{G j:BQ}(h:∀s i b lo,j s i=some (b,lo)->∃s' g f,G s' g=some (b,f)/\f<=lo)(hf:AR base F0 j b o):AR base F0 G b o:=by
 rcases hf with hf|⟨s,i,lo,r,u⟩
 .exact .inl hf
 .obtain⟨s',g,f,l,m⟩:=h s i b lo r;exact .inr ⟨s',g,f,l,Nat.le_trans m u⟩
theorem Bi.fu{F0:Nat->Nat->Prop}{w0:W0}{O:AB}{a:Act}{w:World}(h:Bi F0 w0 O a w)(live:QQ):Bi F0 w0 (O.fu live) a w:=by
 obtain ⟨G,g⟩:=h;refine⟨G,g.og,g.lt,g.below,g.defers,fun s l=>?_,fun s l=>?_,fun s=>?_⟩
 .rw[AB.AaI,g.dom s l];split<;>rfl
 .have:=g.slots s l;rw[AB.AaI];split
  .cases he:O.get s with
   |bp q r=>
    rw [he]at this;simp only[AJ]at this|-;rintro⟨cs,f⟩;rw[AB.AaI]at f;split at f
    .exact this ⟨cs,f⟩
    .cases f
   |undef=>trivial|sk=>rw[he]at this;exact this|tv t=>rw[he]at this;exact this|ow t=>rw[he]at this;exact this|bx cs=>rw[he]at this;exact this|tp ts=>rw[he]at this;exact this|xo n es=>rw[he]at this;exact this|oag cs=>rw[he]at this;exact this|xn es=>rw[he]at this;exact this|x1 n u=>rw[he]at this;exact this|mx m=>rw[he]at this;exact this|nh q i k=>
    rw [he]at this;simp only[AJ]at this|-;exact fun j=>this (AB.nat_keep j)
   |la q i=>
    rw [he]at this;simp only[AJ]at this|-;exact fun j=>this (AB.xat_keep j)
   |lp q i c=>
    rw [he]at this;simp only[AJ]at this|-;exact fun j=>this (AB.xat_keep j)
  .trivial
 .rw[AB.AaI];split
  .exact g.wf s
  .trivial
section own
variable{w w':World}{F F':Nat->Nat->Prop}{z:Option (Nat×Nat)}
variable{size:Nat}{v:Value}{n:Nat}
theorem FO.kept{xs:List Value}(h:FO w size v n xs z)(l:∀b lo,z=some (b,lo)->w'.heap[b]?=w.heap[b]?):FO w' size v n xs z:=by
 refine ⟨h.1,?_⟩;rcases h.2 with f|⟨g,cap,j,e,m,r,u,x,y,A,B⟩
 .exact .inl f
 grind
theorem IC.kept{xs:List Value}(h:IC w size v n xs z)(g:∀b lo,z=some (b,lo)->w'.heap[b]?=w.heap[b]?):IC w' size v n xs z:=by
 obtain ⟨l,m,f⟩:=h;exact⟨l,m.kept (fun b lo j=>g b 0 (by rw[f,j];rfl)),f⟩
variable{t:TV}
theorem Bj.kept(f:BW w w' F F')(h:Bj w F z t v)(g:∀b lo,z=some (b,lo)->w'.heap[b]?=w.heap[b]?):Bj w' F' z t v:=by
 cases t<;>simp[Bj]at h|-;obtain⟨xs,j,l,m⟩:=h;exact⟨xs,j.kept g,Av f _ _ l,m⟩
theorem Ot.kept{es:Fq}(f:BW w w' F F')(h:Ot w F z n es v)(g:∀b lo,z=some (b,lo)->w'.heap[b]?=w.heap[b]?):Ot w' F' z n es v:=by
 obtain ⟨xs,j,l,m⟩:=h;exact⟨xs,j.kept g,Av f _ _ l,m⟩
def BM(w w':World)(ρ:G7):Prop:=∀g j b lo,ρ g j=some (b,lo)->w'.heap[b]?=w.heap[b]?
variable{ρ:G7}
theorem BM.rfl'{w:World}:BM w w ρ:=fun _ _ _ _ _=>rfl
theorem Es.kept{es:Fq}(f:BW w w' F F')(h:Es w F ρ z es v)(l:∀b lo,z=some (b,lo)->w'.heap[b]?=w.heap[b]?)(m:BM w w' ρ):Es w' F' ρ z es v:=by
 obtain ⟨xs,y,A,B⟩:=h;refine⟨xs,y.kept l,A,fun j e r=>?_⟩;obtain⟨g,x,n,C,D,E,H,I⟩:=B j e r;exact⟨g,x,n,C,D,E,H,I.kept f (fun b lo u=>m g j b lo u)⟩
def UN(w w':World)(ρ:G7)(z:Option (Nat×Nat)):Prop:=∀g lo j b lo',z=some (g,lo)->ρ g j=some (b,lo')->w'.heap[b]?=w.heap[b]?
theorem BM.spot{w w':World}{z:Option (Nat×Nat)}(h:BM w w' ρ):UN w w' ρ z:=fun g _ j b f _ l=>h g j b f l
theorem Es.AbC{es:Fq}(l:BW w w' F F')(h:Es w F ρ z es v)(m:∀b lo,z=some (b,lo)->w'.heap[b]?=w.heap[b]?)(r:UN w w' ρ z):Es w' F' ρ z es v:=by
 obtain ⟨xs,A,B,C⟩:=h;refine⟨xs,A.kept m,B,fun j e u=>?_⟩;obtain⟨g,x,n,D,f,E,H,I⟩:=C j e u;exact⟨g,x,n,D,f,E,H,I.kept l (fun b lo y=>r g 0 j b lo f y)⟩
variable{ρ':G7}
theorem Es.rho{es:Fq}(h:Es w F ρ z es v)(m:∀g lo j,z=some (g,lo)->ρ' g j=ρ g j):Es w F ρ' z es v:=by
 obtain ⟨xs,f,l,u⟩:=h;refine⟨xs,f,l,fun j e r=>?_⟩
 grind
variable{c:AQ}
theorem BH.rho(h:BH w F ρ z c v)(f:∀g lo j,z=some (g,lo)->ρ' g j=ρ g j):BH w F ρ' z c v:=by
 obtain ⟨_|_,t⟩:=c
 .exact h
 .cases t<;>first|exact h|exact Es.rho h f
theorem Dy.kept(f:BW w w' F F')(h:Dy w F ρ z t v)(g:∀b lo,z=some (b,lo)->w'.heap[b]?=w.heap[b]?)(j:BM w w' ρ):Dy w' F' ρ z t v:=by
 cases t<;>simp[Dy]at h|- <;>first|exact Bj.kept f h g|exact Es.kept f h g j|skip
 obtain ⟨xs,l,m,r⟩:=h;exact⟨xs,l.kept g,Av f _ _ m,r⟩
theorem BH.kept(f:BW w w' F F')(h:BH w F ρ z c v)(g:∀b lo,z=some (b,lo)->w'.heap[b]?=w.heap[b]?)(j:BM w w' ρ):BH w' F' ρ z c v:=by
 obtain ⟨_|_,t⟩:=c
 .exact⟨B2 f _ _ h.1,h.2⟩
 .exact Dy.kept f h g j
theorem BH.AbC(f:BW w w' F F')(h:BH w F ρ z c v)(g:∀b lo,z=some (b,lo)->w'.heap[b]?=w.heap[b]?)(j:UN w w' ρ z):BH w' F' ρ z c v:=by
 obtain ⟨_|_,t⟩:=c
 .exact⟨B2 f _ _ h.1,h.2⟩
 .replace h:Dy w F ρ z t v:=h;show Dy w' F' ρ z t v;cases t<;>simp[Dy]at h|- <;>first|exact Bj.kept f h g|exact Es.AbC f h g j|skip
  obtain ⟨xs,l,m,r⟩:=h;exact⟨xs,l.kept g,Av f _ _ m,r⟩
end own
variable{v:Value}
theorem S0.kept{w w':World}{F F':Nat->Nat->Prop}{z z2:Option (Nat×Nat)}{m:MX}(B:BW w w' F F')(h:S0 w F z z2 m v)(l:∀b lo,z=some (b,lo)->w'.heap[b]?=w.heap[b]?)(u:∀b lo,z2=some (b,lo)->w'.heap[b]?=w.heap[b]?):S0 w' F' z z2 m v:=by
 cases m with
 |mp b y=>
  obtain ⟨j,f,g⟩:=h;exact⟨j,f,by unfold UL;rw[l _ _ f];exact g⟩
 |tm b y ts=>
  obtain ⟨vs,j,f,g,x⟩:=h;exact⟨vs,j,f,by unfold UL;rw[l _ _ f];exact g,Av B _ _ x⟩
 |mi last A=>
  obtain ⟨r,b,j,f,g,x⟩:=h;exact⟨r,b,j,f,g,by unfold dN;rw[l _ _ f,u _ _ g];exact x⟩
variable{s:Nat}{e:EV}
theorem AJ.kept'{a a':Act}{w w':World}{F F':Nat->Nat->Prop}{G L:BQ}{O env':AB}
  (r:BW w w' F F')(u:∀i,L s i=G s i)(y:∀i b lo,G s i=some (b,lo)->w'.heap[b]?=w.heap[b]?)
  (M:∀i g lo j,G s i=some (g,lo)->rho a' L g j=rho a G g j)(N:∀i,UN w w' (rho a G) (G s i))
  (P:∀q i k,e=.nh q i k->(∃p,env'.nat q i=some p)->(∃p,O.nat q i=some p)/\∀v,NH a w q i k v->NH a' w' q i k v)
  (Q:∀q B,e=.bp q B->(∃cs,env'.get q=.bx cs)->(∃cs,O.get q=.bx cs)/\slot a' q=slot a q)
  (H:∀q i,(e=.la q i\/∃c,e=.lp q i c)->(∃p,env'.x8 q i=some p)->(∃p,O.x8 q i=some p)/\∀v,XV a w q i v->XV a' w' q i v)
  (h:AJ a w F G O s e v):AJ a' w' F' L env' s e v:=by
 cases e with
 |undef=>trivial|sk=>exact h|tv t=>exact B2 r t v h|ow t=>
  simp [AJ]at h|-;rw[u];exact h.kept r (fun b lo=>y _ b lo)
 |bx cs=>
  simp only[AJ]at h|-;obtain⟨b,c,T,f,A,D,K,J⟩:=h;refine⟨b,c,T,f,by rw[y _ _ _ K];exact A,D,by rw[u];exact K,fun i d hd=>?_⟩;obtain⟨x,R,l⟩:=J i d hd;exact⟨x,R,by rw[u];exact(l.AbC r (fun b lo=>y _ b lo) (N _)).rho (fun g lo j I=>M _ g lo j I)⟩
 |bp q B=>
  simp only[AJ]at h|-;intro C;obtain⟨l,E⟩:=Q q B rfl C;rw[E];exact h l
 |tp ts=>
  simp [AJ]at h|-;obtain⟨vs,f,A⟩:=h;exact⟨vs,f,Av r _ _ A⟩
 |xo n es=>
  simp [AJ]at h|-;obtain⟨xs,f,A,D⟩:=h;rw[u];exact⟨xs,f.kept (fun b lo=>y _ b lo),Av r _ _ A,D⟩
 |oag cs=>
  simp [AJ]at h|-;obtain⟨vs,f,D,J⟩:=h;refine⟨vs,f,D,fun i d hd=>?_⟩;obtain⟨x,R,l⟩:=J i d hd;exact⟨x,R,by rw[u];exact(l.AbC r (fun b lo=>y _ b lo) (N _)).rho (fun g lo j I=>M _ g lo j I)⟩
 |xn es=>
  simp [AJ]at h|-;rw[u];exact(h.AbC r (fun b lo=>y _ b lo) (N _)).rho (fun g lo j I=>M _ g lo j I)
 |x1 n U=>
  simp only[AJ]at h|-;obtain⟨g,cap,x,f,A,D,K,J,S⟩:=h;rw[u];have:=r g 0 x D K;exact⟨g,cap,x,f,A,this.1,this.2,J,S.kept r (fun b lo=>y _ b lo)⟩
 |mx m=>
  simp [AJ]at h|-;rw[u,u];exact h.kept r (fun b lo=>y _ b lo) (fun b lo=>y _ b lo)
 |nh q i k=>
  simp only[AJ]at h|-;intro C;obtain⟨l,E⟩:=P q i k rfl C;exact E _ (h l)
 |la q i=>
  simp only[AJ]at h|-;intro C;obtain⟨l,E⟩:=H q i (.inl rfl) C;exact E _ (h l)
 |lp q i c=>
  simp only[AJ]at h|-;intro C;obtain⟨l,E⟩:=H q i (.inr ⟨c,rfl⟩) C;obtain⟨g,len,cap,f,A⟩:=h l;exact⟨g,len,cap,E _ f,A⟩
theorem AJ.kept{a a':Act}{w w':World}{F F':Nat->Nat->Prop}{G f:BQ}{O env':AB}
  (x:BW w w' F F')(y:∀i,f s i=G s i)(A:∀i b lo,G s i=some (b,lo)->w'.heap[b]?=w.heap[b]?)
  (B:rho a' f=rho a G)(C:BM w w' (rho a G))
  (l:∀q i k,e=.nh q i k->(∃p,env'.nat q i=some p)->(∃p,O.nat q i=some p)/\∀v,NH a w q i k v->NH a' w' q i k v)
  (m:∀q u,e=.bp q u->(∃cs,env'.get q=.bx cs)->(∃cs,O.get q=.bx cs)/\slot a' q=slot a q)
  (r:∀q i,(e=.la q i\/∃c,e=.lp q i c)->(∃p,env'.x8 q i=some p)->(∃p,O.x8 q i=some p)/\∀v,XV a w q i v->XV a' w' q i v)
  (h:AJ a w F G O s e v):AJ a' w' F' f env' s e v:=
 AJ.kept' x y A (fun _ g _ j _=>by rw[B]) (fun _=>BM.spot C) l m r h
variable{q:Nat}{i:Option Nat}
theorem AM.xv{F0:Nat->Nat->Prop}{w0:W0}{O:AB}{a a':Act}{w w':World}{G:BQ}(h:AM F0 w0 O a w G)(x:∃p,O.x8 q i=some p)(m:slot a' q=slot a q)(y:∀b,G q none=some (b,0)->w'.heap[b]?=w.heap[b]?):∀v,XV a w q i v->XV a' w' q i v:=by
 intro v hv;cases i with
 |none=>exact hv.trans m.symm|some k=>
  obtain ⟨⟨n,es⟩,A⟩:=x;obtain⟨cs,g,_⟩:=AB.t1 A;obtain⟨b,c,T,u,B,C⟩:=hv;have f:q<a.tmps.size:=by
   rcases Nat.lt_or_ge q a.tmps.size with l|l
   .exact l
   .rw[h.dom q l]at g;cases g
  have r:=h.slots q f;rw[g]at r;obtain⟨E,c',H,j,I,_,D,_⟩:=r;rw[u]at j;simp at j;subst j;exact⟨b,c,T,by rw[m,u],by rw[y b D];exact B,C⟩
theorem NK.at.kept{w w':World}{x:Value}{k:NK}(h:k.at w x v)(u:∀g len cap,x=.slice (some ⟨g,0,none⟩) len cap->w'.heap[g]?=w.heap[g]?):k.at w' x v:=by
 have m:∀g len cap,x=.slice (some ⟨g,0,none⟩) len cap->∀j,w'.cell? ⟨g,j,none⟩=w.cell? ⟨g,j,none⟩:=fun g len cap e j=>World.cell?_of_block (w:=w) (w':=w') (a:=⟨g,j,none⟩) (u g len cap e);cases k with
 |hd=>exact h|el j=>exact h|rw j=>obtain⟨g,len,cap,e,h⟩:=h;exact⟨g,len,cap,e,by rw[m _ _ _ e];exact h⟩
 |rp j p=>obtain⟨g,len,cap,e,r,f,l,h,y⟩:=h;exact⟨g,len,cap,e,r,f,l,by rw[m _ _ _ e];exact h,y⟩
theorem NH.kept{a a':Act}{w w':World}{q i:Nat}{k:NK}(h:NH a w q i k v)(m:slot a' q=slot a q)(r:∀b,slot a q=.pointer (some ⟨b,0,none⟩)->w'.heap[b]?=w.heap[b]?)
  (u:∀b c T g len cap,slot a q=.pointer (some ⟨b,0,none⟩)->w.heap[b]?=some (.cells c T (0,0))->c[i]?=some (.slice (some ⟨g,0,none⟩) len cap)->w'.heap[g]?=w.heap[g]?):NH a' w' q i k v:=by
 obtain ⟨b,c,T,x,f,j,l,y⟩:=h;exact⟨b,c,T,x,by rw[m];exact f,by rw[r b f];exact j,l,y.kept fun g len cap e=>u b c T g len cap f j (by rw[l,e])⟩
variable{ρ:G7}
theorem Es.nil_or{w:World}{F:Nat->Nat->Prop}{z:Option (Nat×Nat)}{es:Fq}{g len cap:Nat}(h:Es w F ρ z es (.slice (some ⟨g,0,none⟩) len cap)):z=some (g,0):=by
 obtain ⟨xs,⟨m,j,r⟩,_⟩:=h;rcases j.2 with⟨e,_⟩|⟨u,f,l,e,x,_,_,_,_,_,y⟩
 .cases e
 grind
theorem AM.lts{F0:Nat->Nat->Prop}{w0:W0}{O:AB}{a:Act}{w:World}{G:BQ}(h:AM F0 w0 O a w G)(g:O.get q≠.undef):q<a.tmps.size:=by
 rcases Nat.lt_or_ge q a.tmps.size with f|f
 .exact f
 .exact absurd (h.dom q f) g
theorem AM.nh{F0:Nat->Nat->Prop}{w0:W0}{O:AB}{a a':Act}{w w':World}{G:BQ}(h:AM F0 w0 O a w G){q i:Nat}{k:NK}(y:∃p,O.nat q i=some p)(A:slot a' q=slot a q)(B:∀j b,(j=none\/j=some i)->G q j=some (b,0)->w'.heap[b]?=w.heap[b]?):∀v,NH a w q i k v->NH a' w' q i k v:=by
 intro v hv;obtain⟨es,I⟩:=y;obtain⟨cs,r,J⟩:=AB.x7 I;have m:=h.slots q (h.lts (by rw[r];simp));rw[r]at m;obtain⟨M,c',N,f,u,_,P,K⟩:=m;refine hv.kept A (fun b C=>?_) (fun b c T g len cap D E H=>?_)
 .grind
 .rw[D]at f;simp at f;subst f;rw[E]at u;cases u;obtain⟨x,l,L⟩:=K i _ J;rw[H]at l;simp at l;subst l;exact B (some i) g (.inr rfl) (Es.nil_or L)
theorem AM.AbQ{F0:Nat->Nat->Prop}{w0:W0}{O:AB}{a:Act}{w:World}{G:BQ}(h:AM F0 w0 O a w G)(u:s<a.tmps.size){b lo g j l f:Nat}(m:G s i=some (b,lo))(r:rho a G g j=some (l,f)):l≠b:=by
 rintro rfl;have:=(h.og _ _ _ _ _ _ _ m r).1;omega
theorem LI{a a':Act}{G f:BQ}(g:a'.tmps.size=a.tmps.size)(h:∀s,a.tmps.size<=s->f s=G s):rho a' f=rho a G:=by grind[rho]
theorem CY(a:Act)(d:Nat)(v:Value)(h:d<a.tmps.size):slot (a.put (some d) v) d=v:=by
 simp [slot,Act.put,Array.getD_eq_getD_getElem?,h]
theorem AT(a:Act)(d s:Nat)(v:Value)(h:d≠s):slot (a.put (some d) v) s=slot a s:=by
 simp [slot,Act.put,Array.getD_eq_getD_getElem?,Array.getElem?_setIfInBounds,h]
theorem BY(a:Act)(d:Option Nat)(v:Value):(a.put d v).tmps.size=a.tmps.size:=by
 cases d<;>simp[Act.put]
theorem EM(a:Act)(d:Option Nat)(v:Value):(a.put d v).defers=a.defers:=by
 cases d<;>simp[Act.put]
def Oq(a:Act)(d:Nat)(a':Act):Prop:=∃v,a'=a.put (some d) v
structure Jn(N:Nat)(p:Option (Nat×Value))(a:Act):Prop where
 size:a.tmps.size=N
 pin:∀i v,p=some (i,v)->slot a i=v
variable{d:Nat}
theorem Jn.put{N:Nat}{p:Option (Nat×Value)}{a a':Act}(h:Jn N p a)(hd:∀i v,p=some (i,v)->some d≠some i)(k:Oq a d a'):Jn N p a':=by
 obtain ⟨v,rfl⟩:=k;exact⟨by rw[BY];exact h.size,fun i u f=>by rw[AT _ _ _ _ (fun e=>hd i u f (by rw[e]))];exact h.pin i u f⟩
theorem OP(w:World)(F:Nat->Nat->Prop):BW w w F F:=fun _ _ _ f g=>⟨f,g⟩
variable{t:TV}
theorem AM.rem{F0:Nat->Nat->Prop}{w0:W0}{O env':AB}{a:Act}{w:World}{G:BQ}(h:AM F0 w0 O a w G)(s:Nat)(A:s<a.tmps.size)(m:AX w (AR w0.heap.size F0 G) t (slot a s))(x:t.WF)
  (l:∀n,env'.get n=O.get n\/(n=s/\env'.get n=.tv t)):AM F0 w0 env' a w G:=by
 refine ⟨h.og,h.lt,h.below,h.defers,fun q u=>?_,fun q u=>?_,fun q=>?_⟩
 .rcases l q with e|⟨rfl,_⟩
  .rw[e];exact h.dom q u
  .omega
 .rcases l q with e|⟨rfl,e⟩
  .rw[e];refine AJ.kept (OP _ _) (fun _=>rfl) (fun _ _ _ _=>rfl) rfl BM.rfl' (fun r i k m⟨p,g⟩=>?_) (fun r y m⟨cs,j⟩=>?_) (fun r i m⟨p,g⟩=>?_) (h.slots q u)
   .rcases l r with f|⟨_,f⟩
    .rw[AB.AaC f]at g;exact⟨⟨p,g⟩,fun _ hv=>hv⟩
    .simp only[AB.nat,f]at g;cases g
   .rcases l r with f|⟨_,f⟩
    .rw[f]at j;exact⟨⟨cs,j⟩,rfl⟩
    .rw[f]at j;cases j
   .rcases l r with f|⟨_,f⟩
    .rw[AB.Aav f]at g;exact⟨⟨p,g⟩,fun _ hv=>hv⟩
    .cases i<;>simp[AB.x8,f]at g<;>cases g
  .rw[e];exact m
 .rcases l q with e|⟨_,e⟩
  .rw[e];exact h.wf q
  .rw[e];exact x
end Go.Sf
namespace Go.Sf
open Go.RowKit (Below)
theorem AB.Aag(d:Nat):∀(O:AB),O.jj d=true->∀s,(O.get s).ref≠some d
 |[],_,s=>by simp[AB.get,EV.ref]|(k,e)::r,f,s=>by
  simp [AB.jj]at f;rw[AB.ec];split
  .grind[EV.noR]
  .exact AB.Aag d r f.2 s
theorem AB.Aa6(d:Nat)(O:AB)(h:O.jj d=true)(s:Nat):(∀i,O.get s≠.la d i)/\∀i c,O.get s≠.lp d i c:=
 ⟨fun i e=>AB.Aag d O h s (by rw[e];rfl),fun i c e=>AB.Aag d O h s (by rw[e];rfl)⟩
theorem AB.AaZ(d:Nat)(O:AB)(h:O.jj d=true)(s f:Nat):O.get s≠.bp d f:=
 fun e=>AB.Aag d O h s (by rw[e];rfl)
variable{d:Nat}{e:EV}{i:Option Nat}{p:Nat×Fq}
theorem AB.Aa7{O:AB}(h:AB.x8 ((d,e)::O) d i=some p):(∃cs,e=.bx cs)\/(∃n es,e=.xo n es):=by
 obtain ⟨n,es⟩:=p;cases i with
 |none=>have:=AB.zt h;rw[AB.ec,az rfl]at this;exact .inr ⟨n,es,this⟩|some k=>obtain⟨cs,f,_⟩:=AB.t1 h;rw[AB.ec,az rfl]at f;exact .inl ⟨cs,f⟩
variable{q:Nat}
theorem AB.x5{O:AB}(f:∀cs,e≠.bx cs)(g:∀n es,e≠.xo n es)(h:AB.x8 ((d,e)::O) q i=some p):d≠q/\O.x8 q i=some p:=by grind[AB.Aa7,AB.Aav,AB.ec]
theorem AB.Aaq{O:AB}(h:d≠q):AB.x8 ((d,e)::O) q i=O.x8 q i:=by grind[AB.Aav,AB.ec]
variable{s:Nat}{k:Option Nat}
theorem AB.noXs_iff:∀{O:AB}{z:QQ},AB.AbY s k z O=true↔∀p,p∉z->(O.get p).noC s k=true
 |[],z=>by simp[AB.AbY,AB.get,EV.noC]|(q,e)::r,z=>by
  simp [AB.AbY,zzX,AB.noXs_iff (O:=r)]
  grind [AB.ec]
theorem AB.Abk{O:AB}:O.noX s k=true↔∀p,(O.get p).noC s k=true:=
 AB.noXs_iff.trans ⟨fun h p=>h p (by simp),fun h p _=>h p⟩
theorem AB.noX_all{s k:Nat}{O:AB}(f:O.noX s none=true):O.noX s (some k)=true:=by
 rw [AB.Abk]at f|-;intro p;have h:=f p;generalize O.get p=e at h|-;cases e<;>try rfl
 .rename_i q i;cases i with
  |none=>rfl|some i=>simp[EV.noC]at h;simp[EV.noC,h]
 .rename_i q i c;cases i with
  |none=>rfl|some i=>simp[EV.noC]at h;simp[EV.noC,h]
 .rename_i q i c;simp[EV.noC]at h;simp[EV.noC,h]
theorem AB.noX_ref{O:AB}(f:O.jj s=true):O.noX s none=true:=by
 rw [AB.Abk];intro p;have h:=AB.Aag s O f p;generalize O.get p=e at h|-;cases e<;>try rfl
 .rename_i q i;cases i with
  |none=>rfl|some i=>simp[EV.noC,bne_iff_ne];exact fun e=>h (by rw[e];rfl)
 .rename_i q i c;cases i with
  |none=>rfl|some i=>simp[EV.noC,bne_iff_ne];exact fun e=>h (by rw[e];rfl)
 .rename_i q i c;simp[EV.noC,bne_iff_ne];exact fun e=>h (by rw[e];rfl)
theorem AB.noX_nh{O:AB}(f:O.noX s k=true)(p j:Nat)(g:k=none\/k=some j)(c:NK):O.get p≠.nh s j c:=by grind[AB.Abk,EV.noC]
theorem AB.Abq(d:Nat)(O:AB)(h:O.jj d=true)(s:Nat):∀i c,O.get s≠.nh d i c:=
 fun i c e=>AB.Aag d O h s (by rw[e];rfl)
theorem AB.AaP{O:AB}{d i:Nat}{p:Fq}(h:AB.nat ((d,e)::O) d i=some p):∃cs,e=.bx cs:=by grind[AB.x7,AB.ec]
theorem AB.Aaf{O:AB}{d q i:Nat}{p:Fq}(f:∀cs,e≠.bx cs)(h:AB.nat ((d,e)::O) q i=some p):d≠q/\O.nat q i=some p:=by grind[AB.AaP,AB.AaC,AB.ec]
theorem AB.Aat{O:AB}{d q i:Nat}(h:d≠q):AB.nat ((d,e)::O) q i=O.nat q i:=by grind[AB.AaC,AB.ec]
theorem AB.noX_spec{O:AB}(f:O.noX s k=true)(p j:Nat)(g:k=none\/k=some j):O.get p≠.la s (some j)/\∀c,O.get p≠.lp s (some j) c:=by grind[AB.Abk,EV.noC]
def IZ(G:BQ)(d:Nat)(zd:Option Nat->Option (Nat×Nat)):BQ:=fun s=>if s=d then zd else G s
theorem Bx(G:BQ)(d:Nat)(f:Option Nat->Option (Nat×Nat)):IZ G d f d=f:=by simp[IZ]
theorem BJ(G:BQ)(d s:Nat)(f:Option Nat->Option (Nat×Nat))(h:s≠d):IZ G d f s=G s:=by simp[IZ,h]
section
variable{F0:Nat->Nat->Prop}{w0:W0}{O:AB}{a:Act}{w:World}{G:BQ}
theorem JO{w':World}(u:Below w.heap.size w w')(d:Nat)(l:Option Nat->Option (Nat×Nat))(x:∀i b lo,l i=some (b,lo)->w.heap.size<=b):
  BW w w' (AR w0.heap.size F0 G) (AR w0.heap.size F0 (IZ G d l)):=by
 intro b o v m hf;have j:b<w.heap.size:=World.block_lt_of_cell? w ⟨b,o,none⟩ m;refine⟨by rw[u.cell (p:=⟨b,o,none⟩) j];exact m,fun g=>hf ?_⟩;rcases g with h|⟨s,i,lo,f,y⟩
 .exact .inl h
 .by_cases r:s=d
  .subst r;rw[Bx]at f;have:=x i b lo f;omega
  .rw[BJ _ _ _ _ r]at f;exact .inr ⟨s,i,lo,f,y⟩
theorem AM.Abc{w':World}(h:AM F0 w0 O a w G)(f:Below w.heap.size w w'):BM w w' (rho a G):=by
 intro g j b lo l;exact f.block b (h.lt _ _ _ _ l).1
theorem AM.quiet{w':World}(h:AM F0 w0 O a w G)(C:Below w.heap.size w w')(d:Nat)(hd:d<a.tmps.size)(e:EV)(v:Value)
  (D:Option Nat->Option (Nat×Nat))(K:∀i b lo,D i=some (b,lo)->w.heap.size<=b/\b<w'.heap.size)(L:∀i H b lo l,D i=some (b,lo)->D H=some (b,l)->i=H)
  (E:(∃cs,e=.bx cs)\/(∃n es,e=.xo n es)->O.jj d=true)
  (J:AJ (a.put (some d) v) w' (AR w0.heap.size F0 (IZ G d D)) (IZ G d D) ((d,e)::O) d e v)(M:e.WF):
  AM F0 w0 ((d,e)::O) (a.put (some d) v) w' (IZ G d D):=by
 have P:=JO (F0:=F0) (w0:=w0) (G:=G) C d D (fun i b lo h=>(K i b lo h).1);refine⟨?_,?_,h.below.go C,by rw[EM];exact h.defers,?_,?_,?_⟩
 .intro s i s' H b lo l m B;by_cases g:s=d<;>by_cases y:s'=d
  .subst g;subst y;rw[Bx]at m B;exact⟨rfl,L i H b lo l m B⟩
  .subst g;rw[Bx]at m;rw[BJ _ _ _ _ y]at B;have:=(K i b lo m).1;have:=(h.lt s' H b l B).1;omega
  .subst y;rw[Bx]at B;rw[BJ _ _ _ _ g]at m;have:=(K H b l B).1;have:=(h.lt s i b lo m).1;omega
  .rw[BJ _ _ _ _ g]at m;rw[BJ _ _ _ _ y]at B;exact h.og s i s' H b lo l m B
 .intro s i b lo m;by_cases g:s=d
  .subst g;rw[Bx]at m;have:=K i b lo m;exact⟨this.2,.inl (Nat.le_trans h.below.size this.1)⟩
  .rw[BJ _ _ _ _ g]at m;have:=h.lt s i b lo m;exact⟨Nat.lt_of_lt_of_le this.1 C.size,this.2⟩
 .intro s g;rw[BY]at g;rw[AB.ec,b6 (by omega)];exact h.dom s g
 .intro s g;rw[BY]at g;rw[AB.ec];by_cases A:d=s
  .subst A;rw[az rfl,CY _ _ _ hd];exact J
  .rw[b6 A,AT _ _ _ _ A];refine AJ.kept P (fun i=>by rw[BJ _ _ _ _ (fun e=>A e.symm)]) (fun i b lo R=>C.block b (h.lt s i b lo R).1) (LI (BY _ _ _) (fun s g=>BJ _ _ _ _ (by omega))) (h.Abc C) (fun q i k u⟨p,x⟩=>?_) (fun q N u⟨cs,r⟩=>?_) (fun q i u⟨p,x⟩=>?_) (h.slots s g)
   .by_cases f:d=q
    .subst f;exact absurd u (AB.Abq d O (E (.inl (AB.AaP x))) s i k)
    .rw[AB.Aat f]at x;exact⟨⟨p,x⟩,h.nh ⟨p,x⟩ (AT _ _ _ _ f) (fun j b _ I=>C.block b (h.lt _ _ _ _ I).1)⟩
   .rw[AB.ec]at r;by_cases f:d=q
    .subst f;rw[az rfl]at r;exact absurd u (AB.AaZ d O (E (.inl ⟨cs,r⟩)) s N)
    .rw[b6 f]at r;exact⟨⟨cs,r⟩,AT _ _ _ _ f⟩
   .by_cases f:d=q
    .subst f;have Q:=AB.Aa6 d O (E (AB.Aa7 x)) s;rcases u with u|⟨c,u⟩
     .exact absurd u (Q.1 i)
     .exact absurd u (Q.2 i c)
    .rw[AB.Aaq f]at x;exact⟨⟨p,x⟩,h.xv ⟨p,x⟩ (AT _ _ _ _ f) (fun b I=>C.block b (h.lt _ _ _ _ I).1)⟩
 .intro s;rw[AB.ec];split
  .exact M
  .exact h.wf s
theorem AM.tv{w':World}(h:AM F0 w0 O a w G)(j:Below w.heap.size w w')(d:Nat)(hd:d<a.tmps.size)(t:TV)(v:Value)
  (f:AX w' (AR w0.heap.size F0 (IZ G d fun _=>none)) t v)(g:t.WF):
  Bi F0 w0 ((d,.tv t)::O) (a.put (some d) v) w':=
 ⟨_,h.quiet j d hd (.tv t) v (fun _=>none) (by simp) (by simp) (by simp) f g⟩
theorem AM.tv_same(h:AM F0 w0 O a w G)(d:Nat)(hd:d<a.tmps.size)(t:TV)(v:Value)
  (f:AX w (AR w0.heap.size F0 G) t v)(g:t.WF):
  Bi F0 w0 ((d,.tv t)::O) (a.put (some d) v) w:=
 h.tv (Below.refl _ _) d hd t v (B2 (JO (Below.refl _ _) d _ (by simp)) t v f) g
theorem AM.ow{w':World}(h:AM F0 w0 O a w G)(m:Below w.heap.size w w')(d:Nat)(hd:d<a.tmps.size)(t:TV)(v:Value)(z:Option (Nat×Nat))
  (r:∀b lo,z=some (b,lo)->w.heap.size<=b/\b<w'.heap.size)
  (f:Bj w' (AR w0.heap.size F0 (IZ G d fun i=>if i=none then z else none)) z t v)(g:t.WF):
  Bi F0 w0 ((d,.ow t)::O) (a.put (some d) v) w':=by
 refine ⟨_,h.quiet m d hd (.ow t) v (fun i=>if i=none then z else none) (fun i b lo hi=>?_) (fun i x b lo u j l=>?_) (by simp) ?_ g⟩
 .split at hi
  .exact r b lo hi
  .cases hi
 .split at j
  .split at l
   .simp_all
   .cases l
  .cases j
 .simp[AJ,Bx];exact f
end
section reads
variable{w:World}{F:Nat->Nat->Prop}
theorem Tb(n:Nat):∀(es:Fq)(b o:Nat),(∀e∈es,e.cells.length=n)->Cu w F (es.flatMap TV.cells) b o->Ef w F n es b o
 |[],_,_,_,_=>trivial|e::es,b,o,f,h=>by
  rw [OZ];have he:e.cells.length=n:=f e (by simp);rw[List.flatMap_cons]at h;refine⟨by have:=Zh h e.cells.length;simpa using this,he,Tb n es b (o+n) (fun x g=>f x (by simp[g])) ?_⟩;have:=Nh h e.cells.length
  grind
theorem NU(n:Nat):∀(es:Fq),(∀e∈es,e.cells.length=n)->(es.flatMap TV.cells).length=es.length*n
 |[],_=>by simp|e::es,f=>by
  rw [List.flatMap_cons,cE,NU n es (fun x g=>f x (by simp[g])),f e (by simp),ci,Nat.add_mul,Nat.one_mul,Nat.add_comm]
variable{b o:Nat}
theorem Pm{ts:Fq}{xs:List Value}(h:AL w F ts xs)(g:∀x∈xs,x.oneCell'=true)(j:∀(i:Nat)(x:Value),xs[i]?=some x->w.cell? ⟨b,o+i,none⟩=some x/\¬F b (o+i)):Cu w F ts b o:=by
 rw [Hi];rw[BX]at h;intro i t hi;have f:i<ts.length:=by
  grind
 have l:xs[i]?=some xs[i]:=List.getElem?_eq_getElem (by omega)
 grind
variable{size:Nat}{v:Value}{n:Nat}
theorem FO.cell{xs:List Value}{z:Option (Nat×Nat)}{g cap:Nat}(h:FO w size v n xs z)(hv:v=.slice (some ⟨g,0,none⟩) n cap):∀(j:Nat)(u:Value),xs[j]?=some u->w.cell? ⟨g,j,none⟩=some u:=by
 intro j u y;rcases h.2 with⟨rfl,_⟩|⟨r,m,f,e,rfl,x,_,_,_,l,_⟩
 .cases hv
 .simp only[Value.slice.injEq,wi,Addr.mk.injEq]at hv;obtain⟨⟨rfl,_⟩,_⟩:=hv;rw[cell_of_row w r j f e (0,0) x]
  grind
variable{t:TV}
theorem Bj.rep{z:Option (Nat×Nat)}(h:Bj w F z t v)(u:∀b lo o,z=some (b,lo)->o<lo->¬F b o):AX w F t v:=by
 cases t<;>simp[Bj]at h;rename_i n es;obtain⟨xs,m,A,B,C⟩:=h;simp[AX];rcases m.2 with⟨rfl,J,r⟩|⟨g,cap,D,e,rfl,K,j,E,H,l,r⟩
 .grind
 .refine⟨some ⟨g,0,none⟩,cap,rfl,j,by simp,fun I f=>?_⟩;simp at f;subst f;refine⟨.inr rfl,Tb n es g 0 B (Pm A C fun i x y=>?_)⟩;rw[Nat.zero_add];refine⟨m.cell rfl i x y,u g _ i r ?_⟩
  grind
variable{ρ:G7}
theorem Dy.rep{z:Option (Nat×Nat)}(h:Dy w F ρ z t v)(f:∀b lo o,z=some (b,lo)->o<lo->¬F b o):AX w F t v:=by
 cases t<;>first|exact Bj.rep h f|skip
 all_goals
  obtain ⟨xs,⟨m,j,_⟩,_⟩:=h;simp[AX];rcases j.2 with⟨rfl,_⟩|⟨g,cap,l,e,rfl,_⟩<;>rfl
end reads
end Go.Sf
