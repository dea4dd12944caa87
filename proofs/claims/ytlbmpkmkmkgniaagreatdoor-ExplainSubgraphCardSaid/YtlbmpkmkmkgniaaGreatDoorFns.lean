/- The functions of the program as Lean functions. -/
import Derived.Test.YtlbmpkmkmkgniaaGreatDoorTypes
import Derived.Test.YtlbmpkmkmkgniaaGreatDoorSfText
set_option linter.all false
set_option maxRecDepth 100000
namespace Go.Sf.Sc
open Go Go.Sf
noncomputable section
def slices_Equal_int (a:Ne) (b:Ne):ca:=
 if (!decide ((a.length:Int)=(b.length:Int))) then
 some false
 else
 thenR (forR (ρ:=Bool) (fun (i0:Int) (_:Unit)=>
 (AK a i0).bind fun c=>
 (AK b i0).bind fun d=>
 if (!decide (c=d)) then
 some (.ret false)
 else
 some (.next ())) 0 (a.length:Int) ()) (fun _=>
 some true) (fun v0=>some v0)
def Kq (c:Int):ca:=
 some (((decide (97<=c))&&(decide (c<=122)))||((decide (65<=c))&&(decide (c<=90))))
def II [Ev] (a:ByteArray) (e:Int->ca):dD:=
 thenR (If (ρ:=Int) (fun (s0:Int)=>
 (if (decide (s0<(a.size:Int))) then ((sidx a s0).bind fun b=>
 (e b).bind fun c=>
 some (c)) else some false).bind fun d=>
 if d then
 some (.next (A6 (s0+1)))
 else
 some (.brk s0)) 0) (fun s0=>
 some s0) (fun v0=>some v0)
def KH (c:Int):ca:=
 some ((decide (48<=c))&&(decide (c<=57)))
def MS (c:Int):ca:=
 (Kq c).bind fun a=>
 (if a then some true else ((KH c).bind fun b=>
 some (b))).bind fun d=>
 some (d||(decide (c=95)))
def Kz (c:Int):ca:=
 some (((decide (32<=c))&&(decide (c<=126)))&&(!decide (c=34)))
def Hv [Ev] (a:ByteArray):Option (Int × Int):=
 (sslc a 1 a.size).bind fun e=>
 (II e Kz).bind fun b=>
 (if (decide ((A6 (1+b))=(a.size:Int))) then some true else ((sidx a (A6 (1+b))).bind fun c=>
 some (!decide (c=34)))).bind fun d=>
 if d then
 some (0,2)
 else
 if (decide (60<b)) then
 some (0,3)
 else
 some (A6 (b+2),0)
def slices_Index_string (a:List ByteArray) (c:ByteArray):dD:=
 thenR (forR (ρ:=Int) (fun (i0:Int) (_:Unit)=>
 (AK a i0).bind fun b=>
 if (c==b) then
 some (.ret i0)
 else
 some (.next ())) 0 (a.length:Int) ()) (fun _=>
 some (-1)) (fun v0=>some v0)
def slices_Contains_string (b:List ByteArray) (a:ByteArray):ca:=
 (slices_Index_string b a).bind fun c=>
 some (decide (0<=c))
def MR (a:ByteArray):ca:=
 (if (decide (2<=(a.size:Int))) then ((sslc a 0 2).bind fun d=>
 (slices_Contains_string [(⟨#[45,62]⟩:ByteArray),(⟨#[60,61]⟩:ByteArray),(⟨#[62,61]⟩:ByteArray),(⟨#[61,61]⟩:ByteArray),(⟨#[33,61]⟩:ByteArray)] d).bind fun b=>
 some (b)) else some false).bind fun c=>
 some c
def strings_IndexByte (s:ByteArray) (c:Int):dD:=some (Go.Lib.indexByte s.data.toList c.toNat.toUInt8)
def I6 [Ev] (a:ByteArray):Option (Int × Int × Int):=
 (sidx a 0).bind fun b=>
 (Kq b).bind fun f=>
 if f then
 (II a MS).bind fun c=>
 if (decide (20<c)) then
 some (0,0,3)
 else
 some (1,c,0)
 else
 (KH b).bind fun g=>
 if g then
 (II a KH).bind fun d=>
 if (decide (9<d)) then
 some (0,0,3)
 else
 some (2,d,0)
 else
 if (decide (b=34)) then
 (Hv a).bind fun e=>
 some (3,e.1,e.2)
 else
 (MR a).bind fun h=>
 if h then
 some (4,2,0)
 else
 (strings_IndexByte (⟨#[123,125,40,41,91,93,44,59,58,61,43,45,42,60,62,33,38,124,46,63]⟩:ByteArray) b).bind fun i=>
 if (decide (0<=i)) then
 some (4,1,0)
 else
 some (0,0,2)
def JH [Ev] (t:F3):Option (ByteArray × Bool):=
 (if (decide (t.Kind=3)) then
 (MN (⟨#[34]⟩:ByteArray) t.Text).bind fun b=>
 (MN b (⟨#[34]⟩:ByteArray)).bind fun c=>
 some c
 else
 some t.Text).bind fun w1=>
 if (w1==(⟨#[]⟩:ByteArray)) then
 some ((⟨#[]⟩:ByteArray),false)
 else
 (I6 w1).bind fun a=>
 some (w1,((decide (a.2.2=0))&&(decide (a.1=t.Kind)))&&(decide (a.2.1=(w1.size:Int))))
def E6 [Ev] (a:ByteArray):ca:=
 (JH (F3.mk 1 a 0)).bind fun b=>
 some b.2
def D4 [Ev] (a:List CP) (f:CP->ca):dD:=
 thenR (forR (ρ:=Int) (fun (i0:Int) (_:Unit)=>
 (AK a i0).bind fun b=>
 (f b).bind fun c=>
 if c then
 some (.ret i0)
 else
 some (.next ())) 0 (a.length:Int) ()) (fun _=>
 some (-1)) (fun v0=>some v0)
def C6 [Ev] (a:List CP) (f:CP->ca):ca:=
 (D4 a f).bind fun b=>
 some (decide (0<=b))
def MU (m:CP) (a:CP):ca:=
 some (m.Name==a.Name)
def EC [Ev]:Nat->AD->Int->Option (List Attr)
 | 0,_,_=>none
 | n+1,t,a=>
  (AK t.Nodes a).bind fun b=>
  (if (decide (0<=b.Parent)) then
  (EC n t b.Parent).bind fun c=>
  some c
  else
  some []).bind fun w1=>
  (AK t.Nodes a).bind fun d=>
  (B9 w1 d.Attrs).bind fun e=>
  some e
def KI [Ev] (t:AD) (a:Int):Option (List Attr):=Hq fun n=>EC n t a
def EZ [Ev] (a:List Attr) (f:Attr->ca):dD:=
 thenR (forR (ρ:=Int) (fun (i0:Int) (_:Unit)=>
 (AK a i0).bind fun b=>
 (f b).bind fun c=>
 if c then
 some (.ret i0)
 else
 some (.next ())) 0 (a.length:Int) ()) (fun _=>
 some (-1)) (fun v0=>some v0)
def DV [Ev] (a:List Attr) (f:Attr->ca):ca:=
 (EZ a f).bind fun b=>
 some (decide (0<=b))
def JQ (y:Attr) (a:Attr):ca:=
 some (y.Name==a.Name)
def IK [Ev] (l:List ByteArray):dD:=
 if (decide (20<(l.length:Int))) then
 some 3
 else
 thenR (forR (ρ:=Int) (fun (i0:Int) (_:Unit)=>
 (AK l i0).bind fun a=>
 (E6 a).bind fun b=>
 if (!b) then
 some (.ret 2)
 else
 (slc l 0 i0).bind fun c=>
 (slices_Contains_string c a).bind fun d=>
 if d then
 some (.ret 5)
 else
 some (.next ())) 0 (l.length:Int) ()) (fun _=>
 some 0) (fun v0=>some v0)
def FX [Ev] (a:Attr) (b:List Attr):dD:=
 (E6 a.Name).bind fun d=>
 if (!d) then
 some 2
 else
 (DV b (fun y0=>JQ y0 a)).bind fun e=>
 if e then
 some 5
 else
 (IK a.Names).bind fun c=>
 if (!decide (c=0)) then
 some c
 else
 (if (decide (0<(a.Names.length:Int))) then
 some ((decide (a.Low=0))&&(decide (a.High=(A6 ((a.Names.length:Int) - 1)))))
 else
 some (((decide ((-1000000)<=a.Low))&&(decide (a.Low<=a.High)))&&(decide (a.High<=1000000)))).bind fun w1=>
 if (!w1) then
 some 6
 else
 some 0
def I9 [Ev] (t:AD) (c:Int):dD:=
 (AK t.Nodes c).bind fun a=>
 (E6 a.Name).bind fun e=>
 if (!e) then
 some 2
 else
 (slc t.Nodes 0 c).bind fun f=>
 (C6 f (fun y0=>MU y0 a)).bind fun g=>
 if g then
 some 5
 else
 if ((decide (a.Parent<(-1)))||(decide (c<=a.Parent))) then
 some 6
 else
 if (decide (4<(a.Attrs.length:Int))) then
 some 3
 else
 (KI t c).bind fun b=>
 if (decide (8<(b.length:Int))) then
 some 3
 else
 thenR (forR (ρ:=Int) (fun (i1:Int) (_:Unit)=>
 (AK b i1).bind fun h=>
 (slc b 0 i1).bind fun i=>
 (FX h i).bind fun d=>
 if (!decide (d=0)) then
 some (.ret d)
 else
 some (.next ())) (A6 ((b.length:Int) - (a.Attrs.length:Int))) (b.length:Int) ()) (fun _=>
 some 0) (fun v1=>some v1)
def Kr (n:Int) (a:AD):ca:=
 some ((decide (0<=n))&&(decide (n<(a.Nodes.length:Int))))
def D3 [Ev] (a:List DA) (f:DA->ca):dD:=
 thenR (forR (ρ:=Int) (fun (i0:Int) (_:Unit)=>
 (AK a i0).bind fun b=>
 (f b).bind fun c=>
 if c then
 some (.ret i0)
 else
 some (.next ())) 0 (a.length:Int) ()) (fun _=>
 some (-1)) (fun v0=>some v0)
def C5 [Ev] (a:List DA) (f:DA->ca):ca:=
 (D3 a f).bind fun b=>
 some (decide (0<=b))
def MT (y:DA) (a:DA):ca:=
 some (y.Name==a.Name)
def J9 (b:Int) (a:Int):ca:=
 some (((decide (0<=b))&&(decide (b<=40)))&&((decide (a=(-1)))||((decide (b<=a))&&(decide (a<=40)))))
def I8 [Ev] (t:AD) (c:Int):dD:=
 (AK t.Edges c).bind fun a=>
 (E6 a.Name).bind fun d=>
 if (!d) then
 some 2
 else
 (slc t.Edges 0 c).bind fun e=>
 (C5 e (fun y0=>MT y0 a)).bind fun f=>
 if f then
 some 5
 else
 (Kr a.From t).bind fun g=>
 (if (!g) then some true else ((Kr a.To t).bind fun h=>
 some (!h))).bind fun b=>
 (if b then
 some b
 else
 (J9 a.OutLow a.OutHigh).bind fun i=>
 (if (!i) then some true else ((J9 a.InLow a.InHigh).bind fun j=>
 some (!j))).bind fun k=>
 some k).bind fun w1=>
 if w1 then
 some 6
 else
 some 0
def F2 [Ev] (t:AD):Option (ByteArray × Int):=
 if (decide ((t.Nodes.length:Int)=0)) then
 some ((⟨#[]⟩:ByteArray),7)
 else
 if ((decide (12<(t.Nodes.length:Int)))||(decide (20<(t.Edges.length:Int)))) then
 some ((⟨#[]⟩:ByteArray),3)
 else
 thenR (forR (ρ:=(ByteArray × Int)) (fun (i1:Int) (_:Unit)=>
 (AK t.Nodes i1).bind fun c=>
 (I9 t i1).bind fun a=>
 if (!decide (a=0)) then
 some (.ret (c.Name,a))
 else
 some (.next ())) 0 (t.Nodes.length:Int) ()) (fun _=>
 thenR (forR (ρ:=(ByteArray × Int)) (fun (i3:Int) (_:Unit)=>
 (AK t.Edges i3).bind fun d=>
 (I8 t i3).bind fun b=>
 if (!decide (b=0)) then
 some (.ret (d.Name,b))
 else
 some (.next ())) 0 (t.Edges.length:Int) ()) (fun _=>
 some ((⟨#[]⟩:ByteArray),0)) (fun v3=>some v3)) (fun v1=>some v1)
def FH [Ev] (a:Ne) (f:Int->ca):dD:=
 thenR (forR (ρ:=Int) (fun (i0:Int) (_:Unit)=>
 (AK a i0).bind fun b=>
 (f b).bind fun c=>
 if c then
 some (.ret i0)
 else
 some (.next ())) 0 (a.length:Int) ()) (fun _=>
 some (-1)) (fun v0=>some v0)
def BW [Ev] (a:Ne) (f:Int->ca):ca:=
 (FH a f).bind fun b=>
 some (decide (0<=b))
def IU (n:Int) (a:Int):ca:=
 some ((decide (0<=n))&&(decide (n<=a)))
def LT (t:Int):ca:=
 (IU t 99).bind fun a=>
 some (!a)
def E0 [Ev] (a:List DG) (f:DG->ca):dD:=
 thenR (forR (ρ:=Int) (fun (i0:Int) (_:Unit)=>
 (AK a i0).bind fun b=>
 (f b).bind fun c=>
 if c then
 some (.ret i0)
 else
 some (.next ())) 0 (a.length:Int) ()) (fun _=>
 some (-1)) (fun v0=>some v0)
def B8 [Ev] (a:List DG) (f:DG->ca):ca:=
 (E0 a f).bind fun b=>
 some (decide (0<=b))
def MD (e:DG) (a:Int):ca:=
 (IU e.Type' 99).bind fun g=>
 (if g then ((IU e.From (A6 (a - 1))).bind fun b=>
 some (b)) else some false).bind fun c=>
 (if c then ((IU e.To (A6 (a - 1))).bind fun d=>
 some (d)) else some false).bind fun f=>
 some f
def LU (e:DG) (b:Graph):ca:=
 (MD e (b.Nodes.length:Int)).bind fun a=>
 some (!a)
def EM [Ev] (g:Graph):dD:=
 if ((decide (40<(g.Nodes.length:Int)))||(decide (80<(g.Edges.length:Int)))) then
 some 3
 else
 (BW g.Nodes LT).bind fun a=>
 if a then
 some 6
 else
 (B8 g.Edges (fun y0=>LU y0 g)).bind fun b=>
 if b then
 some 6
 else
 some 0
def La (a:Int) (b:AD):ca:=
 some ((decide (a<0))||(decide ((b.Nodes.length:Int)<=a)))
def GU [Ev] (t:AD) (l:Ne):dD:=
 (F2 t).bind fun b=>
 if (!decide (b.2=0)) then
 some b.2
 else
 (BW l (fun y0=>La y0 t)).bind fun a=>
 if a then
 some 6
 else
 some 0
def slices_Clone_string (a:List ByteArray):Option (List ByteArray):=
 B9 [] a
def HV [Ev] (t:AD) (a:Int):Option (List Attr × Int):=
 (GU t [a]).bind fun c=>
 if (!decide (c=0)) then
 some ([],c)
 else
 (KI t a).bind fun d=>
 (forA (fun (i0:Int) (s0:List Attr)=>
 (AK s0 i0).bind fun e=>
 (slices_Clone_string e.Names).bind fun f=>
 (AK s0 i0).bind fun b=>
 some (CU s0 i0 (Attr.mk b.Name b.Low b.High f))) 0 (d.length:Int) d).bind fun s0=>
 some (s0,0)
def Ji [Ev] (t:AD) (a:Int) (h:Ne):dD:=
 if (decide ((t.Nodes.length:Int)<=a)) then
 some 6
 else
 (AK t.Nodes a).bind fun d=>
 if d.Abstract then
 some 13
 else
 (HV t a).bind fun b=>
 if (!decide ((h.length:Int)=(b.1.length:Int))) then
 some 20
 else
 thenR (forR (ρ:=Int) (fun (i0:Int) (_:Unit)=>
 (AK b.1 i0).bind fun c=>
 (AK h i0).bind fun e=>
 (if (decide (e<c.Low)) then some true else ((AK h i0).bind fun f=>
 some (decide (c.High<f)))).bind fun g=>
 if g then
 some (.ret 6)
 else
 some (.next ())) 0 (b.1.length:Int) ()) (fun _=>
 some 0) (fun v0=>some v0)
def slices_Index_int (a:Ne) (c:Int):dD:=
 thenR (forR (ρ:=Int) (fun (i0:Int) (_:Unit)=>
 (AK a i0).bind fun b=>
 if (decide (c=b)) then
 some (.ret i0)
 else
 some (.next ())) 0 (a.length:Int) ()) (fun _=>
 some (-1)) (fun v0=>some v0)
def slices_Contains_int (b:Ne) (a:Int):ca:=
 (slices_Index_int b a).bind fun c=>
 some (decide (0<=c))
def slices_Reverse_int (l:Ne):Option Ne:=if l.length<=BY then some l.reverse else none
def Jy [Ev] (t:AD) (a:Int):Option Ne:=
 thenR (If (ρ:=Ne) (fun (s0:Int × Ne)=>
 if (decide (0<=s0.1)) then
 (B9 s0.2 [s0.1]).bind fun b=>
 (AK t.Nodes s0.1).bind fun c=>
 some (.next (c.Parent,b))
 else
 some (.brk (s0.1,s0.2))) (a,[])) (fun s0=>
 (slices_Reverse_int s0.2).bind fun d=>
 some d) (fun v0=>some v0)
def JI [Ev] (t:AD) (a:Int) (b:Int):ca:=
 (Jy t a).bind fun d=>
 (slices_Contains_int d b).bind fun c=>
 some c
def I7 [Ev] (t:AD) (a:Int) (b:Int) (c:Int):ca:=
 (GU t [b,c]).bind fun d=>
 if (((!decide (d=0))||(decide (a<0)))||(decide ((t.Edges.length:Int)<=a))) then
 some false
 else
 (AK t.Edges a).bind fun e=>
 (JI t b e.From).bind fun f=>
 (if f then ((AK t.Edges a).bind fun g=>
 (JI t c g.To).bind fun h=>
 some (h)) else some false).bind fun i=>
 some i
def HO [Ev] (t:AD) (a:A0):Option (Int × Int):=
 (F2 t).bind fun c=>
 if (!decide (c.2=0)) then
 some ((-1),c.2)
 else
 (EM a.Graph).bind fun d=>
 if (!decide (d=0)) then
 some ((-1),d)
 else
 if (!decide ((a.Values.length:Int)=(a.Graph.Nodes.length:Int))) then
 some ((-1),20)
 else
 thenR (forR (ρ:=(Int × Int)) (fun (i0:Int) (_:Unit)=>
 (AK a.Graph.Nodes i0).bind fun f=>
 (AK a.Values i0).bind fun g=>
 (Ji t f g).bind fun e=>
 if (!decide (e=0)) then
 some (.ret (i0,e))
 else
 some (.next ())) 0 (a.Graph.Nodes.length:Int) ()) (fun _=>
 thenR (forR (ρ:=(Int × Int)) (fun (i2:Int) (_:Unit)=>
 (AK a.Graph.Edges i2).bind fun b=>
 if (decide ((t.Edges.length:Int)<=b.Type')) then
 some (.ret (i2,6))
 else
 (AK a.Graph.Nodes b.From).bind fun h=>
 (AK a.Graph.Nodes b.To).bind fun i=>
 (I7 t b.Type' h i).bind fun j=>
 if (!j) then
 some (.ret (i2,13))
 else
 some (.next ())) 0 (a.Graph.Edges.length:Int) ()) (fun _=>
 some ((-1),0)) (fun v2=>some v2)) (fun v0=>some v0)
def H8 (n:Int) (a:AD):ca:=
 some (decide ((a.Nodes.length:Int)<=n))
def H9 (a:DG) (b:AD):ca:=
 some (decide ((b.Edges.length:Int)<=a.Type'))
def DU (n:Int) (b:Int) (a:Int):ca:=
 some ((decide (b<=n))&&(decide (n<=a)))
def GE [Ev] (t:AD) (p:Pattern) (a:EG):Option (Attr × Bool):=
 (DU a.Node 0 (A6 ((p.Graph.Nodes.length:Int) - 1))).bind fun c=>
 if (!c) then
 some (Attr.mk (⟨#[]⟩:ByteArray) 0 0 [],false)
 else
 (AK p.Graph.Nodes a.Node).bind fun d=>
 (HV t d).bind fun b=>
 (DU a.Attr 0 (A6 ((b.1.length:Int) - 1))).bind fun e=>
 if (!e) then
 some (Attr.mk (⟨#[]⟩:ByteArray) 0 0 [],false)
 else
 (AK b.1 a.Attr).bind fun f=>
 some (f,true)
def It (n:Int) (t:Term):ca:=
 some ((((decide ((-1)<=t.Var))&&(decide (t.Var<n)))&&(decide ((-1000000)<=t.Add)))&&(decide (t.Add<=1000000)))
def JV (n:Int) (a:Test):dD:=
 if ((!decide (a.Kind=1))&&(!decide (a.Kind=2))) then
 some 1
 else
 (It n a.Left).bind fun b=>
 (if (!b) then some true else ((It n a.Right).bind fun c=>
 some (!c))).bind fun d=>
 if d then
 some 6
 else
 some 0
def IS (n:Int) (l:List Test):dD:=
 if ((decide (n<0))||(decide (12<n))) then
 some 6
 else
 if (decide (40<(l.length:Int))) then
 some 3
 else
 thenR (forR (ρ:=Int) (fun (i0:Int) (_:Unit)=>
 (AK l i0).bind fun b=>
 (JV n b).bind fun a=>
 if (!decide (a=0)) then
 some (.ret a)
 else
 some (.next ())) 0 (l.length:Int) ()) (fun _=>
 some 0) (fun v0=>some v0)
def JP (a:d0) (c:Bool):dD:=
 thenR (forR (ρ:=Int) (fun (i0:Int) (_:Unit)=>
 (AK a i0).bind fun b=>
 if (c==b) then
 some (.ret i0)
 else
 some (.next ())) 0 (a.length:Int) ()) (fun _=>
 some (-1)) (fun v0=>some v0)
def G5 (b:d0) (a:Bool):ca:=
 (JP b a).bind fun c=>
 some (decide (0<=c))
def ED [Ev] (t:AD) (p:Pattern):dD:=
 (F2 t).bind fun c=>
 if (!decide (c.2=0)) then
 some c.2
 else
 (EM p.Graph).bind fun d=>
 if (!decide (d=0)) then
 some d
 else
 (BW p.Graph.Nodes (fun y0=>H8 y0 t)).bind fun f=>
 (if f then some true else ((B8 p.Graph.Edges (fun y0=>H9 y0 t)).bind fun g=>
 some (g))).bind fun h=>
 if h then
 some 13
 else
 (DU p.Vars 0 12).bind fun i=>
 if (!i) then
 some 6
 else
 if ((decide (10<(p.Slots.length:Int)))||(decide (10<(p.Tests.length:Int)))) then
 some 3
 else
 (Ls p.Vars false).bind fun j=>
 thenR (forR (ρ:=Int) (fun (i0:Int) (s0:d0)=>
 (AK p.Slots i0).bind fun a=>
 (GE t p a).bind fun k=>
 (if (!k.2) then some true else ((DU a.Term.Var (-1) (A6 (p.Vars - 1))).bind fun l=>
 some (!l))).bind fun m=>
 (if m then some true else ((DU a.Term.Add (-1000000) 1000000).bind fun n=>
 some (!n))).bind fun o=>
 if o then
 some (.ret 6)
 else
 if (decide (0<=a.Term.Var)) then
 (AK s0 a.Term.Var).bind fun q=>
 some (.next (CU s0 a.Term.Var true))
 else
 some (.next s0)) 0 (p.Slots.length:Int) j) (fun s0=>
 (IS p.Vars p.Tests).bind fun b=>
 if (!decide (b=0)) then
 some b
 else
 (G5 s0 false).bind fun e=>
 if e then
 some 9
 else
 some 0) (fun v0=>some v0)
def DY [Ev] (a:List AA) (f:AA->ca):dD:=
 thenR (forR (ρ:=Int) (fun (i0:Int) (_:Unit)=>
 (AK a i0).bind fun b=>
 (f b).bind fun c=>
 if c then
 some (.ret i0)
 else
 some (.next ())) 0 (a.length:Int) ()) (fun _=>
 some (-1)) (fun v0=>some v0)
def BX [Ev] (a:List AA) (f:AA->ca):ca:=
 (DY a f).bind fun b=>
 some (decide (0<=b))
def GF (c:AA):ca:=
 some ((decide ((A6 ((A6 ((A6 ((A6 ((A6 ((c.Map.Nodes.length:Int)+(c.Map.Edges.length:Int)))+(c.Pattern.Graph.Nodes.length:Int)))+(c.Pattern.Graph.Edges.length:Int)))+(c.Pattern.Slots.length:Int)))+(c.Pattern.Tests.length:Int)))=0))&&(decide (c.Pattern.Vars=0)))
mutual
def BZ [Ev]:Nat->AA->ca
 | 0,_=>none
 | n+1,c=>
  (if (decide (c.Kind=1)) then
  (if (decide ((c.Kids.length:Int)=0)) then ((GF c).bind fun d=>
  some (d)) else some false).bind fun e=>
  some e
  else
  if (decide (c.Kind=2)) then
  (if (decide ((c.Kids.length:Int)=1)) then ((GF c).bind fun f=>
  some (f)) else some false).bind fun g=>
  some g
  else
  if (decide (c.Kind=3)) then
  if (decide (c.Kind=3)) then
  (if (decide (1<=(c.Kids.length:Int))) then ((GF c).bind fun a=>
  some (a)) else some false).bind fun b=>
  some b
  else
  if (decide (c.Kind=5)) then
  some (decide ((c.Kids.length:Int)=1))
  else
  some false
  else
  if (decide (c.Kind=4)) then
  (if (decide (1<=(c.Kids.length:Int))) then ((GF c).bind fun a=>
  some (a)) else some false).bind fun b=>
  some b
  else
  if (decide (c.Kind=5)) then
  some (decide ((c.Kids.length:Int)=1))
  else
  some false).bind fun w1=>
  (if w1 then ((BX c.Kids (B5 n)).bind fun h=>
  some (!h)) else some false).bind fun i=>
  some i
def B5 [Ev]:Nat->AA->ca
 | 0,_=>none
 | n+1,k=>
  (BZ n k).bind fun a=>
  some (!a)
end
def GZ [Ev] (c:AA):ca:=Hq fun n=>BZ n c
def Of [Ev] (k:AA):ca:=Hq fun n=>B5 n k
def DB [Ev]:Nat->AA->Option (Int × Int)
 | 0,_=>none
 | n+1,c=>
  (forA (fun (i0:Int) (s0:Int × Int)=>
  (AK c.Kids i0).bind fun b=>
  (DB n b).bind fun a=>
  some (A6 (s0.1+a.1),max s0.2 a.2)) 0 (c.Kids.length:Int) (1,0)).bind fun s0=>
  (if (decide (c.Kind=5)) then
  some (A6 (s0.2+1))
  else
  some s0.2).bind fun w1=>
  some (s0.1,w1)
def IA [Ev] (c:AA):Option (Int × Int):=Hq fun n=>DB n c
def FT [Ev] (c:AA):dD:=
 (GZ c).bind fun b=>
 if (!b) then
 some 1
 else
 (IA c).bind fun a=>
 if ((decide (12<a.1))||(decide (3<a.2))) then
 some 3
 else
 some 0
def E1 [Ev] (a:List EG) (f:EG->ca):dD:=
 thenR (forR (ρ:=Int) (fun (i0:Int) (_:Unit)=>
 (AK a i0).bind fun b=>
 (f b).bind fun c=>
 if c then
 some (.ret i0)
 else
 some (.next ())) 0 (a.length:Int) ()) (fun _=>
 some (-1)) (fun v0=>some v0)
def DW [Ev] (a:List EG) (f:EG->ca):ca:=
 (E1 a f).bind fun b=>
 some (decide (0<=b))
def Ib (a:EG) (b:Int):ca:=
 some (decide (a.Term.Var=b))
def EP [Ev] (t:AD) (q:Pattern) (b:Int):dD:=
 (ED t q).bind fun a=>
 if (!decide (a=9)) then
 some a
 else
 thenR (If (ρ:=Int) (fun (s0:Int)=>
 if (decide (s0<q.Vars)) then
 (DW q.Slots (fun y0=>Ib y0 s0)).bind fun c=>
 if (!c) then
 some (.ret a)
 else
 some (.next (A6 (s0+1)))
 else
 some (.brk s0)) b) (fun s0=>
 some 0) (fun v0=>some v0)
def FB [Ev] (a:Graph) (b:Graph) (m:Morphism):dD:=
 (EM a).bind fun g=>
 if (!decide (g=0)) then
 some g
 else
 (EM b).bind fun h=>
 if (!decide (h=0)) then
 some h
 else
 if ((!decide ((m.Nodes.length:Int)=(a.Nodes.length:Int)))||(!decide ((m.Edges.length:Int)=(a.Edges.length:Int)))) then
 some 20
 else
 thenR (forR (ρ:=Int) (fun (i0:Int) (_:Unit)=>
 (AK m.Nodes i0).bind fun c=>
 if ((decide (c<0))||(decide ((b.Nodes.length:Int)<=c))) then
 some (.ret 6)
 else
 (AK b.Nodes c).bind fun l=>
 (AK a.Nodes i0).bind fun n=>
 if (!decide (l=n)) then
 some (.ret 13)
 else
 some (.next ())) 0 (m.Nodes.length:Int) ()) (fun _=>
 thenR (forR (ρ:=Int) (fun (i2:Int) (_:Unit)=>
 (AK m.Edges i2).bind fun d=>
 if ((decide (d<0))||(decide ((b.Edges.length:Int)<=d))) then
 some (.ret 6)
 else
 (AK a.Edges i2).bind fun e=>
 (AK b.Edges d).bind fun f=>
 if (!decide (e.Type'=f.Type')) then
 some (.ret 13)
 else
 (AK m.Nodes e.From).bind fun i=>
 (if (!decide (i=f.From)) then some true else ((AK m.Nodes e.To).bind fun j=>
 some (!decide (j=f.To)))).bind fun k=>
 if k then
 some (.ret 11)
 else
 some (.next ())) 0 (m.Edges.length:Int) ()) (fun _=>
 some 0) (fun v2=>some v2)) (fun v0=>some v0)
def slices_Clone_int (a:Ne):Option Ne:=
 B9 [] a
def slices_Sort_int (l:Ne):Option Ne:=if l.length<=BY then some (OP l) else none
def slices_Compact_int (l:Ne):Option Ne:=if l.length<=BY then some (Go.Lib.compact l) else none
def H3 (l:Ne):dD:=
 (slices_Clone_int l).bind fun a=>
 (slices_Sort_int a).bind fun b=>
 (slices_Compact_int b).bind fun c=>
 some (c.length:Int)
def EH [Ev] (a:Graph) (b:Graph) (m:Morphism):ca:=
 (FB a b m).bind fun c=>
 (if (decide (c=0)) then ((H3 m.Nodes).bind fun d=>
 some (decide (d=(m.Nodes.length:Int)))) else some false).bind fun e=>
 (if e then ((H3 m.Edges).bind fun f=>
 some (decide (f=(m.Edges.length:Int)))) else some false).bind fun g=>
 some g
def CT [Ev]:Nat->AD->Pattern->AA->dD
 | 0,_,_,_=>none
 | n+1,t,p,c=>
  if (decide (c.Kind=5)) then
  if (decide (c.Pattern.Vars<p.Vars)) then
  some 20
  else
  (EP t c.Pattern p.Vars).bind fun d=>
  if (!decide (d=0)) then
  some d
  else
  (FB p.Graph c.Pattern.Graph c.Map).bind fun e=>
  if (!decide (e=0)) then
  some e
  else
  (EH p.Graph c.Pattern.Graph c.Map).bind fun f=>
  if (!f) then
  some 1
  else
  thenR (forR (ρ:=Int) (fun (i0:Int) (_:Unit)=>
  (AK c.Kids i0).bind fun b=>
  (CT n t c.Pattern b).bind fun a=>
  if (!decide (a=0)) then
  some (.ret a)
  else
  some (.next ())) 0 (c.Kids.length:Int) ()) (fun _=>
  some 0) (fun v0=>some v0)
  else
  thenR (forR (ρ:=Int) (fun (i0:Int) (_:Unit)=>
  (AK c.Kids i0).bind fun b=>
  (CT n t p b).bind fun a=>
  if (!decide (a=0)) then
  some (.ret a)
  else
  some (.next ())) 0 (c.Kids.length:Int) ()) (fun _=>
  some 0) (fun v0=>some v0)
def Jq [Ev] (t:AD) (p:Pattern) (c:AA):dD:=Hq fun n=>CT n t p c
def EE [Ev] (t:AD) (p:Pattern) (c:AA):dD:=
 (ED t p).bind fun a=>
 if (!decide (a=0)) then
 some a
 else
 (FT c).bind fun b=>
 if (!decide (b=0)) then
 some b
 else
 (Jq t p c).bind fun d=>
 some d
def KP (n:Int) (a:AD):ca:=
 some (decide ((a.Nodes.length:Int)<=n))
def KQ (a:DG) (b:AD):ca:=
 some (decide ((b.Edges.length:Int)<=a.Type'))
def F7 [Ev] (t:AD) (g:Graph):ca:=
 (BW g.Nodes (fun y0=>KP y0 t)).bind fun c=>
 (if (!c) then ((B8 g.Edges (fun y0=>KQ y0 t)).bind fun a=>
 some (!a)) else some false).bind fun b=>
 some b
def G4 [Ev] (t:AD) (p:Graph) (g:Graph):dD:=
 (F2 t).bind fun a=>
 if (!decide (a.2=0)) then
 some a.2
 else
 thenR (forR (ρ:=Int) (fun (i0:Int) (_:Unit)=>
 (AK [p,g] i0).bind fun c=>
 (EM c).bind fun b=>
 if (!decide (b=0)) then
 some (.ret b)
 else
 some (.next ())) 0 ([p,g].length:Int) ()) (fun _=>
 (F7 t p).bind fun d=>
 (if (!d) then some true else ((F7 t g).bind fun e=>
 some (!e))).bind fun f=>
 if f then
 some 13
 else
 some 0) (fun v0=>some v0)
def IJ [Ev] (t:AD) (a:Int):Option (Ne × Int):=
 (GU t [a]).bind fun b=>
 if (!decide (b=0)) then
 some ([],b)
 else
 (forA (fun (i0:Int) (s0:Ne)=>
 (JI t i0 a).bind fun c=>
 if c then
 (B9 s0 [i0]).bind fun d=>
 some d
 else
 some s0) 0 (t.Nodes.length:Int) []).bind fun s0=>
 some (s0,0)
def G3 [Ev] (t:AD):Option (List d0):=
 (forA (fun (i0:Int) (s0:List d0)=>
 (Ls (t.Nodes.length:Int) false).bind fun c=>
 (IJ t i0).bind fun a=>
 (forA (fun (i2:Int) (s2:d0)=>
 (AK a.1 i2).bind fun b=>
 (AK s2 b).bind fun e=>
 some (CU s2 b true)) 0 (a.1.length:Int) c).bind fun s2=>
 (B9 s0 [s2]).bind fun d=>
 some d) 0 (t.Nodes.length:Int) []).bind fun s0=>
 some s0
def Hu [Ev] (t:AD) (p:Graph) (g:Graph) (m:Morphism):dD:=
 if ((!decide ((m.Nodes.length:Int)=(p.Nodes.length:Int)))||(!decide ((m.Edges.length:Int)=(p.Edges.length:Int)))) then
 some 20
 else
 (G3 t).bind fun i=>
 thenR (forR (ρ:=Int) (fun (i0:Int) (_:Unit)=>
 (AK m.Nodes i0).bind fun a=>
 if ((decide (a<0))||(decide ((g.Nodes.length:Int)<=a))) then
 some (.ret 6)
 else
 (AK p.Nodes i0).bind fun j=>
 (AK i j).bind fun k=>
 (AK g.Nodes a).bind fun l=>
 (AK k l).bind fun n=>
 if (!n) then
 some (.ret 13)
 else
 some (.next ())) 0 (m.Nodes.length:Int) ()) (fun _=>
 thenR (forR (ρ:=Int) (fun (i2:Int) (_:Unit)=>
 (AK m.Edges i2).bind fun b=>
 if ((decide (b<0))||(decide ((g.Edges.length:Int)<=b))) then
 some (.ret 6)
 else
 (AK p.Edges i2).bind fun c=>
 (AK g.Edges b).bind fun d=>
 if (!decide (c.Type'=d.Type')) then
 some (.ret 13)
 else
 (AK m.Nodes c.From).bind fun e=>
 (if (!decide (e=d.From)) then some true else ((AK m.Nodes c.To).bind fun f=>
 some (!decide (f=d.To)))).bind fun h=>
 if h then
 some (.ret 11)
 else
 some (.next ())) 0 (m.Edges.length:Int) ()) (fun _=>
 some 0) (fun v2=>some v2)) (fun v0=>some v0)
def IZ (l:Ne):ca:=if l.length<=4096 then some (dupB l) else none
def G2 [Ev] (t:AD) (p:Graph) (g:Graph) (m:Morphism) (a:Bool):dD:=
 (G4 t p g).bind fun b=>
 if (!decide (b=0)) then
 some b
 else
 (Hu t p g m).bind fun c=>
 if (!decide (c=0)) then
 some c
 else
 (if a then ((IZ m.Nodes).bind fun d=>
 (if d then some true else ((IZ m.Edges).bind fun e=>
 some (e))).bind fun f=>
 some (f)) else some false).bind fun h=>
 if h then
 some 5
 else
 some 0
def FO [Ev] (t:AD) (p:Pattern) (c:A0):dD:=
 (ED t p).bind fun a=>
 if (!decide (a=0)) then
 some a
 else
 (HO t c).bind fun b=>
 some b.2
def Iz (a b c:Int):Option (Int × Int):=if (0<=a∧a<18446744073709551616)∧(0<=b∧b<18446744073709551616)∧0<=c∧c<=1 then some ((a+b+c) % 18446744073709551616,(a+b+c) / 18446744073709551616) else none
def Hy (a:Int) (b:Int):Option (Int × Int):=
 (Iz (IntKind.u64.wrap a) (IntKind.u64.wrap b) 0).bind fun c=>
 (LC .i64 .shr a 63).bind fun d=>
 (LC .i64 .shr b 63).bind fun e=>
 some (A6 ((A6 (d+e))+(A6 c.2)),c.1)
def GG (t:Term) (d:Ne):Option (Int × Int × Bool):=
 if (decide (t.Var=(-1))) then
 (Hy 0 t.Add).bind fun a=>
 some (a.1,a.2,true)
 else
 if ((decide (t.Var<0))||(decide ((d.length:Int)<=t.Var))) then
 some (0,0,false)
 else
 (AK d t.Var).bind fun c=>
 (Hy c t.Add).bind fun b=>
 some (b.1,b.2,true)
def L7 (a:Ne):dD:=
 thenR (forR (ρ:=Int) (fun (i0:Int) (_:Unit)=>
 (AK a i0).bind fun b=>
 if (!decide (b=0)) then
 some (.ret b)
 else
 some (.next ())) 0 (a.length:Int) ()) (fun _=>
 some 0) (fun v0=>some v0)
def cmp_isNaN_int (a:Int):ca:=
 some (!decide (a=a))
def cmp_Compare_int (a:Int) (y:Int):dD:=
 (cmp_isNaN_int a).bind fun c=>
 (cmp_isNaN_int y).bind fun b=>
 if c then
 if b then
 some 0
 else
 some (-1)
 else
 if b then
 some 1
 else
 if (decide (a<y)) then
 some (-1)
 else
 if (decide (y<a)) then
 some 1
 else
 some 0
def Jo (a:Int):ca:=
 some (!decide (a=a))
def Is (a:Int) (y:Int):dD:=
 (Jo a).bind fun c=>
 (Jo y).bind fun b=>
 if c then
 if b then
 some 0
 else
 some (-1)
 else
 if b then
 some 1
 else
 if (decide (a<y)) then
 some (-1)
 else
 if (decide (y<a)) then
 some 1
 else
 some 0
def GA (a:Test) (g:Ne):ca:=
 (GG a.Left g).bind fun b=>
 (GG a.Right g).bind fun c=>
 if ((!b.2.2)||(!c.2.2)) then
 some false
 else
 (cmp_Compare_int b.1 c.1).bind fun e=>
 (Is b.2.1 c.2.1).bind fun f=>
 (L7 [e,f]).bind fun d=>
 some (((decide (a.Kind=1))&&(decide (d<=0)))||((decide (a.Kind=2))&&(decide (d=0))))
def FP (a:Term) (c:Ne):dD:=
 if (decide (a.Var<0)) then
 some a.Add
 else
 (AK c a.Var).bind fun b=>
 some (A6 (b+a.Add))
def Io (p:Pattern) (l:A0) (m:Morphism):Option (Ne × Int):=
 (Ls p.Vars 0).bind fun d=>
 (Ls p.Vars false).bind fun e=>
 thenR (forR (ρ:=(Ne × Int)) (fun (i0:Int) (s0:Ne × d0)=>
 (AK p.Slots i0).bind fun a=>
 (AK m.Nodes a.Node).bind fun f=>
 (AK l.Values f).bind fun g=>
 (AK g a.Attr).bind fun b=>
 (if (decide (0<=a.Term.Var)) then ((AK s0.2 a.Term.Var).bind fun h=>
 some (!h)) else some false).bind fun i=>
 if i then
 (AK s0.1 a.Term.Var).bind fun n=>
 (AK s0.2 a.Term.Var).bind fun o=>
 (FP a.Term (CU s0.1 a.Term.Var (A6 (b - a.Term.Add)))).bind fun c=>
 if (!decide (c=b)) then
 some (.ret ([],11))
 else
 some (.next (CU s0.1 a.Term.Var (A6 (b - a.Term.Add)),CU s0.2 a.Term.Var true))
 else
 (FP a.Term s0.1).bind fun c=>
 if (!decide (c=b)) then
 some (.ret ([],11))
 else
 some (.next (s0.1,s0.2))) 0 (p.Slots.length:Int) (d,e)) (fun s0=>
 thenR (forR (ρ:=(Ne × Int)) (fun (i2:Int) (_:Unit)=>
 (AK p.Tests i2).bind fun j=>
 (GA j s0.1).bind fun k=>
 if (!k) then
 some (.ret ([],16))
 else
 some (.next ())) 0 (p.Tests.length:Int) ()) (fun _=>
 some (s0.1,0)) (fun v2=>some v2)) (fun v0=>some v0)
def FN [Ev] (t:AD) (p:Pattern) (a:A0) (m:Morphism):Option (Ne × Int):=
 (FO t p a).bind fun b=>
 if (!decide (b=0)) then
 some ([],b)
 else
 (G2 t p.Graph a.Graph m false).bind fun c=>
 if (!decide (c=0)) then
 some ([],c)
 else
 (Io p a m).bind fun d=>
 some (d.1,d.2)
def FR [Ev] (t:AD) (p:Pattern) (c:AA) (d:A0) (m:AG) (a:Bool):dD:=
 (EE t p c).bind fun e=>
 if (!decide (e=0)) then
 some e
 else
 (HO t d).bind fun f=>
 if (!decide (f.2=0)) then
 some f.2
 else
 (G2 t p.Graph d.Graph m.Morphism a).bind fun g=>
 if (!decide (g=0)) then
 some g
 else
 (FN t p d m.Morphism).bind fun b=>
 if (!decide (b.2=0)) then
 some b.2
 else
 (slices_Equal_int b.1 m.Vars).bind fun h=>
 if (!h) then
 some 11
 else
 some 0
def LX (k:Int) (a:Int):ca:=
 some ((decide (k<(-1)))||(decide (a<=k)))
def HT [Ev] (l:Ne) (n:Int):dD:=
 (BW l (fun y0=>LX y0 n)).bind fun a=>
 if a then
 some 6
 else
 some 0
def IY (l:Ne) (a:Int):dD:=
 (VQ l).bind fun c=>
 (AK l a).bind fun b=>
 some b
def EX (f:AM) (c:Int) (k:Int):ca:=
 (AK f.p.Edges c).bind fun a=>
 (IY f.partial_.Edges c).bind fun b=>
 if ((decide (0<=b))&&(!decide (b=k))) then
 some false
 else
 (AK f.g.Edges k).bind fun d=>
 (AK f.nodes a.From).bind fun e=>
 (AK f.nodes a.To).bind fun h=>
 some (decide (d=(DG.mk a.Type' e h)))
def C3 (f:AM):ca:=
 thenR (forR (ρ:=Bool) (fun (i0:Int) (_:Unit)=>
 (AK f.p.Edges i0).bind fun a=>
 if (!decide ((max a.From a.To)=(A6 ((f.nodes.length:Int) - 1)))) then
 some (.next ())
 else
 thenR (forR (ρ:=Bool) (fun (i2:Int) (s2:Bool)=>
 (EX f i0 i2).bind fun b=>
 if b then
 some (.brk true)
 else
 some (.next s2)) 0 (f.g.Edges.length:Int) false) (fun s2=>
 if (!s2) then
 some (.ret false)
 else
 some (.next ())) (fun v2=>some (.ret v2))) 0 (f.p.Edges.length:Int) ()) (fun _=>
 some true) (fun v0=>some v0)
def BA [Ev]:Nat->AM->Option AM
 | 0,_=>none
 | n+1,f=>
  (if (decide ((f.out.length:Int)=f.most)) then
  some f
  else
  if (decide ((f.nodes.length:Int)<(f.p.Nodes.length:Int))) then
  (forA (fun (i1:Int) (s1:AM)=>
  (AK f.g.Nodes i1).bind fun u=>
  (IY s1.partial_.Nodes (f.nodes.length:Int)).bind fun e=>
  (if ((decide (0<=e))&&(!decide (e=i1))) then some true else ((AK s1.p.Nodes (f.nodes.length:Int)).bind fun v=>
  (AK s1.is v).bind fun w=>
  (AK w u).bind fun x=>
  some (!x))).bind fun h=>
  (if h then some true else ((if s1.injective then ((slices_Contains_int s1.nodes i1).bind fun i=>
  some (i)) else some false).bind fun j=>
  some (j))).bind fun k=>
  if k then
  some s1
  else
  (B9 s1.nodes [i1]).bind fun c=>
  (C3 (AM.mk s1.p s1.g s1.is s1.partial_ s1.injective s1.most c s1.edges s1.out)).bind fun l=>
  if l then
  (BA n (AM.mk s1.p s1.g s1.is s1.partial_ s1.injective s1.most c s1.edges s1.out)).bind fun a=>
  (slc a.nodes 0 (f.nodes.length:Int)).bind fun d=>
  some (AM.mk a.p a.g a.is a.partial_ a.injective a.most d a.edges a.out)
  else
  (slc c 0 (f.nodes.length:Int)).bind fun d=>
  some (AM.mk s1.p s1.g s1.is s1.partial_ s1.injective s1.most d s1.edges s1.out)) 0 (f.g.Nodes.length:Int) f).bind fun s1=>
  some s1
  else
  if (decide ((f.edges.length:Int)<(f.p.Edges.length:Int))) then
  (forA (fun (i3:Int) (s3:AM)=>
  (EX s3 (f.edges.length:Int) i3).bind fun m=>
  (if (!m) then some true else ((if s3.injective then ((slices_Contains_int s3.edges i3).bind fun o=>
  some (o)) else some false).bind fun q=>
  some (q))).bind fun r=>
  if r then
  some s3
  else
  (B9 s3.edges [i3]).bind fun s=>
  (BA n (AM.mk s3.p s3.g s3.is s3.partial_ s3.injective s3.most s3.nodes s s3.out)).bind fun b=>
  (slc b.edges 0 (f.edges.length:Int)).bind fun t=>
  some (AM.mk b.p b.g b.is b.partial_ b.injective b.most b.nodes t b.out)) 0 (f.g.Edges.length:Int) f).bind fun s3=>
  some s3
  else
  (slices_Clone_int f.nodes).bind fun y=>
  (slices_Clone_int f.edges).bind fun z=>
  (B9 f.out [Morphism.mk y z]).bind fun A=>
  some (AM.mk f.p f.g f.is f.partial_ f.injective f.most f.nodes f.edges A)).bind fun w1=>
  some w1
def GD [Ev] (f:AM):Option AM:=Hq fun n=>BA n f
def Ht [Ev] (t:AD) (p:Graph) (g:Graph) (b:Morphism) (a:Bool) (c:Int):Option (List Morphism):=
 (G3 t).bind fun d=>
 (GD (AM.mk p g d b a c [] [] [])).bind fun e=>
 some e.out
def Jw [Ev] (t:AD) (p:Graph) (g:Graph) (b:Morphism) (a:Bool):Option (List Morphism × Int):=
 (Ht t p g b a 5001).bind fun c=>
 if (decide (5000<(c.length:Int))) then
 some ([],3)
 else
 some (c,0)
def F6 [Ev] (t:AD) (p:Graph) (g:Graph) (a:Morphism) (b:Bool):Option (List Morphism × Int):=
 (G4 t p g).bind fun c=>
 if (!decide (c=0)) then
 some ([],c)
 else
 if ((!decide ((a.Nodes.length:Int)=(p.Nodes.length:Int)))||(!decide ((a.Edges.length:Int)=(p.Edges.length:Int)))) then
 some ([],20)
 else
 (HT a.Nodes (g.Nodes.length:Int)).bind fun d=>
 if (!decide (d=0)) then
 some ([],d)
 else
 (HT a.Edges (g.Edges.length:Int)).bind fun e=>
 if (!decide (e=0)) then
 some ([],e)
 else
 (Jw t p g a b).bind fun f=>
 some (f.1,f.2)
def DN (l:Ne) (n:Int):Option Ne:=if l.length=1∧0<=n∧n<=4096 then some (List.replicate n.toNat (l.headD 0)) else none
def HH (n:Int) (e:Ne) (a:Ne):Option Ne:=
 (DN [(-1)] n).bind fun c=>
 (forA (fun (i0:Int) (s0:Ne)=>
 (AK e i0).bind fun b=>
 (AK a i0).bind fun d=>
 (AK s0 b).bind fun f=>
 some (CU s0 b d)) 0 (e.length:Int) c).bind fun s0=>
 some s0
def HF (a:Term) (d:Ne):Option (Int × Int):=
 (DU a.Var (-1) (A6 ((d.length:Int) - 1))).bind fun b=>
 if (!b) then
 some (0,6)
 else
 (FP a d).bind fun c=>
 some (c,0)
def E2 (p:A4) (q:Pattern) (m:Morphism) (b:Ne):Option (Ne × Bool):=
 (slices_Clone_int b).bind fun g=>
 (Rf g (A6 (q.Vars - (b.length:Int))) 0).bind fun i=>
 (Ls q.Vars false).bind fun j=>
 (forA (fun (i0:Int) (s0:d0)=>
 (AK s0 i0).bind fun r=>
 some (CU s0 i0 true)) 0 (b.length:Int) j).bind fun s0=>
 thenR (forR (ρ:=(Ne × Bool)) (fun (i2:Int) (s2:Ne × d0)=>
 (AK q.Slots i2).bind fun a=>
 (AK m.Nodes a.Node).bind fun k=>
 (AK p.h.Values k).bind fun l=>
 (AK l a.Attr).bind fun d=>
 (if (decide (0<=a.Term.Var)) then ((AK s2.2 a.Term.Var).bind fun n=>
 some (!n)) else some false).bind fun o=>
 if o then
 (AK s2.1 a.Term.Var).bind fun s=>
 (AK s2.2 a.Term.Var).bind fun t=>
 (HF a.Term (CU s2.1 a.Term.Var (A6 (d - a.Term.Add)))).bind fun c=>
 if ((!decide (c.2=0))||(!decide (c.1=d))) then
 some (.ret ([],false))
 else
 some (.next (CU s2.1 a.Term.Var (A6 (d - a.Term.Add)),CU s2.2 a.Term.Var true))
 else
 (HF a.Term s2.1).bind fun c=>
 if ((!decide (c.2=0))||(!decide (c.1=d))) then
 some (.ret ([],false))
 else
 some (.next (s2.1,s2.2))) 0 (q.Slots.length:Int) (i,s0)) (fun s2=>
 thenR (forR (ρ:=(Ne × Bool)) (fun (i4:Int) (_:Unit)=>
 (AK q.Tests i4).bind fun e=>
 (GA e s2.1).bind fun f=>
 if (!f) then
 some (.ret ([],false))
 else
 some (.next ())) 0 (q.Tests.length:Int) ()) (fun _=>
 some (s2.1,true)) (fun v4=>some v4)) (fun v2=>some v2)
def CN [Ev] (b:A4) (c:AA) (m:AG):Option (List AG × Int):=
 (HH (c.Pattern.Graph.Nodes.length:Int) c.Map.Nodes m.Morphism.Nodes).bind fun f=>
 (HH (c.Pattern.Graph.Edges.length:Int) c.Map.Edges m.Morphism.Edges).bind fun g=>
 (F6 b.t c.Pattern.Graph b.h.Graph (Morphism.mk f g) b.injective).bind fun a=>
 if (!decide (a.2=0)) then
 some ([],a.2)
 else
 (forA (fun (i0:Int) (s0:List AG)=>
 (AK a.1 i0).bind fun d=>
 (E2 b c.Pattern d m.Vars).bind fun e=>
 if e.2 then
 (B9 s0 [AG.mk d e.1]).bind fun i=>
 some i
 else
 some s0) 0 (a.1.length:Int) []).bind fun s0=>
 some (s0,0)
mutual
def A2 [Ev]:Nat->A4->AA->AG->Option (BQ × Int)
 | 0,_,_,_=>none
 | n+1,b,c,m=>
  if (decide (c.Kind=2)) then
  (AK c.Kids 0).bind fun g=>
  (A2 n b g m).bind fun e=>
  if (decide (e.2=0)) then
  some (BQ.mk 0 (AG.mk (Morphism.mk [] []) []) [],10)
  else
  if (decide (e.2=10)) then
  some (BQ.mk 0 (AG.mk (Morphism.mk [] []) []) [],0)
  else
  some (BQ.mk 0 (AG.mk (Morphism.mk [] []) []) [],e.2)
  else
  if (decide (c.Kind=3)) then
  thenR (forR (ρ:=(BQ × Int)) (fun (i2:Int) (s2:BQ × BQ)=>
  (AK c.Kids i2).bind fun h=>
  (A2 n b h m).bind fun f=>
  if (!decide (f.2=0)) then
  some (.ret (BQ.mk 0 (AG.mk (Morphism.mk [] []) []) [],f.2))
  else
  (B9 s2.2.Kids [f.1]).bind fun i=>
  some (.next (s2.1,BQ.mk s2.2.Choice s2.2.Match i))) 0 (c.Kids.length:Int) (BQ.mk 0 (AG.mk (Morphism.mk [] []) []) [],BQ.mk 0 (AG.mk (Morphism.mk [] []) []) [])) (fun s2=>
  some (s2.2,0)) (fun v2=>some v2)
  else
  if (decide (c.Kind=4)) then
  thenR (forR (ρ:=(BQ × Int)) (fun (i4:Int) (s4:BQ)=>
  (AK c.Kids i4).bind fun j=>
  (A2 n b j m).bind fun a=>
  if (decide (a.2=0)) then
  some (.ret (BQ.mk i4 (AG.mk (Morphism.mk [] []) []) [a.1],0))
  else
  if (!decide (a.2=10)) then
  some (.ret (BQ.mk 0 (AG.mk (Morphism.mk [] []) []) [],a.2))
  else
  some (.next s4)) 0 (c.Kids.length:Int) (BQ.mk 0 (AG.mk (Morphism.mk [] []) []) [])) (fun s4=>
  some (BQ.mk 0 (AG.mk (Morphism.mk [] []) []) [],10)) (fun v4=>some v4)
  else
  if (decide (c.Kind=5)) then
  (BV n b c m).bind fun d=>
  some (d.1,d.2)
  else
  some (BQ.mk 0 (AG.mk (Morphism.mk [] []) []) [],0)
def BV [Ev]:Nat->A4->AA->AG->Option (BQ × Int)
 | 0,_,_,_=>none
 | n+1,e,c,m=>
  (CN e c m).bind fun a=>
  if (!decide (a.2=0)) then
  some (BQ.mk 0 (AG.mk (Morphism.mk [] []) []) [],a.2)
  else
  thenR (forR (ρ:=(BQ × Int)) (fun (i0:Int) (s0:BQ)=>
  (AK a.1 i0).bind fun d=>
  (AK c.Kids 0).bind fun f=>
  (A2 n e f d).bind fun b=>
  if (decide (b.2=0)) then
  some (.ret (BQ.mk 0 d [b.1],0))
  else
  if (!decide (b.2=10)) then
  some (.ret (BQ.mk 0 (AG.mk (Morphism.mk [] []) []) [],b.2))
  else
  some (.next s0)) 0 (a.1.length:Int) (BQ.mk 0 (AG.mk (Morphism.mk [] []) []) [])) (fun s0=>
  some (BQ.mk 0 (AG.mk (Morphism.mk [] []) []) [],10)) (fun v0=>some v0)
end
def ER [Ev] (a:A4) (c:AA) (m:AG):Option (BQ × Int):=Hq fun n=>A2 n a c m
def NE [Ev] (a:A4) (c:AA) (m:AG):Option (BQ × Int):=Hq fun n=>BV n a c m
def EO [Ev] (t:AD) (p:Pattern) (c:AA) (e:A0) (m:AG) (a:Bool):Option (BQ × Int):=
 (FR t p c e m a).bind fun b=>
 if (!decide (b=0)) then
 some (BQ.mk 0 (AG.mk (Morphism.mk [] []) []) [],b)
 else
 (ER (A4.mk t e a) c m).bind fun d=>
 some (d.1,d.2)
def C1 [Ev] (t:AD) (p:Pattern) (c:AA) (d:A0) (m:AG) (a:Bool):Option (Bool × Int):=
 (EO t p c d m a).bind fun b=>
 if (decide (b.2=10)) then
 some (false,0)
 else
 some (decide (b.2=0),b.2)
def D8 (a:Ne) (b:Int):Option Ne:=
 (slices_Clone_int a).bind fun c=>
 (B9 c [b]).bind fun d=>
 some d
def JB (o:AE) (q:Pattern) (m:Morphism) (b:Ne):Option (Ne × Bool):=
 (Ls q.Vars 0).bind fun f=>
 (Ls q.Vars false).bind fun g=>
 (forA (fun (i0:Int) (s0:Ne × d0)=>
 (AK b i0).bind fun i=>
 (AK s0.1 i0).bind fun p=>
 (AK s0.2 i0).bind fun r=>
 some (CU s0.1 i0 i,CU s0.2 i0 true)) 0 (b.length:Int) (f,g)).bind fun s0=>
 thenR (forR (ρ:=(Ne × Bool)) (fun (i2:Int) (s2:Ne × d0)=>
 (AK q.Slots i2).bind fun a=>
 (AK m.Nodes a.Node).bind fun j=>
 (AK o.h.Values j).bind fun k=>
 (AK k a.Attr).bind fun c=>
 if (decide (a.Term.Var<0)) then
 if (!decide ((A6 (c - a.Term.Add))=0)) then
 some (.ret ([],false))
 else
 some (.next (s2.1,s2.2))
 else
 (AK s2.2 a.Term.Var).bind fun l=>
 if (!l) then
 (AK s2.1 a.Term.Var).bind fun s=>
 (AK s2.2 a.Term.Var).bind fun t=>
 some (.next (CU s2.1 a.Term.Var (A6 (c - a.Term.Add)),CU s2.2 a.Term.Var true))
 else
 (AK s2.1 a.Term.Var).bind fun n=>
 if (!decide (n=(A6 (c - a.Term.Add)))) then
 some (.ret ([],false))
 else
 some (.next (s2.1,s2.2))) 0 (q.Slots.length:Int) (s0.1,s0.2)) (fun s2=>
 thenR (forR (ρ:=(Ne × Bool)) (fun (i5:Int) (_:Unit)=>
 (AK q.Tests i5).bind fun d=>
 (GA d s2.1).bind fun e=>
 if (!e) then
 some (.ret ([],false))
 else
 some (.next ())) 0 (q.Tests.length:Int) ()) (fun _=>
 some (s2.1,true)) (fun v5=>some v5)) (fun v2=>some v2)
def CX [Ev] (a:AE) (c:AA) (m:AG):Option (List AG):=
 (DN [(-1)] (c.Pattern.Graph.Nodes.length:Int)).bind fun j=>
 (DN [(-1)] (c.Pattern.Graph.Edges.length:Int)).bind fun k=>
 (forA (fun (i0:Int) (s0:Morphism)=>
 (AK c.Map.Nodes i0).bind fun d=>
 (AK m.Morphism.Nodes i0).bind fun l=>
 (AK s0.Nodes d).bind fun o=>
 some (Morphism.mk (CU s0.Nodes d l) s0.Edges)) 0 (c.Map.Nodes.length:Int) (Morphism.mk j k)).bind fun s0=>
 (forA (fun (i2:Int) (s2:Morphism)=>
 (AK c.Map.Edges i2).bind fun e=>
 (AK m.Morphism.Edges i2).bind fun n=>
 (AK s2.Edges e).bind fun p=>
 some (Morphism.mk s2.Nodes (CU s2.Edges e n))) 0 (c.Map.Edges.length:Int) s0).bind fun s2=>
 (F6 a.t c.Pattern.Graph a.h.Graph s2 a.injective).bind fun f=>
 (forA (fun (i4:Int) (s4:List AG)=>
 (AK f.1 i4).bind fun g=>
 (JB a c.Pattern g m.Vars).bind fun b=>
 if b.2 then
 (B9 s4 [AG.mk g b.1]).bind fun i=>
 some i
 else
 some s4) 0 (f.1.length:Int) []).bind fun s4=>
 some s4
def EJ [Ev] (k:AA) (b:AA->ca):ca:=
 (b k).bind fun a=>
 some (!a)
def EN [Ev] (a:List AG) (f:AG->ca):dD:=
 thenR (forR (ρ:=Int) (fun (i0:Int) (_:Unit)=>
 (AK a i0).bind fun b=>
 (f b).bind fun c=>
 if c then
 some (.ret i0)
 else
 some (.next ())) 0 (a.length:Int) ()) (fun _=>
 some (-1)) (fun v0=>some v0)
def D2 [Ev] (a:List AG) (f:AG->ca):ca:=
 (EN a f).bind fun b=>
 some (decide (0<=b))
mutual
def BR [Ev]:Nat->AE->AA->AG->ca
 | 0,_,_,_=>none
 | n+1,a,c,m=>
  if (decide (c.Kind=2)) then
  (AK c.Kids 0).bind fun b=>
  (BO n b a m).bind fun d=>
  some (!d)
  else
  if (decide (c.Kind=3)) then
  (BX c.Kids (fun y0=>EJ y0 (fun y0=>BO n y0 a m))).bind fun e=>
  some (!e)
  else
  if (decide (c.Kind=4)) then
  (BX c.Kids (fun y0=>BO n y0 a m)).bind fun f=>
  some f
  else
  if (decide (c.Kind=5)) then
  (CX a c m).bind fun g=>
  (D2 g (fun y0=>B6 n y0 a c)).bind fun h=>
  some h
  else
  some true
def BO [Ev]:Nat->AA->AE->AG->ca
 | 0,_,_,_=>none
 | n+1,k,b,c=>
  (BR n b k c).bind fun a=>
  some a
def B6 [Ev]:Nat->AG->AE->AA->ca
 | 0,_,_,_=>none
 | n+1,b,d,e=>
  (AK e.Kids 0).bind fun c=>
  (BR n d c b).bind fun a=>
  some a
end
def _explain_scene__holds [Ev] (a:AE) (c:AA) (m:AG):ca:=Hq fun n=>BR n a c m
def N7 [Ev] (k:AA) (a:AE) (b:AG):ca:=Hq fun n=>BO n k a b
def N8 [Ev] (a:AG) (b:AE) (c:AA):ca:=Hq fun n=>B6 n a b c
def IN (b:Ne) (c:Int) (a:Ne):Option AO:=
 (slices_Clone_int b).bind fun e=>
 (slices_Clone_int a).bind fun d=>
 some (AO.mk e c d)
mutual
def BL [Ev]:Nat->AE->AA->AG->Ne->Bool->Option (List AO)
 | 0,_,_,_,_,_=>none
 | n+1,d,c,m,a,b=>
  if (decide (c.Kind=2)) then
  (AK c.Kids 0).bind fun e=>
  (D8 a 0).bind fun f=>
  (BL n d e m f (!b)).bind fun g=>
  some g
  else
  (if (decide (c.Kind=3)) then
  some (decide (c.Kind=3))
  else
  some (decide (c.Kind=4))).bind fun w1=>
  if w1 then
  (B7 n d c m a b).bind fun h=>
  some h
  else
  if (decide (c.Kind=5)) then
  (CA n d c m a b).bind fun i=>
  some i
  else
  (IN a 1 []).bind fun j=>
  some [j]
def B7 [Ev]:Nat->AE->AA->AG->Ne->Bool->Option (List AO)
 | 0,_,_,_,_,_=>none
 | n+1,e,c,m,b,a=>
  thenR (forR (ρ:=(List AO)) (fun (i0:Int) (s0:List AO)=>
  (AK c.Kids i0).bind fun d=>
  if ((decide (c.Kind=3))==a) then
  (D8 b i0).bind fun f=>
  (BL n e d m f a).bind fun g=>
  (B9 s0 g).bind fun h=>
  some (.next h)
  else
  (_explain_scene__holds e d m).bind fun i=>
  if (i==a) then
  (D8 b i0).bind fun j=>
  (BL n e d m j a).bind fun k=>
  some (.ret k)
  else
  some (.next s0)) 0 (c.Kids.length:Int) []) (fun s0=>
  some s0) (fun v0=>some v0)
def CA [Ev]:Nat->AE->AA->AG->Ne->Bool->Option (List AO)
 | 0,_,_,_,_,_=>none
 | n+1,e,c,m,a,d=>
  (CX e c m).bind fun f=>
  if ((!d)&&(decide ((f.length:Int)=0))) then
  (IN a 3 m.Morphism.Nodes).bind fun h=>
  some [h]
  else
  thenR (forR (ρ:=(List AO)) (fun (i0:Int) (s0:List AO)=>
  (AK f i0).bind fun b=>
  if ((!d)&&(decide (i0<5))) then
  (IN a 4 b.Morphism.Nodes).bind fun i=>
  (B9 s0 [i]).bind fun j=>
  (AK c.Kids 0).bind fun k=>
  (D8 a 0).bind fun l=>
  (BL n e k b l false).bind fun o=>
  (B9 j o).bind fun p=>
  some (.next p)
  else
  (if d then ((AK c.Kids 0).bind fun q=>
  (_explain_scene__holds e q b).bind fun r=>
  some (r)) else some false).bind fun s=>
  if s then
  (IN a 2 b.Morphism.Nodes).bind fun g=>
  (AK c.Kids 0).bind fun t=>
  if (!decide (t.Kind=1)) then
  (AK c.Kids 0).bind fun u=>
  (D8 a 0).bind fun v=>
  (BL n e u b v true).bind fun w=>
  (B9 [g] w).bind fun x=>
  some (.ret x)
  else
  some (.ret [g])
  else
  some (.next s0)) 0 (f.length:Int) []) (fun s0=>
  some s0) (fun v0=>some v0)
end
def Ia [Ev] (d:AE) (c:AA) (m:AG) (a:Ne) (b:Bool):Option (List AO):=Hq fun n=>BL n d c m a b
def N9 [Ev] (d:AE) (c:AA) (m:AG) (a:Ne) (b:Bool):Option (List AO):=Hq fun n=>B7 n d c m a b
def Oc [Ev] (d:AE) (c:AA) (m:AG) (a:Ne) (b:Bool):Option (List AO):=Hq fun n=>CA n d c m a b
def Hz [Ev] (t:AD) (p:Pattern) (c:AA) (d:A0) (m:AG) (a:Bool):Option (List AO × Int):=
 (C1 t p c d m a).bind fun b=>
 if (!decide (b.2=0)) then
 some ([],b.2)
 else
 if b.1 then
 some ([],10)
 else
 (Ia (AE.mk t d a) c m [] false).bind fun e=>
 some (e,0)
def IM (l:List AO) (b:Ne) (c:Int) (a:Ne):ca:=
 (if (decide (0<(l.length:Int))) then ((AK l 0).bind fun d=>
 some (decide (d.Kind=c))) else some false).bind fun e=>
 (if e then ((AK l 0).bind fun f=>
 (slices_Equal_int f.Path b).bind fun g=>
 some (g)) else some false).bind fun h=>
 (if h then ((AK l 0).bind fun i=>
 (slices_Equal_int i.Nodes a).bind fun j=>
 some (j)) else some false).bind fun k=>
 some k
def KT (s:Ne) (n:Int):Option Ne:=if s=[]∧0<=n∧n<=BY then some [] else none
def K6 (a:List Ne):Option Ne:=
 (forA (fun (i0:Int) (s0:Int)=>
 (AK a i0).bind fun b=>
 if (decide ((A6 (s0+(b.length:Int)))<0)) then
 none
 else
 some (A6 (s0+(b.length:Int)))) 0 (a.length:Int) 0).bind fun s0=>
 (KT [] s0).bind fun c=>
 (forA (fun (i2:Int) (s2:Ne)=>
 (AK a i2).bind fun d=>
 (B9 s2 d).bind fun e=>
 some e) 0 (a.length:Int) c).bind fun s2=>
 some s2
def Ii (a:Ne) (b:Ne):Option Ne:=
 (K6 [a,b]).bind fun e=>
 (slices_Sort_int e).bind fun c=>
 (slices_Compact_int c).bind fun d=>
 some d
def F4 [Ev] (a:Ne) (d:Int->Option Ne):Option Ne:=
 (forA (fun (i0:Int) (s0:Ne)=>
 (AK a i0).bind fun b=>
 (d b).bind fun c=>
 (forA (fun (i2:Int) (s2:Ne)=>
 (AK c i2).bind fun e=>
 (B9 s2 [A6 (b+e)]).bind fun f=>
 some f) 0 (c.length:Int) s0).bind fun s2=>
 some s2) 0 (a.length:Int) []).bind fun s0=>
 (Ii s0 []).bind fun g=>
 some g
mutual
def A1 [Ev]:Nat->AE->(List AO)->AA->AG->Ne->Bool->Option Ne
 | 0,_,_,_,_,_,_=>none
 | n+1,d,l,c,m,b,a=>
  if (decide (c.Kind=2)) then
  (AK c.Kids 0).bind fun f=>
  (D8 b 0).bind fun g=>
  (A1 n d l f m g (!a)).bind fun h=>
  some h
  else
  if (decide (c.Kind=5)) then
  (BH n d l c m b a).bind fun i=>
  some i
  else
  if (decide (c.Kind=1)) then
  (IM l b 1 []).bind fun j=>
  if j then
  some [1]
  else
  some []
  else
  if ((decide (c.Kind=3))==a) then
  (forA (fun (i1:Int) (s1:Ne)=>
  (AK c.Kids i1).bind fun k=>
  (F4 s1 (fun y0=>BF n y0 d l k m b i1 a)).bind fun o=>
  some o) 0 (c.Kids.length:Int) [0]).bind fun s1=>
  some s1
  else
  (forA (fun (i3:Int) (s3:Ne)=>
  (AK c.Kids i3).bind fun e=>
  (_explain_scene__holds d e m).bind fun p=>
  if (p==a) then
  (D8 b i3).bind fun q=>
  (A1 n d l e m q a).bind fun r=>
  (Ii s3 r).bind fun s=>
  some s
  else
  some s3) 0 (c.Kids.length:Int) []).bind fun s3=>
  some s3
def BH [Ev]:Nat->AE->(List AO)->AA->AG->Ne->Bool->Option Ne
 | 0,_,_,_,_,_,_=>none
 | n+1,e,l,c,m,a,f=>
  (CX e c m).bind fun b=>
  (AK c.Kids 0).bind fun d=>
  if ((!f)&&(decide ((b.length:Int)=0))) then
  (IM l a 3 m.Morphism.Nodes).bind fun i=>
  if i then
  some [1]
  else
  some []
  else
  if (!f) then
  (slc b 0 (min (b.length:Int) 5)).bind fun h=>
  (forA (fun (i0:Int) (s0:Ne)=>
  (AK h i0).bind fun j=>
  (F4 s0 (fun y0=>BB n y0 l a j e d)).bind fun k=>
  some k) 0 (h.length:Int) [0]).bind fun s0=>
  some s0
  else
  (forA (fun (i2:Int) (s2:Ne)=>
  (AK b i2).bind fun g=>
  (IM l a 2 g.Morphism.Nodes).bind fun o=>
  (if (!o) then some true else ((_explain_scene__holds e d g).bind fun p=>
  some (!p))).bind fun q=>
  if q then
  some s2
  else
  if (decide (d.Kind=1)) then
  (Ii s2 [1]).bind fun r=>
  some r
  else
  (F4 [1] (fun y0=>BC n y0 e l d g a)).bind fun s=>
  (Ii s2 s).bind fun t=>
  some t) 0 (b.length:Int) []).bind fun s2=>
  some s2
def BF [Ev]:Nat->Int->AE->(List AO)->AA->AG->Ne->Int->Bool->Option Ne
 | 0,_,_,_,_,_,_,_,_=>none
 | n+1,d,k,e,i,f,j,g,h=>
  (slc e d e.length).bind fun a=>
  (D8 j g).bind fun b=>
  (A1 n k a i f b h).bind fun c=>
  some c
def BB [Ev]:Nat->Int->(List AO)->Ne->AG->AE->AA->Option Ne
 | 0,_,_,_,_,_,_=>none
 | n+1,a,e,g,f,h,i=>
  (slc e a e.length).bind fun b=>
  (IM b g 4 f.Morphism.Nodes).bind fun c=>
  if (!c) then
  some []
  else
  (F4 [1] (fun y0=>A8 n y0 h e a i f g)).bind fun d=>
  some d
def A8 [Ev]:Nat->Int->AE->(List AO)->Int->AA->AG->Ne->Option Ne
 | 0,_,_,_,_,_,_,_=>none
 | n+1,k,i,d,g,f,h,e=>
  (slc d (A6 (g+k)) d.length).bind fun a=>
  (D8 e 0).bind fun b=>
  (A1 n i a f h b false).bind fun c=>
  some c
def BC [Ev]:Nat->Int->AE->(List AO)->AA->AG->Ne->Option Ne
 | 0,_,_,_,_,_,_=>none
 | n+1,d,i,e,g,f,h=>
  (slc e d e.length).bind fun a=>
  (D8 h 0).bind fun b=>
  (A1 n i a g f b true).bind fun c=>
  some c
end
def HD [Ev] (d:AE) (l:List AO) (c:AA) (m:AG) (a:Ne) (b:Bool):Option Ne:=Hq fun n=>A1 n d l c m a b
def Nr [Ev] (d:AE) (l:List AO) (c:AA) (m:AG) (a:Ne) (b:Bool):Option Ne:=Hq fun n=>BH n d l c m a b
def NV [Ev] (a:Int) (h:AE) (c:List AO) (f:AA) (b:AG) (g:Ne) (d:Int) (e:Bool):Option Ne:=Hq fun n=>BF n a h c f b g d e
def NG [Ev] (a:Int) (f:List AO) (c:Ne) (d:AG) (b:AE) (e:AA):Option Ne:=Hq fun n=>BB n a f c d b e
def Md [Ev] (k:Int) (f:AE) (b:List AO) (d:Int) (a:AA) (e:AG) (c:Ne):Option Ne:=Hq fun n=>A8 n k f b d a e c
def NH [Ev] (a:Int) (f:AE) (c:List AO) (d:AA) (b:AG) (e:Ne):Option Ne:=Hq fun n=>BC n a f c d b e
def Ih [Ev] (t:AD) (p:Pattern) (c:AA) (d:A0) (m:AG) (a:Bool) (l:List AO):ca:=
 (C1 t p c d m a).bind fun b=>
 (if ((decide (b.2=0))&&(!b.1)) then ((HD (AE.mk t d a) l c m [] false).bind fun e=>
 (slices_Contains_int e (l.length:Int)).bind fun f=>
 some (f)) else some false).bind fun g=>
 some g
def D9 [Ev]:Nat->Ne->Int->Option (List Ne)
 | 0,_,_=>none
 | n+1,l,b=>
  if (decide (b=0)) then
  some [[]]
  else
  (forA (fun (i0:Int) (s0:List Ne)=>
  (slc l (A6 (i0+1)) l.length).bind fun c=>
  (D9 n c (A6 (b - 1))).bind fun a=>
  (forA (fun (i2:Int) (s2:List Ne)=>
  (AK a i2).bind fun d=>
  (AK l i0).bind fun e=>
  (B9 [e] d).bind fun f=>
  (B9 s2 [f]).bind fun g=>
  some g) 0 (a.length:Int) s0).bind fun s2=>
  some s2) 0 (l.length:Int) []).bind fun s0=>
  some s0
def KZ [Ev] (l:Ne) (a:Int):Option (List Ne):=Hq fun n=>D9 n l a
def H0 (a:A0) (m:AG) (j:Ne):Option (A0 × AG):=
 (Ls (a.Graph.Edges.length:Int) 0).bind fun b=>
 (forA (fun (i0:Int) (s0:A0 × Ne)=>
 (AK a.Graph.Edges i0).bind fun c=>
 (slices_Contains_int j i0).bind fun d=>
 if (!d) then
 (AK s0.2 i0).bind fun i=>
 (B9 s0.1.Graph.Edges [c]).bind fun e=>
 some (A0.mk (Graph.mk s0.1.Graph.Nodes e) s0.1.Values,CU s0.2 i0 (s0.1.Graph.Edges.length:Int))
 else
 some (s0.1,s0.2)) 0 (a.Graph.Edges.length:Int) (A0.mk (Graph.mk a.Graph.Nodes []) a.Values,b)).bind fun s0=>
 (forA (fun (i2:Int) (s2:AG)=>
 (AK m.Morphism.Edges i2).bind fun f=>
 (AK s0.2 f).bind fun g=>
 (B9 s2.Morphism.Edges [g]).bind fun h=>
 some (AG.mk (Morphism.mk s2.Morphism.Nodes h) s2.Vars)) 0 (m.Morphism.Edges.length:Int) (AG.mk (Morphism.mk m.Morphism.Nodes []) m.Vars)).bind fun s2=>
 some (s0.1,s2)
def E9 [Ev] (t:AD) (p:Pattern) (c:AA) (a:A0) (m:AG):Option (Ne × Int):=
 (C1 t p c a m true).bind fun b=>
 if (!decide (b.2=0)) then
 some ([],b.2)
 else
 (if (!decide (c.Kind=2)) then some true else ((AK c.Kids 0).bind fun h=>
 some (!decide (h.Kind=5)))).bind fun i=>
 if i then
 some ([],8)
 else
 if (decide (12<(a.Graph.Edges.length:Int))) then
 some ([],3)
 else
 (forA (fun (i0:Int) (s0:Ne)=>
 (slices_Contains_int m.Morphism.Edges i0).bind fun j=>
 if (!j) then
 (B9 s0 [i0]).bind fun k=>
 some k
 else
 some s0) 0 (a.Graph.Edges.length:Int) []).bind fun s0=>
 thenR (forR (ρ:=(Ne × Int)) (fun (i2:Int) (_:Unit)=>
 (KZ s0 i2).bind fun d=>
 thenR (forR (ρ:=(Ne × Int)) (fun (i4:Int) (_:Unit)=>
 (AK d i4).bind fun e=>
 (H0 a m e).bind fun f=>
 (C1 t p c f.1 f.2 true).bind fun g=>
 if ((decide (g.2=0))&&g.1) then
 some (.ret (e,0))
 else
 some (.next ())) 0 (d.length:Int) ()) (fun _=>
 some (.next ())) (fun v4=>some (.ret v4))) 0 4 ()) (fun _=>
 some ([],10)) (fun v2=>some v2)
def NR :Option AD:=
 some (AD.mk [CP.mk (⟨#[65,99,99,111,117,110,116]⟩:ByteArray) (-1) true [Attr.mk (⟨#[98,97,108,97,110,99,101]⟩:ByteArray) (-1000) 1000 []],CP.mk (⟨#[67,97,115,104]⟩:ByteArray) 0 false [],CP.mk (⟨#[76,111,97,110]⟩:ByteArray) 0 false [Attr.mk (⟨#[115,116,97,116,101]⟩:ByteArray) 0 1 [(⟨#[111,112,101,110]⟩:ByteArray),(⟨#[99,108,111,115,101,100]⟩:ByteArray)]],CP.mk (⟨#[80,101,114,115,111,110]⟩:ByteArray) (-1) false []] [DA.mk (⟨#[111,119,110,115]⟩:ByteArray) 3 0 0 (-1) 1 1,DA.mk (⟨#[112,97,121,115]⟩:ByteArray) 1 1 0 (-1) 0 (-1)])
def NP :Option (HP × Jr):=
 (some (AA.mk 2 [AA.mk 5 [AA.mk 1 [] (Morphism.mk [] []) (Pattern.mk (Graph.mk [] []) [] 0 [])] (Morphism.mk [0,1] [0]) (Pattern.mk (Graph.mk [3,0,0] [DG.mk 0 0 1,DG.mk 0 0 2]) [] 0 [])] (Morphism.mk [] []) (Pattern.mk (Graph.mk [] []) [] 0 []))).bind fun a=>
 some (HP.mk (Pattern.mk (Graph.mk [3,0] [DG.mk 0 0 1]) [] 0 []) a,Jr.mk (A0.mk (Graph.mk [3,1,1] [DG.mk 0 0 1,DG.mk 0 0 2]) [[],[10],[5]]) (AG.mk (Morphism.mk [0,1] [0]) []) true)
def strconv_Itoa (i:Int):Option ByteArray:=if 0<=i∧i<100 then some (Xi i.toNat) else none
def strings_Join (l:List ByteArray) (s:ByteArray):Option ByteArray:=if l.length<=BY∧(Iy l s).size<=BY then some (Iy l s) else none
def JX [Ev] (t:AD) (g:A0) (l:List AO):Option (List ByteArray × Int):=
 (HO t g).bind fun o=>
 if (!decide (o.2=0)) then
 some ([],o.2)
 else
 thenR (forR (ρ:=(List ByteArray × Int)) (fun (i0:Int) (s0:List ByteArray)=>
 (AK l i0).bind fun a=>
 if ((decide (a.Kind<1))||(decide (4<a.Kind))) then
 some (.ret ([],6))
 else
 (forA (fun (i2:Int) (s2:List ByteArray)=>
 (AK a.Path i2).bind fun p=>
 (strconv_Itoa p).bind fun q=>
 (B9 s2 [q]).bind fun r=>
 some r) 0 (a.Path.length:Int) []).bind fun s2=>
 if (decide (0<(s2.length:Int))) then
 (strings_Join s2 (⟨#[46]⟩:ByteArray)).bind fun s=>
 (AK [(⟨#[116,114,117,101]⟩:ByteArray),(⟨#[102,111,117,110,100]⟩:ByteArray),(⟨#[109,105,115,115,105,110,103]⟩:ByteArray),(⟨#[102,97,105,108,115]⟩:ByteArray)] (A6 (a.Kind - 1))).bind fun h=>
 thenR (forR (ρ:=(List ByteArray × Int)) (fun (i4:Int) (s4:List ByteArray)=>
 (AK a.Nodes i4).bind fun b=>
 if ((decide (b<0))||(decide ((g.Graph.Nodes.length:Int)<=b))) then
 some (.ret ([],6))
 else
 (strconv_Itoa b).bind fun i=>
 (MN (⟨#[110]⟩:ByteArray) i).bind fun j=>
 (MN j (⟨#[58]⟩:ByteArray)).bind fun k=>
 (AK g.Graph.Nodes b).bind fun m=>
 (AK t.Nodes m).bind fun n=>
 (MN k n.Name).bind fun c=>
 (B9 s4 [c]).bind fun d=>
 some (.next d)) 0 (a.Nodes.length:Int) [s,h]) (fun s4=>
 (strings_Join s4 (⟨#[32]⟩:ByteArray)).bind fun e=>
 (B9 s0 [e]).bind fun f=>
 some (.next f)) (fun v4=>some (.ret v4))
 else
 (AK [(⟨#[116,114,117,101]⟩:ByteArray),(⟨#[102,111,117,110,100]⟩:ByteArray),(⟨#[109,105,115,115,105,110,103]⟩:ByteArray),(⟨#[102,97,105,108,115]⟩:ByteArray)] (A6 (a.Kind - 1))).bind fun h=>
 thenR (forR (ρ:=(List ByteArray × Int)) (fun (i4:Int) (s4:List ByteArray)=>
 (AK a.Nodes i4).bind fun b=>
 if ((decide (b<0))||(decide ((g.Graph.Nodes.length:Int)<=b))) then
 some (.ret ([],6))
 else
 (strconv_Itoa b).bind fun i=>
 (MN (⟨#[110]⟩:ByteArray) i).bind fun j=>
 (MN j (⟨#[58]⟩:ByteArray)).bind fun k=>
 (AK g.Graph.Nodes b).bind fun m=>
 (AK t.Nodes m).bind fun n=>
 (MN k n.Name).bind fun c=>
 (B9 s4 [c]).bind fun d=>
 some (.next d)) 0 (a.Nodes.length:Int) [(⟨#[45]⟩:ByteArray),h]) (fun s4=>
 (strings_Join s4 (⟨#[32]⟩:ByteArray)).bind fun e=>
 (B9 s0 [e]).bind fun f=>
 some (.next f)) (fun v4=>some (.ret v4))) 0 (l.length:Int) []) (fun s0=>
 some (s0,0)) (fun v0=>some v0)
def slices_Equal_string (a:List ByteArray) (b:List ByteArray):ca:=
 if (!decide ((a.length:Int)=(b.length:Int))) then
 some false
 else
 thenR (forR (ρ:=Bool) (fun (i0:Int) (_:Unit)=>
 (AK a i0).bind fun c=>
 (AK b i0).bind fun d=>
 if (!(c==d)) then
 some (.ret false)
 else
 some (.next ())) 0 (a.length:Int) ()) (fun _=>
 some true) (fun v0=>some v0)
def FY [Ev] :ca:=
 (NR).bind fun b=>
 (NP).bind fun a=>
 (Hz b a.1.P a.1.C a.2.H a.2.M true).bind fun c=>
 (JX b a.2.H c.1).bind fun d=>
 (E9 b a.1.P a.1.C a.2.H a.2.M).bind fun e=>
 (if (((decide (c.2=0))&&(decide (d.2=0)))&&(decide (e.2=0))) then ((slices_Equal_string d.1 [(⟨#[48,32,102,111,117,110,100,32,110,48,58,80,101,114,115,111,110,32,110,49,58,67,97,115,104,32,110,50,58,67,97,115,104]⟩:ByteArray)]).bind fun f=>
 some (f)) else some false).bind fun g=>
 (if g then ((slices_Equal_int e.1 [1]).bind fun h=>
 some (h)) else some false).bind fun i=>
 (if i then ((Ih b a.1.P a.1.C a.2.H a.2.M true c.1).bind fun j=>
 some (j)) else some false).bind fun k=>
 some k
def Lw [Ev] (t:AD):ca:=
 if ((decide (20<(t.Nodes.length:Int)))||(decide (30<(t.Edges.length:Int)))) then
 some false
 else
 thenR (forR (ρ:=Bool) (fun (i0:Int) (s0:Int)=>
 (AK t.Nodes i0).bind fun b=>
 (if (decide (30<(A6 (s0+(b.Attrs.length:Int))))) then some true else ((AK t.Nodes i0).bind fun d=>
 some (decide (40<(d.Name.size:Int))))).bind fun e=>
 if e then
 some (.ret false)
 else
 thenR (If (ρ:=Bool) (fun (s2:Int)=>
 (AK t.Nodes i0).bind fun f=>
 if (decide (s2<(f.Attrs.length:Int))) then
 (AK t.Nodes i0).bind fun g=>
 (AK g.Attrs s2).bind fun a=>
 if ((decide (40<(a.Name.size:Int)))||(decide (25<(a.Names.length:Int)))) then
 some (.ret false)
 else
 thenR (If (ρ:=Bool) (fun (s4:Int)=>
 if (decide (s4<(a.Names.length:Int))) then
 (AK a.Names s4).bind fun h=>
 if (decide (40<(h.size:Int))) then
 some (.ret false)
 else
 some (.next (A6 (s4+1)))
 else
 some (.brk s4)) 0) (fun s4=>
 some (.next (A6 (s2+1)))) (fun v4=>some (.ret v4))
 else
 some (.brk s2)) 0) (fun s2=>
 some (.next (A6 (s0+(b.Attrs.length:Int))))) (fun v2=>some (.ret v2))) 0 (t.Nodes.length:Int) 0) (fun s0=>
 thenR (forR (ρ:=Bool) (fun (i6:Int) (_:Unit)=>
 (AK t.Edges i6).bind fun c=>
 if (decide (40<(c.Name.size:Int))) then
 some (.ret false)
 else
 some (.next ())) 0 (t.Edges.length:Int) ()) (fun _=>
 some true) (fun v6=>some v6)) (fun v0=>some v0)
def Jk (g:Graph):ca:=
 some ((decide ((g.Nodes.length:Int)<=45))&&(decide ((g.Edges.length:Int)<=90)))
def Ly (p:Pattern):ca:=
 (Jk p.Graph).bind fun a=>
 some ((a&&(decide ((p.Slots.length:Int)<=15)))&&(decide ((p.Tests.length:Int)<=15)))
def OY (m:Morphism) (n:Int):ca:=
 some (decide ((A6 ((m.Nodes.length:Int)+(m.Edges.length:Int)))<=n))
def FZ [Ev]:Nat->AA->Int->dD
 | 0,_,_=>none
 | n+1,c,a=>
  (Ly c.Pattern).bind fun b=>
  (if (!b) then some true else ((OY c.Map 140).bind fun d=>
  some (!d))).bind fun e=>
  if e then
  some (-1)
  else
  thenR (If (ρ:=Int) (fun (s0:Int × Int)=>
  if ((decide (s0.2<(c.Kids.length:Int)))&&(decide (0<=s0.1))) then
  (AK c.Kids s0.2).bind fun f=>
  (FZ n f s0.1).bind fun g=>
  some (.next (g,A6 (s0.2+1)))
  else
  some (.brk (s0.1,s0.2))) (A6 (a - 1),0)) (fun s0=>
  some s0.1) (fun v0=>some v0)
def Po [Ev] (c:AA) (a:Int):dD:=Hq fun n=>FZ n c a
def NA [Ev] (c:AA):ca:=
 (Po c 40).bind fun a=>
 some (decide (0<=a))
def Lx (a:A0):ca:=
 (Jk a.Graph).bind fun c=>
 if ((!c)||(decide (45<(a.Values.length:Int)))) then
 some false
 else
 thenR (forR (ρ:=Bool) (fun (i0:Int) (_:Unit)=>
 (AK a.Values i0).bind fun b=>
 if (decide (12<(b.length:Int))) then
 some (.ret false)
 else
 some (.next ())) 0 (a.Values.length:Int) ()) (fun _=>
 some true) (fun v0=>some v0)
def Kx (n:Int):ca:=
 some ((decide (0<=n))&&(decide (n<=99)))
def M0 (e:DG) (a:Int):ca:=
 (Kx e.Type').bind fun b=>
 some ((((b&&(decide (0<=e.From)))&&(decide (e.From<a)))&&(decide (0<=e.To)))&&(decide (e.To<a)))
def GR (g:Graph):dD:=
 if ((decide (40<(g.Nodes.length:Int)))||(decide (80<(g.Edges.length:Int)))) then
 some 3
 else
 thenR (forR (ρ:=Int) (fun (i0:Int) (_:Unit)=>
 (AK g.Nodes i0).bind fun a=>
 (Kx a).bind fun b=>
 if (!b) then
 some (.ret 6)
 else
 some (.next ())) 0 (g.Nodes.length:Int) ()) (fun _=>
 thenR (forR (ρ:=Int) (fun (i2:Int) (_:Unit)=>
 (AK g.Edges i2).bind fun c=>
 (M0 c (g.Nodes.length:Int)).bind fun d=>
 if (!d) then
 some (.ret 6)
 else
 some (.next ())) 0 (g.Edges.length:Int) ()) (fun _=>
 some 0) (fun v2=>some v2)) (fun v0=>some v0)
def Nb (t:F3):Option ByteArray:=
 if (decide (t.Kind=3)) then
 (MN (⟨#[34]⟩:ByteArray) t.Text).bind fun a=>
 (MN a (⟨#[34]⟩:ByteArray)).bind fun b=>
 some b
 else
 some t.Text
def Ki (c:Int):ca:=
 some (((decide (97<=c))&&(decide (c<=122)))||((decide (65<=c))&&(decide (c<=90))))
def JE (c:Int):ca:=
 some ((decide (48<=c))&&(decide (c<=57)))
def M7 [Ev] (a:ByteArray) (c:Int) (b:Bool):dD:=
 thenR (If (ρ:=Int) (fun (s0:Int)=>
 (if (decide ((A6 (c+s0))<(a.size:Int))) then ((sidx a (A6 (c+s0))).bind fun d=>
 (JE d).bind fun e=>
 (if e then some true else ((if (!b) then ((sidx a (A6 (c+s0))).bind fun f=>
 (Ki f).bind fun g=>
 (if g then some true else ((sidx a (A6 (c+s0))).bind fun h=>
 some (decide (h=95)))).bind fun i=>
 some (i)) else some false).bind fun j=>
 some (j))).bind fun k=>
 some (k)) else some false).bind fun l=>
 if l then
 some (.next (A6 (s0+1)))
 else
 some (.brk s0)) 0) (fun s0=>
 some s0) (fun v0=>some v0)
def Kj [Ev] (b:ByteArray) (c:Int):dD:=
 thenR (If (ρ:=Int) (fun (s0:Int)=>
 if (decide ((A6 (c+s0))<(b.size:Int))) then
 (sidx b (A6 (c+s0))).bind fun a=>
 if (decide (a=34)) then
 some (.ret (A6 (s0+1)))
 else
 if ((decide (a<32))||(decide (126<a))) then
 some (.ret 0)
 else
 some (.next (A6 (s0+1)))
 else
 some (.brk s0)) 1) (fun s0=>
 some 0) (fun v0=>some v0)
def My :Option (List ByteArray):=
 some [(⟨#[45,62]⟩:ByteArray),(⟨#[60,61]⟩:ByteArray),(⟨#[62,61]⟩:ByteArray),(⟨#[61,61]⟩:ByteArray),(⟨#[33,61]⟩:ByteArray),(⟨#[123]⟩:ByteArray),(⟨#[125]⟩:ByteArray),(⟨#[40]⟩:ByteArray),(⟨#[41]⟩:ByteArray),(⟨#[91]⟩:ByteArray),(⟨#[93]⟩:ByteArray),(⟨#[44]⟩:ByteArray),(⟨#[59]⟩:ByteArray),(⟨#[58]⟩:ByteArray),(⟨#[61]⟩:ByteArray),(⟨#[43]⟩:ByteArray),(⟨#[45]⟩:ByteArray),(⟨#[42]⟩:ByteArray),(⟨#[60]⟩:ByteArray),(⟨#[62]⟩:ByteArray),(⟨#[33]⟩:ByteArray),(⟨#[38]⟩:ByteArray),(⟨#[124]⟩:ByteArray),(⟨#[46]⟩:ByteArray),(⟨#[63]⟩:ByteArray)]
def M6 [Ev] (a:ByteArray) (d:Int):Option (F3 × Int × Int):=
 (sidx a d).bind fun c=>
 (Ki c).bind fun i=>
 (if i then some true else ((JE c).bind fun j=>
 some (j))).bind fun k=>
 if k then
 (JE c).bind fun l=>
 (M7 a d l).bind fun f=>
 (JE c).bind fun m=>
 (if m then
 some (2,9)
 else
 some (1,20)).bind fun w1=>
 if (decide (w1.2<f)) then
 some (F3.mk 0 (⟨#[]⟩:ByteArray) 0,0,3)
 else
 (sslc a d (A6 (d+f))).bind fun n=>
 some (F3.mk w1.1 n 0,f,0)
 else
 if (decide (c=34)) then
 (Kj a d).bind fun e=>
 if (decide (e=0)) then
 some (F3.mk 0 (⟨#[]⟩:ByteArray) 0,0,2)
 else
 if (decide (60<(A6 (e - 2)))) then
 some (F3.mk 0 (⟨#[]⟩:ByteArray) 0,0,3)
 else
 (sslc a (A6 (d+1)) (A6 ((A6 (d+e)) - 1))).bind fun o=>
 some (F3.mk 3 o 0,e,0)
 else
 (My).bind fun b=>
 thenR (forR (ρ:=(F3 × Int × Int)) (fun (i0:Int) (s0:F3)=>
 (AK b i0).bind fun p=>
 (if (decide ((A6 (d+(p.size:Int)))<=(a.size:Int))) then ((AK b i0).bind fun q=>
 (sslc a d (A6 (d+(q.size:Int)))).bind fun r=>
 (AK b i0).bind fun s=>
 some (r==s)) else some false).bind fun t=>
 if t then
 (AK b i0).bind fun g=>
 (AK b i0).bind fun h=>
 some (.ret (F3.mk 4 g 0,(h.size:Int),0))
 else
 some (.next s0)) 0 (b.length:Int) (F3.mk 0 (⟨#[]⟩:ByteArray) 0)) (fun s0=>
 some (F3.mk 0 (⟨#[]⟩:ByteArray) 0,0,2)) (fun v0=>some v0)
def Mx [Ev] (t:F3):ca:=
 (Nb t).bind fun b=>
 if (b==(⟨#[]⟩:ByteArray)) then
 some false
 else
 (M6 b 0).bind fun a=>
 some (((decide (a.2.2=0))&&(decide (a.2.1=(b.size:Int))))&&(decide (a.1.Kind=t.Kind)))
def Hr [Ev] (a:ByteArray):ca:=
 (Mx (F3.mk 1 a 0)).bind fun b=>
 some b
def FK (n:Int) (b:Int) (a:Int):ca:=
 some ((decide (b<=n))&&(decide (n<=a)))
def Hs [Ev]:Nat->AD->Int->Option (List Attr)
 | 0,_,_=>none
 | n+1,t,a=>
  if (decide (a<0)) then
  some []
  else
  (AK t.Nodes a).bind fun b=>
  (Hs n t b.Parent).bind fun c=>
  (B9 [] c).bind fun d=>
  (AK t.Nodes a).bind fun e=>
  (B9 d e.Attrs).bind fun f=>
  some f
def Mz [Ev] (t:AD) (a:Int):Option (List Attr):=Hq fun n=>Hs n t a
def LJ [Ev] (l:List ByteArray):dD:=
 if (decide (20<(l.length:Int))) then
 some 3
 else
 thenR (forR (ρ:=Int) (fun (i0:Int) (_:Unit)=>
 (AK l i0).bind fun a=>
 (Hr a).bind fun b=>
 if (!b) then
 some (.ret 2)
 else
 thenR (forR (ρ:=Int) (fun (i2:Int) (_:Unit)=>
 (AK l i2).bind fun c=>
 (AK l i0).bind fun d=>
 if (c==d) then
 some (.ret 5)
 else
 some (.next ())) 0 i0 ()) (fun _=>
 some (.next ())) (fun v2=>some (.ret v2))) 0 (l.length:Int) ()) (fun _=>
 some 0) (fun v0=>some v0)
def I2 [Ev] (a:Attr):dD:=
 if (decide ((a.Names.length:Int)=0)) then
 (FK a.Low (-1000000) 1000000).bind fun c=>
 (if (!c) then some true else ((FK a.High a.Low 1000000).bind fun d=>
 some (!d))).bind fun e=>
 if e then
 some 6
 else
 some 0
 else
 (LJ a.Names).bind fun b=>
 if (!decide (b=0)) then
 some b
 else
 if ((!decide (a.Low=0))||(!decide (a.High=(A6 ((a.Names.length:Int) - 1))))) then
 some 6
 else
 some 0
def MJ [Ev] (t:AD) (c:Int):dD:=
 (AK t.Nodes c).bind fun b=>
 (Hr b.Name).bind fun e=>
 if (!e) then
 some 2
 else
 thenR (forR (ρ:=Int) (fun (i0:Int) (_:Unit)=>
 (AK t.Nodes i0).bind fun f=>
 if (f.Name==b.Name) then
 some (.ret 5)
 else
 some (.next ())) 0 c ()) (fun _=>
 (FK b.Parent (-1) (A6 (c - 1))).bind fun g=>
 if (!g) then
 some 6
 else
 (Mz t c).bind fun a=>
 if ((decide (4<(b.Attrs.length:Int)))||(decide (8<(a.length:Int)))) then
 some 3
 else
 thenR (forR (ρ:=Int) (fun (i2:Int) (_:Unit)=>
 (AK a i2).bind fun h=>
 (Hr h.Name).bind fun i=>
 if (!i) then
 some (.ret 2)
 else
 thenR (forR (ρ:=Int) (fun (i4:Int) (_:Unit)=>
 (AK a i4).bind fun j=>
 (AK a i2).bind fun k=>
 if (j.Name==k.Name) then
 some (.ret 5)
 else
 some (.next ())) 0 i2 ()) (fun _=>
 (AK a i2).bind fun l=>
 (I2 l).bind fun d=>
 if (!decide (d=0)) then
 some (.ret d)
 else
 some (.next ())) (fun v4=>some (.ret v4))) (A6 ((a.length:Int) - (b.Attrs.length:Int))) (a.length:Int) ()) (fun _=>
 some 0) (fun v2=>some v2)) (fun v0=>some v0)
def KD (b:Int) (a:Int):ca:=
 (FK b 0 40).bind fun f=>
 (if f then ((if (decide (a=(-1))) then some true else ((FK a b 40).bind fun c=>
 some (c))).bind fun d=>
 some (d)) else some false).bind fun e=>
 some e
def MI [Ev] (t:AD) (b:Int):dD:=
 (AK t.Edges b).bind fun a=>
 (Hr a.Name).bind fun c=>
 if (!c) then
 some 2
 else
 thenR (forR (ρ:=Int) (fun (i0:Int) (_:Unit)=>
 (AK t.Edges i0).bind fun d=>
 if (d.Name==a.Name) then
 some (.ret 5)
 else
 some (.next ())) 0 b ()) (fun _=>
 (FK a.From 0 (A6 ((t.Nodes.length:Int) - 1))).bind fun e=>
 (if (!e) then some true else ((FK a.To 0 (A6 ((t.Nodes.length:Int) - 1))).bind fun f=>
 some (!f))).bind fun g=>
 (if g then some true else ((KD a.OutLow a.OutHigh).bind fun h=>
 some (!h))).bind fun i=>
 (if i then some true else ((KD a.InLow a.InHigh).bind fun j=>
 some (!j))).bind fun k=>
 if k then
 some 6
 else
 some 0) (fun v0=>some v0)
def JF [Ev] (t:AD):Option (ByteArray × Int):=
 if (decide ((t.Nodes.length:Int)=0)) then
 some ((⟨#[]⟩:ByteArray),7)
 else
 if ((decide (12<(t.Nodes.length:Int)))||(decide (20<(t.Edges.length:Int)))) then
 some ((⟨#[]⟩:ByteArray),3)
 else
 thenR (forR (ρ:=(ByteArray × Int)) (fun (i0:Int) (_:Unit)=>
 (MJ t i0).bind fun a=>
 if (!decide (a=0)) then
 (AK t.Nodes i0).bind fun c=>
 some (.ret (c.Name,a))
 else
 some (.next ())) 0 (t.Nodes.length:Int) ()) (fun _=>
 thenR (forR (ρ:=(ByteArray × Int)) (fun (i2:Int) (_:Unit)=>
 (MI t i2).bind fun b=>
 if (!decide (b=0)) then
 (AK t.Edges i2).bind fun d=>
 some (.ret (d.Name,b))
 else
 some (.next ())) 0 (t.Edges.length:Int) ()) (fun _=>
 some ((⟨#[]⟩:ByteArray),0)) (fun v2=>some v2)) (fun v0=>some v0)
def JG (t:AD) (g:Graph):ca:=
 thenR (forR (ρ:=Bool) (fun (i0:Int) (_:Unit)=>
 (AK g.Nodes i0).bind fun a=>
 (if (decide (a<0)) then some true else ((AK g.Nodes i0).bind fun b=>
 some (decide ((t.Nodes.length:Int)<=b)))).bind fun c=>
 if c then
 some (.ret false)
 else
 some (.next ())) 0 (g.Nodes.length:Int) ()) (fun _=>
 thenR (forR (ρ:=Bool) (fun (i2:Int) (_:Unit)=>
 (AK g.Edges i2).bind fun d=>
 (if (decide (d.Type'<0)) then some true else ((AK g.Edges i2).bind fun e=>
 some (decide ((t.Edges.length:Int)<=e.Type')))).bind fun f=>
 if f then
 some (.ret false)
 else
 some (.next ())) 0 (g.Edges.length:Int) ()) (fun _=>
 some true) (fun v2=>some v2)) (fun v0=>some v0)
def LI [Ev] (t:AD) (a:Int) (b:Int):dD:=
 (JF t).bind fun c=>
 if (!decide (c.2=0)) then
 some c.2
 else
 (FK a 0 (A6 ((t.Nodes.length:Int) - 1))).bind fun d=>
 (if (!d) then some true else ((FK b 0 (A6 ((t.Nodes.length:Int) - 1))).bind fun e=>
 some (!e))).bind fun f=>
 if f then
 some 6
 else
 some 0
def LH [Ev] (t:AD) (a:Int):Option (List Attr × Int):=
 (LI t a a).bind fun c=>
 if (!decide (c=0)) then
 some ([],c)
 else
 (Mz t a).bind fun d=>
 (forA (fun (i0:Int) (s0:List Attr)=>
 (AK d i0).bind fun b=>
 (B9 [] b.Names).bind fun e=>
 (B9 s0 [Attr.mk b.Name b.Low b.High e]).bind fun f=>
 some f) 0 (d.length:Int) []).bind fun s0=>
 some (s0,0)
def MK [Ev] (t:AD) (p:Pattern) (b:Int) (a:Int):Option (Attr × Bool):=
 if ((decide (b<0))||(decide ((p.Graph.Nodes.length:Int)<=b))) then
 some (Attr.mk (⟨#[]⟩:ByteArray) 0 0 [],false)
 else
 (AK p.Graph.Nodes b).bind fun d=>
 (LH t d).bind fun c=>
 if (((!decide (c.2=0))||(decide (a<0)))||(decide ((c.1.length:Int)<=a))) then
 some (Attr.mk (⟨#[]⟩:ByteArray) 0 0 [],false)
 else
 (AK c.1 a).bind fun e=>
 some (e,true)
def LV (n:Int):ca:=
 some ((decide ((-1000000)<=n))&&(decide (n<=1000000)))
def Jb (n:Int) (t:Term):dD:=
 if ((((decide (t.Var<(-1)))||(decide (n<=t.Var)))||(decide (t.Add<(-1000000))))||(decide (1000000<t.Add))) then
 some 6
 else
 some 0
def M8 (n:Int) (a:Test):dD:=
 if ((!decide (a.Kind=1))&&(!decide (a.Kind=2))) then
 some 1
 else
 (Jb n a.Left).bind fun b=>
 if (!decide (b=0)) then
 some b
 else
 (Jb n a.Right).bind fun c=>
 some c
def LG (n:Int) (l:List Test):dD:=
 if ((decide (n<0))||(decide (12<n))) then
 some 6
 else
 if (decide (40<(l.length:Int))) then
 some 3
 else
 thenR (forR (ρ:=Int) (fun (i0:Int) (_:Unit)=>
 (AK l i0).bind fun b=>
 (M8 n b).bind fun a=>
 if (!decide (a=0)) then
 some (.ret a)
 else
 some (.next ())) 0 (l.length:Int) ()) (fun _=>
 some 0) (fun v0=>some v0)
def Kn (p:Pattern) (b:Int):ca:=
 thenR (forR (ρ:=Bool) (fun (i0:Int) (_:Unit)=>
 (AK p.Slots i0).bind fun a=>
 if (decide (a.Term.Var=b)) then
 some (.ret true)
 else
 some (.next ())) 0 (p.Slots.length:Int) ()) (fun _=>
 some false) (fun v0=>some v0)
def KG [Ev] (t:AD) (p:Pattern):dD:=
 (JF t).bind fun c=>
 if (!decide (c.2=0)) then
 some c.2
 else
 (GR p.Graph).bind fun d=>
 if (!decide (d=0)) then
 some d
 else
 (JG t p.Graph).bind fun f=>
 if (!f) then
 some 13
 else
 if ((decide (p.Vars<0))||(decide (12<p.Vars))) then
 some 6
 else
 if ((decide (10<(p.Slots.length:Int)))||(decide (10<(p.Tests.length:Int)))) then
 some 3
 else
 thenR (forR (ρ:=Int) (fun (i0:Int) (_:Unit)=>
 (AK p.Slots i0).bind fun a=>
 (MK t p a.Node a.Attr).bind fun g=>
 (if (((!g.2)||(decide (a.Term.Var<(-1))))||(decide (p.Vars<=a.Term.Var))) then some true else ((LV a.Term.Add).bind fun h=>
 some (!h))).bind fun i=>
 if i then
 some (.ret 6)
 else
 some (.next ())) 0 (p.Slots.length:Int) ()) (fun _=>
 (LG p.Vars p.Tests).bind fun b=>
 if (!decide (b=0)) then
 some b
 else
 thenR (forR (ρ:=Int) (fun (i2:Int) (_:Unit)=>
 (Kn p i2).bind fun e=>
 if (!e) then
 some (.ret 9)
 else
 some (.next ())) 0 p.Vars ()) (fun _=>
 some 0) (fun v2=>some v2)) (fun v0=>some v0)
def IW (c:AA):ca:=
 some (((decide ((A6 ((A6 ((A6 ((c.Map.Nodes.length:Int)+(c.Map.Edges.length:Int)))+(c.Pattern.Graph.Nodes.length:Int)))+(c.Pattern.Graph.Edges.length:Int)))=0))&&(decide ((A6 ((c.Pattern.Slots.length:Int)+(c.Pattern.Tests.length:Int)))=0)))&&(decide (c.Pattern.Vars=0)))
def LQ (c:AA):ca:=
 if (decide (c.Kind=1)) then
 (if (decide ((c.Kids.length:Int)=0)) then ((IW c).bind fun a=>
 some (a)) else some false).bind fun b=>
 some b
 else
 if (decide (c.Kind=2)) then
 (if (decide ((c.Kids.length:Int)=1)) then ((IW c).bind fun d=>
 some (d)) else some false).bind fun e=>
 some e
 else
 (if (decide (c.Kind=3)) then
 some (decide (c.Kind=3))
 else
 some (decide (c.Kind=4))).bind fun w1=>
 if w1 then
 (if (decide (0<(c.Kids.length:Int))) then ((IW c).bind fun f=>
 some (f)) else some false).bind fun g=>
 some g
 else
 if (decide (c.Kind=5)) then
 some (decide ((c.Kids.length:Int)=1))
 else
 some false
def FW [Ev]:Nat->AA->ca
 | 0,_=>none
 | n+1,c=>
  (LQ c).bind fun d=>
  if (!d) then
  some false
  else
  thenR (forR (ρ:=Bool) (fun (i0:Int) (_:Unit)=>
  (AK c.Kids i0).bind fun a=>
  (FW n a).bind fun b=>
  if (!b) then
  some (.ret false)
  else
  some (.next ())) 0 (c.Kids.length:Int) ()) (fun _=>
  some true) (fun v0=>some v0)
def Mm [Ev] (c:AA):ca:=Hq fun n=>FW n c
def GL [Ev]:Nat->AA->Option (Int × Int)
 | 0,_=>none
 | n+1,c=>
  (forA (fun (i0:Int) (s0:Int × Int)=>
  (AK c.Kids i0).bind fun b=>
  (GL n b).bind fun a=>
  some (A6 (s0.1+a.1),max s0.2 a.2)) 0 (c.Kids.length:Int) (1,0)).bind fun s0=>
  (if (decide (c.Kind=5)) then
  some (A6 (s0.2+1))
  else
  some s0.2).bind fun w1=>
  some (s0.1,w1)
def NT [Ev] (c:AA):Option (Int × Int):=Hq fun n=>GL n c
def LN [Ev] (c:AA):dD:=
 (Mm c).bind fun b=>
 if (!b) then
 some 1
 else
 (NT c).bind fun a=>
 if ((decide (12<a.1))||(decide (3<a.2))) then
 some 3
 else
 some 0
def ML (p:Pattern) (b:Int):ca:=
 thenR (forR (ρ:=Bool) (fun (i0:Int) (_:Unit)=>
 (AK p.Slots i0).bind fun a=>
 if (decide (a.Term.Var=b)) then
 some (.ret true)
 else
 some (.next ())) 0 (p.Slots.length:Int) ()) (fun _=>
 some false) (fun v0=>some v0)
def LP [Ev] (t:AD) (a:Int) (q:Pattern):dD:=
 if (decide (q.Vars<a)) then
 some 20
 else
 (KG t q).bind fun b=>
 if (!decide (b=9)) then
 some b
 else
 thenR (forR (ρ:=Int) (fun (i0:Int) (_:Unit)=>
 (ML q i0).bind fun c=>
 if (!c) then
 some (.ret b)
 else
 some (.next ())) a q.Vars ()) (fun _=>
 some 0) (fun v0=>some v0)
def KE (a:Graph) (b:Graph) (m:Morphism):dD:=
 (GR a).bind fun e=>
 if (!decide (e=0)) then
 some e
 else
 (GR b).bind fun f=>
 if (!decide (f=0)) then
 some f
 else
 if ((!decide ((m.Nodes.length:Int)=(a.Nodes.length:Int)))||(!decide ((m.Edges.length:Int)=(a.Edges.length:Int)))) then
 some 20
 else
 thenR (forR (ρ:=Int) (fun (i0:Int) (_:Unit)=>
 (AK m.Nodes i0).bind fun l=>
 (if (decide (l<0)) then some true else ((AK m.Nodes i0).bind fun n=>
 some (decide ((b.Nodes.length:Int)<=n)))).bind fun o=>
 if o then
 some (.ret 6)
 else
 (AK m.Nodes i0).bind fun p=>
 (AK b.Nodes p).bind fun q=>
 (AK a.Nodes i0).bind fun r=>
 if (!decide (q=r)) then
 some (.ret 13)
 else
 some (.next ())) 0 (a.Nodes.length:Int) ()) (fun _=>
 thenR (forR (ρ:=Int) (fun (i2:Int) (_:Unit)=>
 (AK m.Edges i2).bind fun s=>
 (if (decide (s<0)) then some true else ((AK m.Edges i2).bind fun t=>
 some (decide ((b.Edges.length:Int)<=t)))).bind fun g=>
 if g then
 some (.ret 6)
 else
 (AK a.Edges i2).bind fun c=>
 (AK m.Edges i2).bind fun h=>
 (AK b.Edges h).bind fun d=>
 if (!decide (c.Type'=d.Type')) then
 some (.ret 13)
 else
 (AK m.Nodes c.From).bind fun i=>
 (if (!decide (i=d.From)) then some true else ((AK m.Nodes c.To).bind fun j=>
 some (!decide (j=d.To)))).bind fun k=>
 if k then
 some (.ret 11)
 else
 some (.next ())) 0 (a.Edges.length:Int) ()) (fun _=>
 some 0) (fun v2=>some v2)) (fun v0=>some v0)
def IR (l:Ne):ca:=
 thenR (forR (ρ:=Bool) (fun (i0:Int) (_:Unit)=>
 thenR (forR (ρ:=Bool) (fun (i2:Int) (_:Unit)=>
 (AK l i0).bind fun a=>
 (AK l i2).bind fun b=>
 if (decide (a=b)) then
 some (.ret false)
 else
 some (.next ())) 0 i0 ()) (fun _=>
 some (.next ())) (fun v2=>some (.ret v2))) 0 (l.length:Int) ()) (fun _=>
 some true) (fun v0=>some v0)
def I3 (a:Graph) (b:Graph) (m:Morphism):ca:=
 (KE a b m).bind fun c=>
 (if (decide (c=0)) then ((IR m.Nodes).bind fun d=>
 some (d)) else some false).bind fun e=>
 (if e then ((IR m.Edges).bind fun f=>
 some (f)) else some false).bind fun g=>
 some g
def GT [Ev]:Nat->AD->Pattern->AA->dD
 | 0,_,_,_=>none
 | n+1,t,p,c=>
  if (decide (c.Kind=5)) then
  (LP t p.Vars c.Pattern).bind fun d=>
  if (!decide (d=0)) then
  some d
  else
  (KE p.Graph c.Pattern.Graph c.Map).bind fun e=>
  if (!decide (e=0)) then
  some e
  else
  (I3 p.Graph c.Pattern.Graph c.Map).bind fun f=>
  if (!f) then
  some 1
  else
  thenR (forR (ρ:=Int) (fun (i0:Int) (_:Unit)=>
  (AK c.Kids i0).bind fun b=>
  (GT n t c.Pattern b).bind fun a=>
  if (!decide (a=0)) then
  some (.ret a)
  else
  some (.next ())) 0 (c.Kids.length:Int) ()) (fun _=>
  some 0) (fun v0=>some v0)
  else
  thenR (forR (ρ:=Int) (fun (i0:Int) (_:Unit)=>
  (AK c.Kids i0).bind fun b=>
  (GT n t p b).bind fun a=>
  if (!decide (a=0)) then
  some (.ret a)
  else
  some (.next ())) 0 (c.Kids.length:Int) ()) (fun _=>
  some 0) (fun v0=>some v0)
def Su [Ev] (t:AD) (p:Pattern) (c:AA):dD:=Hq fun n=>GT n t p c
def LO [Ev] (t:AD) (p:Pattern) (c:AA):dD:=
 (KG t p).bind fun a=>
 if (!decide (a=0)) then
 some a
 else
 (LN c).bind fun b=>
 if (!decide (b=0)) then
 some b
 else
 (Su t p c).bind fun d=>
 some d
def KF [Ev] (t:AD) (p:Graph) (g:Graph):dD:=
 (JF t).bind fun a=>
 if (!decide (a.2=0)) then
 some a.2
 else
 (GR p).bind fun b=>
 if (!decide (b=0)) then
 some b
 else
 (GR g).bind fun c=>
 if (!decide (c=0)) then
 some c
 else
 (JG t p).bind fun d=>
 (if (!d) then some true else ((JG t g).bind fun e=>
 some (!e))).bind fun f=>
 if f then
 some 13
 else
 some 0
def LK [Ev] (t:AD) (p:Graph) (g:Graph):ca:=
 (Lw t).bind fun h=>
 (if h then ((Jk p).bind fun a=>
 some (a)) else some false).bind fun b=>
 (if b then ((Jk g).bind fun c=>
 some (c)) else some false).bind fun d=>
 (if d then ((KF t p g).bind fun e=>
 some ((!decide (e=0))||(((decide ((A6 ((p.Nodes.length:Int)+(p.Edges.length:Int)))<=6))&&(decide ((g.Nodes.length:Int)<=8)))&&(decide ((g.Edges.length:Int)<=12))))) else some false).bind fun f=>
 some f
def LM [Ev] (t:AD) (p:Pattern) (a:A0):ca:=
 (Ly p).bind fun f=>
 (if f then ((Lx a).bind fun b=>
 some (b)) else some false).bind fun c=>
 (if c then ((LK t p.Graph a.Graph).bind fun d=>
 some (d)) else some false).bind fun e=>
 some e
def HC [Ev]:Nat->AA->ca
 | 0,_=>none
 | n+1,c=>
  thenR (forR (ρ:=Bool) (fun (i0:Int) (_:Unit)=>
  (AK c.Kids i0).bind fun a=>
  (HC n a).bind fun b=>
  if (!b) then
  some (.ret false)
  else
  some (.next ())) 0 (c.Kids.length:Int) ()) (fun _=>
  some (decide ((A6 ((c.Pattern.Graph.Nodes.length:Int)+(c.Pattern.Graph.Edges.length:Int)))<=6))) (fun v0=>some v0)
def N3 [Ev] (c:AA):ca:=Hq fun n=>HC n c
def FD [Ev]:Nat->Pattern->AA->Int->Int->ca
 | 0,_,_,_,_=>none
 | n+1,p,c,a,b=>
  (if (decide (c.Kind=5)) then
  some c.Pattern
  else
  some p).bind fun w1=>
  thenR (If (ρ:=Bool) (fun (s0:Int × Int)=>
  if (decide (s0.2<(w1.Graph.Nodes.length:Int))) then
  some (.next (A6 (s0.1*a),A6 (s0.2+1)))
  else
  some (.brk (s0.1,s0.2))) (1,(p.Graph.Nodes.length:Int))) (fun s0=>
  thenR (If (ρ:=Bool) (fun (s2:Int × Int)=>
  if (decide (s2.2<(w1.Graph.Edges.length:Int))) then
  some (.next (A6 (s2.1*b),A6 (s2.2+1)))
  else
  some (.brk (s2.1,s2.2))) (s0.1,(p.Graph.Edges.length:Int))) (fun s2=>
  thenR (forR (ρ:=Bool) (fun (i4:Int) (_:Unit)=>
  (AK c.Kids i4).bind fun d=>
  (FD n w1 d a b).bind fun e=>
  if (!e) then
  some (.ret false)
  else
  some (.next ())) 0 (c.Kids.length:Int) ()) (fun _=>
  some (decide (s2.1<=5000))) (fun v4=>some v4)) (fun v2=>some v2)) (fun v0=>some v0)
def NS [Ev] (p:Pattern) (c:AA) (a:Int) (b:Int):ca:=Hq fun n=>FD n p c a b
def E8 [Ev] (t:AD) (p:Pattern) (c:AA) (a:A0):ca:=
 (NA c).bind fun b=>
 (if (!b) then some true else ((Ly p).bind fun d=>
 some (!d))).bind fun e=>
 (if e then some true else ((Lx a).bind fun f=>
 some (!f))).bind fun g=>
 if g then
 some false
 else
 (LO t p c).bind fun h=>
 (if (!decide (h=0)) then some true else ((LM t p a).bind fun i=>
 (if i then ((N3 c).bind fun j=>
 some (j)) else some false).bind fun k=>
 (if ((k&&(decide ((a.Graph.Nodes.length:Int)<=6)))&&(decide ((a.Graph.Edges.length:Int)<=8))) then ((NS p c 14 18).bind fun l=>
 some (l)) else some false).bind fun m=>
 some (m))).bind fun n=>
 some n
def LE [Ev] (t:AD) (a:HP) (y:Jr):ca:=
 (Lw t).bind fun d=>
 (if d then ((E8 t a.P a.C y.H).bind fun b=>
 some (b)) else some false).bind fun c=>
 some ((c&&(decide ((A6 ((y.M.Morphism.Nodes.length:Int)+(y.M.Morphism.Edges.length:Int)))<=150)))&&(decide ((y.M.Vars.length:Int)<=40)))
def H4 (l:Ne) (n:Int):dD:=
 thenR (forR (ρ:=Int) (fun (i0:Int) (_:Unit)=>
 (AK l i0).bind fun a=>
 (if (decide (a<0)) then some true else ((AK l i0).bind fun b=>
 some (decide (n<=b)))).bind fun c=>
 if c then
 some (.ret 6)
 else
 (if (decide (0<i0)) then ((AK l i0).bind fun d=>
 (AK l (A6 (i0 - 1))).bind fun e=>
 some (decide (d<=e))) else some false).bind fun f=>
 if f then
 some (.ret 12)
 else
 some (.next ())) 0 (l.length:Int) ()) (fun _=>
 some 0) (fun v0=>some v0)
def Jc (n:Int) (a:Ne):Option Ne:=
 (forA (fun (i0:Int) (s0:Ne × Int × Int)=>
 (if (decide (s0.2.2<(a.length:Int))) then ((AK a s0.2.2).bind fun b=>
 some (decide (b=i0))) else some false).bind fun c=>
 if c then
 (B9 s0.1 [(-1)]).bind fun d=>
 some (d,s0.2.1,A6 (s0.2.2+1))
 else
 (B9 s0.1 [s0.2.1]).bind fun e=>
 some (e,A6 (s0.2.1+1),s0.2.2)) 0 n ([],0,0)).bind fun s0=>
 some s0.1
def Kl (g:Graph) (b:Ne) (a:Ne):Option (Graph × Morphism × Int):=
 (GR g).bind fun f=>
 if (!decide (f=0)) then
 some (Graph.mk [] [],Morphism.mk [] [],f)
 else
 (H4 b (g.Nodes.length:Int)).bind fun h=>
 if (!decide (h=0)) then
 some (Graph.mk [] [],Morphism.mk [] [],h)
 else
 (H4 a (g.Edges.length:Int)).bind fun i=>
 if (!decide (i=0)) then
 some (Graph.mk [] [],Morphism.mk [] [],i)
 else
 (Jc (g.Nodes.length:Int) b).bind fun c=>
 (Jc (g.Edges.length:Int) a).bind fun j=>
 (forA (fun (i0:Int) (s0:Graph)=>
 (AK c i0).bind fun n=>
 if (decide (0<=n)) then
 (AK g.Nodes i0).bind fun o=>
 (B9 s0.Nodes [o]).bind fun p=>
 some (Graph.mk p s0.Edges)
 else
 some s0) 0 (g.Nodes.length:Int) (Graph.mk [] [])).bind fun s0=>
 thenR (forR (ρ:=(Graph × Morphism × Int)) (fun (i2:Int) (s2:Graph × Morphism × Graph)=>
 (AK j i2).bind fun q=>
 if (decide (q<0)) then
 some (.next (s2.1,s2.2.1,s2.2.2))
 else
 (AK g.Edges i2).bind fun r=>
 (AK g.Edges i2).bind fun k=>
 (AK c k.From).bind fun d=>
 (AK g.Edges i2).bind fun l=>
 (AK c l.To).bind fun e=>
 if ((decide (d<0))||(decide (e<0))) then
 some (.ret (Graph.mk [] [],Morphism.mk [] [],14))
 else
 (B9 s2.2.2.Edges [DG.mk r.Type' d e]).bind fun m=>
 some (.next (s2.1,s2.2.1,Graph.mk s2.2.2.Nodes m))) 0 (g.Edges.length:Int) (Graph.mk [] [],Morphism.mk [] [],s0)) (fun s2=>
 some (s2.2.2,Morphism.mk c j,0)) (fun v2=>some v2)
def Ij [Ev] (a:IF) (b:Ne):Option IF:=
 (Kl a.H.Graph [] b).bind fun c=>
 thenR (If (ρ:=IF) (fun (s0:AG × Int)=>
 if (decide (s0.2<(a.M.Morphism.Edges.length:Int))) then
 (AK a.M.Morphism.Edges s0.2).bind fun d=>
 (AK c.2.1.Edges d).bind fun e=>
 (B9 s0.1.Morphism.Edges [e]).bind fun f=>
 some (.next (AG.mk (Morphism.mk s0.1.Morphism.Nodes f) s0.1.Vars,A6 (s0.2+1)))
 else
 some (.brk (s0.1,s0.2))) (AG.mk (Morphism.mk a.M.Morphism.Nodes []) a.M.Vars,0)) (fun s0=>
 some (IF.mk a.T (A0.mk c.1 a.H.Values) s0.1 a.Injective)) (fun v0=>some v0)
def Jd (l:Ne) (a:Int) (n:Int):dD:=
 if (!decide ((l.length:Int)=a)) then
 some 20
 else
 thenR (forR (ρ:=Int) (fun (i0:Int) (_:Unit)=>
 (AK l i0).bind fun b=>
 (if (decide (b<(-1))) then some true else ((AK l i0).bind fun c=>
 some (decide (n<=c)))).bind fun d=>
 if d then
 some (.ret 6)
 else
 some (.next ())) 0 (l.length:Int) ()) (fun _=>
 some 0) (fun v0=>some v0)
def GV (c:AS) (a:Ne):ca:=
 thenR (forR (ρ:=Bool) (fun (i0:Int) (_:Unit)=>
 (AK c.p.Edges i0).bind fun b=>
 if ((decide ((a.length:Int)<=b.From))||(decide ((a.length:Int)<=b.To))) then
 some (.next ())
 else
 (forA (fun (i2:Int) (s2:Bool)=>
 (AK c.g.Edges i2).bind fun d=>
 (if s2 then some true else ((if (decide (b.Type'=d.Type')) then ((AK a b.From).bind fun e=>
 some (decide (d.From=e))) else some false).bind fun f=>
 (if f then ((AK a b.To).bind fun h=>
 some (decide (d.To=h))) else some false).bind fun i=>
 some (i))).bind fun j=>
 some j) 0 (c.g.Edges.length:Int) false).bind fun s2=>
 if (!s2) then
 some (.ret false)
 else
 some (.next ())) 0 (c.p.Edges.length:Int) ()) (fun _=>
 some true) (fun v0=>some v0)
def DZ [Ev] (b:AS) (l:Ne) (n:Int):ca:=
 thenR (If (ρ:=Bool) (fun (s0:Int)=>
 if ((decide (s0<(l.length:Int)))&&b.injective) then
 (AK l s0).bind fun a=>
 if (decide (a=n)) then
 some (.ret true)
 else
 some (.next (A6 (s0+1)))
 else
 some (.brk s0)) 0) (fun s0=>
 some false) (fun v0=>some v0)
def C8 [Ev]:Nat->AS->Ne->Ne->Option AS
 | 0,_,_,_=>none
 | n+1,a,b,l=>
  if (decide (a.most<(a.found.length:Int))) then
  some a
  else
  if (decide ((l.length:Int)=(a.p.Edges.length:Int))) then
  (B9 [] b).bind fun o=>
  (B9 [] l).bind fun q=>
  (B9 a.found [Morphism.mk o q]).bind fun r=>
  some (AS.mk a.t a.p a.g a.partial_ a.injective a.most r)
  else
  (AK a.p.Edges (l.length:Int)).bind fun c=>
  thenR (If (ρ:=AS) (fun (s0:AS × Int)=>
  if (decide (s0.2<(s0.1.g.Edges.length:Int))) then
  (AK s0.1.g.Edges s0.2).bind fun d=>
  (AK s0.1.partial_.Edges (l.length:Int)).bind fun s=>
  (if (decide (0<=s)) then ((AK s0.1.partial_.Edges (l.length:Int)).bind fun u=>
  some (!decide (u=s0.2))) else some false).bind fun v=>
  (if v then some true else ((DZ s0.1 l s0.2).bind fun w=>
  some (w))).bind fun x=>
  (if (x||(!decide (c.Type'=d.Type'))) then some true else ((AK b c.From).bind fun e=>
  some (!decide (d.From=e)))).bind fun f=>
  (if f then some true else ((AK b c.To).bind fun h=>
  some (!decide (d.To=h)))).bind fun i=>
  if i then
  some (.next (s0.1,A6 (s0.2+1)))
  else
  (B9 [] l).bind fun j=>
  (B9 j [s0.2]).bind fun k=>
  (C8 n s0.1 b k).bind fun m=>
  some (.next (m,A6 (s0.2+1)))
  else
  some (.brk (s0.1,s0.2))) (a,0)) (fun s0=>
  some s0.1) (fun v0=>some v0)
def Ll [Ev] (b:AS) (a:Ne) (l:Ne):Option AS:=Hq fun n=>C8 n b a l
def G9 [Ev]:Nat->AD->Int->Int->ca
 | 0,_,_,_=>none
 | n+1,t,a,b=>
  (if (decide (a=b)) then some true else ((if (decide (0<=a)) then ((AK t.Nodes a).bind fun c=>
  (G9 n t c.Parent b).bind fun d=>
  some (d)) else some false).bind fun e=>
  some (e))).bind fun f=>
  some f
def Kk [Ev] (t:AD) (a:Int) (b:Int):ca:=Hq fun n=>G9 n t a b
def C9 [Ev]:Nat->AS->Ne->Option AS
 | 0,_,_=>none
 | n+1,a,l=>
  (if (decide (a.most<(a.found.length:Int))) then some true else ((GV a l).bind fun d=>
  some (!d))).bind fun e=>
  if e then
  some a
  else
  if (decide ((l.length:Int)=(a.p.Nodes.length:Int))) then
  (Ll a l []).bind fun f=>
  some f
  else
  thenR (If (ρ:=AS) (fun (s0:AS × Int)=>
  if (decide (s0.2<(s0.1.g.Nodes.length:Int))) then
  (AK s0.1.partial_.Nodes (l.length:Int)).bind fun h=>
  (if (decide (0<=h)) then ((AK s0.1.partial_.Nodes (l.length:Int)).bind fun i=>
  some (!decide (i=s0.2))) else some false).bind fun j=>
  (if j then some true else ((DZ s0.1 l s0.2).bind fun k=>
  some (k))).bind fun m=>
  (if m then some true else ((AK s0.1.g.Nodes s0.2).bind fun o=>
  (AK s0.1.p.Nodes (l.length:Int)).bind fun q=>
  (Kk s0.1.t o q).bind fun r=>
  some (!r))).bind fun s=>
  if s then
  some (.next (s0.1,A6 (s0.2+1)))
  else
  (B9 [] l).bind fun u=>
  (B9 u [s0.2]).bind fun b=>
  (C9 n s0.1 b).bind fun c=>
  some (.next (c,A6 (s0.2+1)))
  else
  some (.brk (s0.1,s0.2))) (a,0)) (fun s0=>
  some s0.1) (fun v0=>some v0)
def JT [Ev] (a:AS) (l:Ne):Option AS:=Hq fun n=>C9 n a l
def M9 [Ev] (t:AD) (p:Graph) (g:Graph) (b:Morphism) (a:Bool) (c:Int):Option (List Morphism):=
 (JT (AS.mk t p g b a c []) []).bind fun d=>
 some d.found
def Km [Ev] (t:AD) (p:Graph) (g:Graph) (a:Morphism) (b:Bool):Option (List Morphism × Int):=
 (KF t p g).bind fun c=>
 if (!decide (c=0)) then
 some ([],c)
 else
 if ((!decide ((a.Nodes.length:Int)=(p.Nodes.length:Int)))||(!decide ((a.Edges.length:Int)=(p.Edges.length:Int)))) then
 some ([],20)
 else
 (Jd a.Nodes (p.Nodes.length:Int) (g.Nodes.length:Int)).bind fun d=>
 if (!decide (d=0)) then
 some ([],d)
 else
 (Jd a.Edges (p.Edges.length:Int) (g.Edges.length:Int)).bind fun e=>
 if (!decide (e=0)) then
 some ([],e)
 else
 (M9 t p g a b 5000).bind fun f=>
 if (decide (5000<(f.length:Int))) then
 some ([],3)
 else
 some (f,0)
def H1 [Ev] (t:AD) (b:HP) (y:Jr):ca:=
 (FY).bind fun k=>
 (if (!k) then some true else ((LE t b y).bind fun l=>
 some (!l))).bind fun m=>
 if m then
 (FY).bind fun n=>
 some n
 else
 (E9 t b.P b.C y.H y.M).bind fun g=>
 (if (!decide (g.2=0)) then some true else ((AK b.C.Kids 0).bind fun o=>
 (AK o.Kids 0).bind fun p=>
 some (!decide (p.Kind=1)))).bind fun q=>
 (if q then some true else ((AK b.C.Kids 0).bind fun r=>
 (AK b.C.Kids 0).bind fun s=>
 some (decide (0<(A6 ((r.Pattern.Slots.length:Int)+(s.Pattern.Tests.length:Int))))))).bind fun u=>
 if u then
 some true
 else
 (AK b.C.Kids 0).bind fun a=>
 (Ij (IF.mk t y.H y.M true) g.1).bind fun f=>
 (DN [(-1)] (a.Pattern.Graph.Nodes.length:Int)).bind fun v=>
 (DN [(-1)] (a.Pattern.Graph.Edges.length:Int)).bind fun h=>
 (forA (fun (i0:Int) (s0:Morphism)=>
 (AK a.Map.Nodes i0).bind fun c=>
 (AK f.M.Morphism.Nodes i0).bind fun i=>
 (AK s0.Nodes c).bind fun w=>
 some (Morphism.mk (CU s0.Nodes c i) s0.Edges)) 0 (a.Map.Nodes.length:Int) (Morphism.mk v h)).bind fun s0=>
 (forA (fun (i2:Int) (s2:Morphism)=>
 (AK a.Map.Edges i2).bind fun d=>
 (AK f.M.Morphism.Edges i2).bind fun j=>
 (AK s2.Edges d).bind fun x=>
 some (Morphism.mk s2.Nodes (CU s2.Edges d j))) 0 (a.Map.Edges.length:Int) s0).bind fun s2=>
 (Km t a.Pattern.Graph f.H.Graph s2 true).bind fun e=>
 some ((!decide (e.2=0))||(decide ((e.1.length:Int)=0)))
end
end Go.Sf.Sc
