/- The functions of the program as Lean functions. -/
import Derived.Test.YtmaobfbhdkafkaaGreatTypes
import Derived.Test.YtmaobfbhdkafkaaGreatSfSort
set_option maxRecDepth 100000
namespace Go.Sf.Sc
open Go Go.Sf
noncomputable section
def KU (c:Int):Option Bool:=
 some (((decide (97<=c))&&(decide (c<=122)))||((decide (65<=c))&&(decide (c<=90))))
def Hy [Ev] (s_0:ByteArray) (ok:Int->Option Bool):Option Int:=
 thenR (FC (ρ:=Int) (fun (s0:Int)=>
 (if (decide (s0<(s_0.size:Int)))=true then ((sidx s_0 s0).bind fun x14=>
 (ok x14).bind fun x15=>
 some (x15)) else some false).bind fun x16=>
 if x16=true then
 some (.next (AI (s0+1)))
 else
 some (.brk s0)) 0) (fun s0=>
 some s0) (fun v0=>some v0)
def J1 (c:Int):Option Bool:=
 some ((decide (48<=c))&&(decide (c<=57)))
def MF (c:Int):Option Bool:=
 (KU c).bind fun x4=>
 (if x4=true then some true else ((J1 c).bind fun x7=>
 some (x7))).bind fun x8=>
 some (x8||(decide (c=95)))
def Kh (c:Int):Option Bool:=
 some (((decide (32<=c))&&(decide (c<=126)))&&(!decide (c=34)))
def HI [Ev] (s_0:ByteArray):Option (Int × Int):=
 (sslc s_0 1 s_0.size).bind fun x6=>
 (Hy x6 Kh).bind fun x7=>
 (if (decide ((AI (1+x7))=(s_0.size:Int)))=true then some true else ((sidx s_0 (AI (1+x7))).bind fun x17=>
 some (!decide (x17=34)))).bind fun x19=>
 if x19=true then
 some (0,2)
 else
 if (decide (60<x7))=true then
 some (0,3)
 else
 some (AI (x7+2),0)
def GR (s_0:List ByteArray) (v_1:ByteArray):Option Int:=
 thenR (forR (ρ:=Int) (fun (i0:Int) (_:Unit)=>
 (AG s_0 i0).bind fun x14=>
 if (v_1==x14)=true then
 some (.ret i0)
 else
 some (.next ())) 0 (s_0.length:Int) ()) (fun _=>
 some (-1)) (fun v0=>some v0)
def D0 (s_0:List ByteArray) (v_1:ByteArray):Option Bool:=
 (GR s_0 v_1).bind fun x7=>
 some (decide (0<=x7))
def ME (s_0:ByteArray):Option Bool:=
 (if (decide (2<=(s_0.size:Int)))=true then ((sslc s_0 0 2).bind fun x9=>
 (D0 [(⟨#[45,62]⟩:ByteArray),(⟨#[60,61]⟩:ByteArray),(⟨#[62,61]⟩:ByteArray),(⟨#[61,61]⟩:ByteArray),(⟨#[33,61]⟩:ByteArray)] x9).bind fun x10=>
 some (x10)) else some false).bind fun x11=>
 some x11
def strings_IndexByte (s:ByteArray) (c:Int):Option Int:=some (Go.Lib.indexByte s.data.toList c.toNat.toUInt8)
def Ii [Ev] (s_0:ByteArray):Option (Int × Int × Int):=
 (sidx s_0 0).bind fun x11=>
 (KU x11).bind fun x14=>
 if x14=true then
 (Hy s_0 MF).bind fun x16=>
 if (decide (20<x16))=true then
 some (0,0,3)
 else
 some (1,x16,0)
 else
 (J1 x11).bind fun x22=>
 if x22=true then
 (Hy s_0 J1).bind fun x24=>
 if (decide (9<x24))=true then
 some (0,0,3)
 else
 some (2,x24,0)
 else
 if (decide (x11=34))=true then
 (HI s_0).bind fun x33=>
 some (3,x33.1,x33.2)
 else
 (ME s_0).bind fun x40=>
 if x40=true then
 some (4,2,0)
 else
 (strings_IndexByte (⟨#[123,125,40,41,91,93,44,59,58,61,43,45,42,60,62,33,38,124,46,63]⟩:ByteArray) x11).bind fun x43=>
 if (decide (0<=x43))=true then
 some (4,1,0)
 else
 some (0,0,2)
def Iv [Ev] (t:E8):Option (ByteArray × Bool):=
 (if (decide (t.Kind=3))=true then
 (Qq (⟨#[34]⟩:ByteArray) t.Text).bind fun x14=>
 (Qq x14 (⟨#[34]⟩:ByteArray)).bind fun x15=>
 some x15
 else
 some t.Text).bind fun w1=>
 if (w1==(⟨#[]⟩:ByteArray))=true then
 some ((⟨#[]⟩:ByteArray),false)
 else
 (Ii w1).bind fun x20=>
 some (w1,((decide (x20.2.2=0))&&(decide (x20.1=t.Kind)))&&(decide (x20.2.1=(w1.size:Int))))
def EH [Ev] (s_0:ByteArray):Option Bool:=
 (Iv (E8.mk 1 s_0 0)).bind fun x8=>
 some x8.2
def DP [Ev] (s_0:List BF) (f:BF->Option Bool):Option Int:=
 thenR (forR (ρ:=Int) (fun (i0:Int) (_:Unit)=>
 (AG s_0 i0).bind fun x14=>
 (f x14).bind fun x16=>
 if x16=true then
 some (.ret i0)
 else
 some (.next ())) 0 (s_0.length:Int) ()) (fun _=>
 some (-1)) (fun v0=>some v0)
def CM [Ev] (s_0:List BF) (f:BF->Option Bool):Option Bool:=
 (DP s_0 f).bind fun x7=>
 some (decide (0<=x7))
def MH (m:BF) (c0:BF):Option Bool:=
 some (m.Name==c0.Name)
def DS [Ev]:Nat->Types->Int->Option (List Attr)
 | 0,_,_=>none
 | n+1,t,a=>
  (AG t.Nodes a).bind fun x10=>
  (if (decide (0<=x10.Parent))=true then
  (DS n t x10.Parent).bind fun x17=>
  some x17
  else
  some []).bind fun w1=>
  (AG t.Nodes a).bind fun x22=>
  (A3 w1 x22.Attrs).bind fun x25=>
  some x25
def J2 [Ev] (t:Types) (a:Int):Option (List Attr):=J7 fun n=>DS n t a
def D8 [Ev] (s_0:List Attr) (f:Attr->Option Bool):Option Int:=
 thenR (forR (ρ:=Int) (fun (i0:Int) (_:Unit)=>
 (AG s_0 i0).bind fun x14=>
 (f x14).bind fun x16=>
 if x16=true then
 some (.ret i0)
 else
 some (.next ())) 0 (s_0.length:Int) ()) (fun _=>
 some (-1)) (fun v0=>some v0)
def C9 [Ev] (s_0:List Attr) (f:Attr->Option Bool):Option Bool:=
 (D8 s_0 f).bind fun x7=>
 some (decide (0<=x7))
def Iz (y:Attr) (c0:Attr):Option Bool:=
 some (y.Name==c0.Name)
def H0 [Ev] (l:List ByteArray):Option Int:=
 if (decide (20<(l.length:Int)))=true then
 some 3
 else
 thenR (forR (ρ:=Int) (fun (i0:Int) (_:Unit)=>
 (AG l i0).bind fun x13=>
 (EH x13).bind fun x17=>
 if (!x17)=true then
 some (.ret 2)
 else
 (slc l 0 i0).bind fun x22=>
 (D0 x22 x13).bind fun x24=>
 if x24=true then
 some (.ret 5)
 else
 some (.next ())) 0 (l.length:Int) ()) (fun _=>
 some 0) (fun v0=>some v0)
def E2 [Ev] (x_0:Attr) (before:List Attr):Option Int:=
 (EH x_0.Name).bind fun x10=>
 if (!x10)=true then
 some 2
 else
 (C9 before (fun y0=>Iz y0 x_0)).bind fun x15=>
 if x15=true then
 some 5
 else
 (H0 x_0.Names).bind fun x18=>
 if (!decide (x18=0))=true then
 some x18
 else
 (if (decide (0<(x_0.Names.length:Int)))=true then
 some ((decide (x_0.Low=0))&&(decide (x_0.High=(AI ((x_0.Names.length:Int) - 1)))))
 else
 some (((decide ((-1000000)<=x_0.Low))&&(decide (x_0.Low<=x_0.High)))&&(decide (x_0.High<=1000000)))).bind fun w1=>
 if (!w1)=true then
 some 6
 else
 some 0
def Il [Ev] (t:Types) (i_1:Int):Option Int:=
 (AG t.Nodes i_1).bind fun x12=>
 (EH x12.Name).bind fun x17=>
 if (!x17)=true then
 some 2
 else
 (slc t.Nodes 0 i_1).bind fun x23=>
 (CM x23 (fun y0=>MH y0 x12)).bind fun x25=>
 if x25=true then
 some 5
 else
 if ((decide (x12.Parent<(-1)))||(decide (i_1<=x12.Parent)))=true then
 some 6
 else
 if (decide (4<(x12.Attrs.length:Int)))=true then
 some 3
 else
 (J2 t i_1).bind fun x43=>
 if (decide (8<(x43.length:Int)))=true then
 some 3
 else
 thenR (forR (ρ:=Int) (fun (i1:Int) (_:Unit)=>
 (AG x43 i1).bind fun x61=>
 (slc x43 0 i1).bind fun x65=>
 (E2 x61 x65).bind fun x66=>
 if (!decide (x66=0))=true then
 some (.ret x66)
 else
 some (.next ())) (AI ((x43.length:Int) - (x12.Attrs.length:Int))) (x43.length:Int) ()) (fun _=>
 some 0) (fun v1=>some v1)
def KV (n:Int) (c0:Types):Option Bool:=
 some ((decide (0<=n))&&(decide (n<(c0.Nodes.length:Int))))
def DO [Ev] (s_0:List CJ) (f:CJ->Option Bool):Option Int:=
 thenR (forR (ρ:=Int) (fun (i0:Int) (_:Unit)=>
 (AG s_0 i0).bind fun x14=>
 (f x14).bind fun x16=>
 if x16=true then
 some (.ret i0)
 else
 some (.next ())) 0 (s_0.length:Int) ()) (fun _=>
 some (-1)) (fun v0=>some v0)
def CL [Ev] (s_0:List CJ) (f:CJ->Option Bool):Option Bool:=
 (DO s_0 f).bind fun x7=>
 some (decide (0<=x7))
def MG (y:CJ) (c0:CJ):Option Bool:=
 some (y.Name==c0.Name)
def Jo (low:Int) (high:Int):Option Bool:=
 some (((decide (0<=low))&&(decide (low<=40)))&&((decide (high=(-1)))||((decide (low<=high))&&(decide (high<=40)))))
def Ik [Ev] (t:Types) (i_1:Int):Option Int:=
 (AG t.Edges i_1).bind fun x10=>
 (EH x10.Name).bind fun x16=>
 if (!x16)=true then
 some 2
 else
 (slc t.Edges 0 i_1).bind fun x22=>
 (CL x22 (fun y0=>MG y0 x10)).bind fun x24=>
 if x24=true then
 some 5
 else
 (KV x10.From t).bind fun x29=>
 (if (!x29)=true then some true else ((KV x10.To t).bind fun x35=>
 some (!x35))).bind fun x37=>
 (if x37=true then
 some x37
 else
 (Jo x10.OutLow x10.OutHigh).bind fun x42=>
 (if (!x42)=true then some true else ((Jo x10.InLow x10.InHigh).bind fun x49=>
 some (!x49))).bind fun x51=>
 some x51).bind fun w1=>
 if w1=true then
 some 6
 else
 some 0
def E7 [Ev] (t:Types):Option (ByteArray × Int):=
 if (decide ((t.Nodes.length:Int)=0))=true then
 some ((⟨#[]⟩:ByteArray),7)
 else
 if ((decide (12<(t.Nodes.length:Int)))||(decide (20<(t.Edges.length:Int))))=true then
 some ((⟨#[]⟩:ByteArray),3)
 else
 thenR (forR (ρ:=(ByteArray × Int)) (fun (i1:Int) (_:Unit)=>
 (AG t.Nodes i1).bind fun x32=>
 (Il t i1).bind fun x36=>
 if (!decide (x36=0))=true then
 some (.ret (x32.Name,x36))
 else
 some (.next ())) 0 (t.Nodes.length:Int) ()) (fun _=>
 thenR (forR (ρ:=(ByteArray × Int)) (fun (i3:Int) (_:Unit)=>
 (AG t.Edges i3).bind fun x49=>
 (Ik t i3).bind fun x53=>
 if (!decide (x53=0))=true then
 some (.ret (x49.Name,x53))
 else
 some (.next ())) 0 (t.Edges.length:Int) ()) (fun _=>
 some ((⟨#[]⟩:ByteArray),0)) (fun v3=>some v3)) (fun v1=>some v1)
def EN [Ev] (s_0:List Int) (f:Int->Option Bool):Option Int:=
 thenR (forR (ρ:=Int) (fun (i0:Int) (_:Unit)=>
 (AG s_0 i0).bind fun x14=>
 (f x14).bind fun x16=>
 if x16=true then
 some (.ret i0)
 else
 some (.next ())) 0 (s_0.length:Int) ()) (fun _=>
 some (-1)) (fun v0=>some v0)
def BJ [Ev] (s_0:List Int) (f:Int->Option Bool):Option Bool:=
 (EN s_0 f).bind fun x7=>
 some (decide (0<=x7))
def D9 [Ev] (s_0:List B6) (f:B6->Option Bool):Option Int:=
 thenR (forR (ρ:=Int) (fun (i0:Int) (_:Unit)=>
 (AG s_0 i0).bind fun x14=>
 (f x14).bind fun x16=>
 if x16=true then
 some (.ret i0)
 else
 some (.next ())) 0 (s_0.length:Int) ()) (fun _=>
 some (-1)) (fun v0=>some v0)
def BU [Ev] (s_0:List B6) (f:B6->Option Bool):Option Bool:=
 (D9 s_0 f).bind fun x7=>
 some (decide (0<=x7))
def H8 (n:Int) (most:Int):Option Bool:=
 some ((decide (0<=n))&&(decide (n<=most)))
def LC (t:Int):Option Bool:=
 (H8 t 99).bind fun x4=>
 some (!x4)
def Lr (e:B6) (nodes:Int):Option Bool:=
 (H8 e.Type' 99).bind fun x7=>
 (if x7=true then ((H8 e.From (AI (nodes - 1))).bind fun x13=>
 some (x13)) else some false).bind fun x14=>
 (if x14=true then ((H8 e.To (AI (nodes - 1))).bind fun x20=>
 some (x20)) else some false).bind fun x21=>
 some x21
def LD (e:B6) (c0:Graph):Option Bool:=
 (Lr e (c0.Nodes.length:Int)).bind fun x8=>
 some (!x8)
def DZ [Ev] (g:Graph):Option Int:=
 if ((decide (40<(g.Nodes.length:Int)))||(decide (80<(g.Edges.length:Int))))=true then
 some 3
 else
 (BJ g.Nodes LC).bind fun x15=>
 if x15=true then
 some 6
 else
 (BU g.Edges (fun y0=>LD y0 g)).bind fun x19=>
 if x19=true then
 some 6
 else
 some 0
def HV (n:Int) (c0:Types):Option Bool:=
 some (decide ((c0.Nodes.length:Int)<=n))
def HY (x_0:B6) (c0:Types):Option Bool:=
 some (decide ((c0.Edges.length:Int)<=x_0.Type'))
def C7 (n:Int) (low:Int) (high:Int):Option Bool:=
 some ((decide (low<=n))&&(decide (n<=high)))
def LG (a:Int) (c0:Types):Option Bool:=
 some ((decide (a<0))||(decide ((c0.Nodes.length:Int)<=a)))
def FX [Ev] (t:Types) (l:List Int):Option Int:=
 (E7 t).bind fun x9=>
 if (!decide (x9.2=0))=true then
 some x9.2
 else
 (BJ l (fun y0=>LG y0 t)).bind fun x17=>
 if x17=true then
 some 6
 else
 some 0
def slices_Clone_string (s_0:List ByteArray):Option (List ByteArray):=
 A3 [] s_0
def G4 [Ev] (t:Types) (a:Int):Option (List Attr × Int):=
 (FX t [a]).bind fun x12=>
 if (!decide (x12=0))=true then
 some ([],x12)
 else
 (J2 t a).bind fun x18=>
 (forA (fun (i0:Int) (s0:List Attr)=>
 (AG s0 i0).bind fun x28=>
 (slices_Clone_string x28.Names).bind fun x31=>
 (AG s0 i0).bind fun x32=>
 some (B8 s0 i0 (Attr.mk x32.Name x32.Low x32.High x31))) 0 (x18.length:Int) x18).bind fun s0=>
 some (s0,0)
def FI [Ev] (t:Types) (p:Pattern) (s_2:CS):Option (Attr × Bool):=
 (C7 s_2.Node 0 (AI ((p.Graph.Nodes.length:Int) - 1))).bind fun x17=>
 if (!x17)=true then
 some (Attr.mk (⟨#[]⟩:ByteArray) 0 0 [],false)
 else
 (AG p.Graph.Nodes s_2.Node).bind fun x27=>
 (G4 t x27).bind fun x29=>
 (C7 s_2.Attr 0 (AI ((x29.1.length:Int) - 1))).bind fun x37=>
 if (!x37)=true then
 some (Attr.mk (⟨#[]⟩:ByteArray) 0 0 [],false)
 else
 (AG x29.1 s_2.Attr).bind fun x43=>
 some (x43,true)
def IS (n:Int) (t:Term):Option Bool:=
 some ((((decide ((-1)<=t.Var))&&(decide (t.Var<n)))&&(decide ((-1000000)<=t.Add)))&&(decide (t.Add<=1000000)))
def I3 (n:Int) (x_1:Test):Option Int:=
 if ((!decide (x_1.Kind=1))&&(!decide (x_1.Kind=2)))=true then
 some 1
 else
 (IS n x_1.Left).bind fun x18=>
 (if (!x18)=true then some true else ((IS n x_1.Right).bind fun x24=>
 some (!x24))).bind fun x26=>
 if x26=true then
 some 6
 else
 some 0
def H6 (n:Int) (l:List Test):Option Int:=
 if ((decide (n<0))||(decide (12<n)))=true then
 some 6
 else
 if (decide (40<(l.length:Int)))=true then
 some 3
 else
 thenR (forR (ρ:=Int) (fun (i0:Int) (_:Unit)=>
 (AG l i0).bind fun x21=>
 (I3 n x21).bind fun x25=>
 if (!decide (x25=0))=true then
 some (.ret x25)
 else
 some (.next ())) 0 (l.length:Int) ()) (fun _=>
 some 0) (fun v0=>some v0)
def Iy (s_0:List Bool) (v_1:Bool):Option Int:=
 thenR (forR (ρ:=Int) (fun (i0:Int) (_:Unit)=>
 (AG s_0 i0).bind fun x14=>
 if (v_1==x14)=true then
 some (.ret i0)
 else
 some (.next ())) 0 (s_0.length:Int) ()) (fun _=>
 some (-1)) (fun v0=>some v0)
def GB (s_0:List Bool) (v_1:Bool):Option Bool:=
 (Iy s_0 v_1).bind fun x7=>
 some (decide (0<=x7))
def DT [Ev] (t:Types) (p:Pattern):Option Int:=
 (E7 t).bind fun x16=>
 if (!decide (x16.2=0))=true then
 some x16.2
 else
 (DZ p.Graph).bind fun x24=>
 if (!decide (x24=0))=true then
 some x24
 else
 (BJ p.Graph.Nodes (fun y0=>HV y0 t)).bind fun x32=>
 (if x32=true then some true else ((BU p.Graph.Edges (fun y0=>HY y0 t)).bind fun x38=>
 some (x38))).bind fun x39=>
 if x39=true then
 some 13
 else
 (C7 p.Vars 0 12).bind fun x42=>
 if (!x42)=true then
 some 6
 else
 if ((decide (10<(p.Slots.length:Int)))||(decide (10<(p.Tests.length:Int))))=true then
 some 3
 else
 (J8 p.Vars false).bind fun x56=>
 thenR (forR (ρ:=Int) (fun (i0:Int) (s0:List Bool)=>
 (AG p.Slots i0).bind fun x62=>
 (FI t p x62).bind fun x68=>
 (if (!x68.2)=true then some true else ((C7 x62.Term.Var (-1) (AI (p.Vars - 1))).bind fun x80=>
 some (!x80))).bind fun x82=>
 (if x82=true then some true else ((C7 x62.Term.Add (-1000000) 1000000).bind fun x87=>
 some (!x87))).bind fun x89=>
 if x89=true then
 some (.ret 6)
 else
 if (decide (0<=x62.Term.Var))=true then
 (AG s0 x62.Term.Var).bind fun x98=>
 some (.next (B8 s0 x62.Term.Var true))
 else
 some (.next s0)) 0 (p.Slots.length:Int) x56) (fun s0=>
 (H6 p.Vars p.Tests).bind fun x104=>
 if (!decide (x104=0))=true then
 some x104
 else
 (GB s0 false).bind fun x109=>
 if x109=true then
 some 9
 else
 some 0) (fun v0=>some v0)
def FJ (c:AA):Option Bool:=
 some ((decide ((AI ((AI ((AI ((AI ((AI ((c.Map.Nodes.length:Int)+(c.Map.Edges.length:Int)))+(c.Pattern.Graph.Nodes.length:Int)))+(c.Pattern.Graph.Edges.length:Int)))+(c.Pattern.Slots.length:Int)))+(c.Pattern.Tests.length:Int)))=0))&&(decide (c.Pattern.Vars=0)))
def DE [Ev] (s_0:List AA) (f:AA->Option Bool):Option Int:=
 thenR (forR (ρ:=Int) (fun (i0:Int) (_:Unit)=>
 (AG s_0 i0).bind fun x14=>
 (f x14).bind fun x16=>
 if x16=true then
 some (.ret i0)
 else
 some (.next ())) 0 (s_0.length:Int) ()) (fun _=>
 some (-1)) (fun v0=>some v0)
def BZ [Ev] (s_0:List AA) (f:AA->Option Bool):Option Bool:=
 (DE s_0 f).bind fun x7=>
 some (decide (0<=x7))
mutual
def BM [Ev]:Nat->AA->Option Bool
 | 0,_=>none
 | n+1,c=>
  (if (decide (c.Kind=1))=true then
  (if (decide ((c.Kids.length:Int)=0))=true then ((FJ c).bind fun x16=>
  some (x16)) else some false).bind fun x17=>
  some x17
  else
  if (decide (c.Kind=2))=true then
  (if (decide ((c.Kids.length:Int)=1))=true then ((FJ c).bind fun x24=>
  some (x24)) else some false).bind fun x25=>
  some x25
  else
  if (decide (c.Kind=3))=true then
  if (decide (c.Kind=3))=true then
  (if (decide (1<=(c.Kids.length:Int)))=true then ((FJ c).bind fun x33=>
  some (x33)) else some false).bind fun x34=>
  some x34
  else
  if (decide (c.Kind=5))=true then
  some (decide ((c.Kids.length:Int)=1))
  else
  some false
  else
  if (decide (c.Kind=4))=true then
  (if (decide (1<=(c.Kids.length:Int)))=true then ((FJ c).bind fun x33=>
  some (x33)) else some false).bind fun x34=>
  some x34
  else
  if (decide (c.Kind=5))=true then
  some (decide ((c.Kids.length:Int)=1))
  else
  some false).bind fun w1=>
  (if w1=true then ((BZ c.Kids (BR n)).bind fun x43=>
  some (!x43)) else some false).bind fun x45=>
  some x45
def BR [Ev]:Nat->AA->Option Bool
 | 0,_=>none
 | n+1,k=>
  (BM n k).bind fun x4=>
  some (!x4)
end
def F4 [Ev] (c:AA):Option Bool:=J7 fun n=>BM n c
def OW [Ev] (k:AA):Option Bool:=J7 fun n=>BR n k
def CP [Ev]:Nat->AA->Option (Int × Int)
 | 0,_=>none
 | n+1,c=>
  (forA (fun (i0:Int) (s0:Int × Int)=>
  (AG c.Kids i0).bind fun x15=>
  (CP n x15).bind fun x19=>
  some (AI (s0.1+x19.1),max s0.2 x19.2)) 0 (c.Kids.length:Int) (1,0)).bind fun s0=>
  (if (decide (c.Kind=5))=true then
  some (AI (s0.2+1))
  else
  some s0.2).bind fun w1=>
  some (s0.1,w1)
def HZ [Ev] (c:AA):Option (Int × Int):=J7 fun n=>CP n c
def EY [Ev] (c:AA):Option Int:=
 (F4 c).bind fun x6=>
 if (!x6)=true then
 some 1
 else
 (HZ c).bind fun x10=>
 if ((decide (12<x10.1))||(decide (3<x10.2)))=true then
 some 3
 else
 some 0
def EA [Ev] (s_0:List CS) (f:CS->Option Bool):Option Int:=
 thenR (forR (ρ:=Int) (fun (i0:Int) (_:Unit)=>
 (AG s_0 i0).bind fun x14=>
 (f x14).bind fun x16=>
 if x16=true then
 some (.ret i0)
 else
 some (.next ())) 0 (s_0.length:Int) ()) (fun _=>
 some (-1)) (fun v0=>some v0)
def DA [Ev] (s_0:List CS) (f:CS->Option Bool):Option Bool:=
 (EA s_0 f).bind fun x7=>
 some (decide (0<=x7))
def IF (s_0:CS) (c0:Int):Option Bool:=
 some (decide (s_0.Term.Var=c0))
def D2 [Ev] (t:Types) (q:Pattern) (outer:Int):Option Int:=
 (DT t q).bind fun x11=>
 if (!decide (x11=9))=true then
 some x11
 else
 thenR (FC (ρ:=Int) (fun (s0:Int)=>
 if (decide (s0<q.Vars))=true then
 (DA q.Slots (fun y0=>IF y0 s0)).bind fun x25=>
 if (!x25)=true then
 some (.ret x11)
 else
 some (.next (AI (s0+1)))
 else
 some (.brk s0)) outer) (fun s0=>
 some 0) (fun v0=>some v0)
def EI [Ev] (a:Graph) (b:Graph) (m:Morphism):Option Int:=
 (DZ a).bind fun x16=>
 if (!decide (x16=0))=true then
 some x16
 else
 (DZ b).bind fun x21=>
 if (!decide (x21=0))=true then
 some x21
 else
 if ((!decide ((m.Nodes.length:Int)=(a.Nodes.length:Int)))||(!decide ((m.Edges.length:Int)=(a.Edges.length:Int))))=true then
 some 20
 else
 thenR (forR (ρ:=Int) (fun (i0:Int) (_:Unit)=>
 (AG m.Nodes i0).bind fun x47=>
 if ((decide (x47<0))||(decide ((b.Nodes.length:Int)<=x47)))=true then
 some (.ret 6)
 else
 (AG b.Nodes x47).bind fun x61=>
 (AG a.Nodes i0).bind fun x66=>
 if (!decide (x61=x66))=true then
 some (.ret 13)
 else
 some (.next ())) 0 (m.Nodes.length:Int) ()) (fun _=>
 thenR (forR (ρ:=Int) (fun (i2:Int) (_:Unit)=>
 (AG m.Edges i2).bind fun x76=>
 if ((decide (x76<0))||(decide ((b.Edges.length:Int)<=x76)))=true then
 some (.ret 6)
 else
 (AG a.Edges i2).bind fun x90=>
 (AG b.Edges x76).bind fun x95=>
 if (!decide (x90.Type'=x95.Type'))=true then
 some (.ret 13)
 else
 (AG m.Nodes x90.From).bind fun x106=>
 (if (!decide (x106=x95.From))=true then some true else ((AG m.Nodes x90.To).bind fun x116=>
 some (!decide (x116=x95.To)))).bind fun x121=>
 if x121=true then
 some (.ret 11)
 else
 some (.next ())) 0 (m.Edges.length:Int) ()) (fun _=>
 some 0) (fun v2=>some v2)) (fun v0=>some v0)
def slices_Clone_int (s_0:List Int):Option (List Int):=
 A3 [] s_0
def slices_Sort_int (l:List Int):Option (List Int):=if l.length<=BC then some (OC l) else none
def slices_Compact_int (l:List Int):Option (List Int):=if l.length<=BC then some (Go.Lib.compact l) else none
def HN (l:List Int):Option Int:=
 (slices_Clone_int l).bind fun x5=>
 (slices_Sort_int x5).bind fun x7=>
 (slices_Compact_int x7).bind fun x9=>
 some (x9.length:Int)
def DV [Ev] (a:Graph) (b:Graph) (m:Morphism):Option Bool:=
 (EI a b m).bind fun x10=>
 (if (decide (x10=0))=true then ((HN m.Nodes).bind fun x15=>
 some (decide (x15=(m.Nodes.length:Int)))) else some false).bind fun x20=>
 (if x20=true then ((HN m.Edges).bind fun x24=>
 some (decide (x24=(m.Edges.length:Int)))) else some false).bind fun x29=>
 some x29
def CC [Ev]:Nat->Types->Pattern->AA->Option Int
 | 0,_,_,_=>none
 | n+1,t,p,c=>
  if (decide (c.Kind=5))=true then
  if (decide (c.Pattern.Vars<p.Vars))=true then
  some 20
  else
  (D2 t c.Pattern p.Vars).bind fun x27=>
  if (!decide (x27=0))=true then
  some x27
  else
  (EI p.Graph c.Pattern.Graph c.Map).bind fun x37=>
  if (!decide (x37=0))=true then
  some x37
  else
  (DV p.Graph c.Pattern.Graph c.Map).bind fun x47=>
  if (!x47)=true then
  some 1
  else
  thenR (forR (ρ:=Int) (fun (i0:Int) (_:Unit)=>
  (AG c.Kids i0).bind fun x55=>
  (CC n t c.Pattern x55).bind fun x60=>
  if (!decide (x60=0))=true then
  some (.ret x60)
  else
  some (.next ())) 0 (c.Kids.length:Int) ()) (fun _=>
  some 0) (fun v0=>some v0)
  else
  thenR (forR (ρ:=Int) (fun (i0:Int) (_:Unit)=>
  (AG c.Kids i0).bind fun x55=>
  (CC n t p x55).bind fun x60=>
  if (!decide (x60=0))=true then
  some (.ret x60)
  else
  some (.next ())) 0 (c.Kids.length:Int) ()) (fun _=>
  some 0) (fun v0=>some v0)
def JP [Ev] (t:Types) (p:Pattern) (c:AA):Option Int:=J7 fun n=>CC n t p c
def DU [Ev] (t:Types) (p:Pattern) (c:AA):Option Int:=
 (DT t p).bind fun x11=>
 if (!decide (x11=0))=true then
 some x11
 else
 (EY c).bind fun x16=>
 if (!decide (x16=0))=true then
 some x16
 else
 (JP t p c).bind fun x23=>
 some x23
def FF (s1_0:List Int) (s2_1:List Int):Option Bool:=
 if (!decide ((s1_0.length:Int)=(s2_1.length:Int)))=true then
 some false
 else
 thenR (forR (ρ:=Bool) (fun (i0:Int) (_:Unit)=>
 (AG s1_0 i0).bind fun x18=>
 (AG s2_1 i0).bind fun x22=>
 if (!decide (x18=x22))=true then
 some (.ret false)
 else
 some (.next ())) 0 (s1_0.length:Int) ()) (fun _=>
 some true) (fun v0=>some v0)
def JH [Ev] (t:Types) (kind:Int) (BB:List Int):Option Int:=
 if (decide ((t.Nodes.length:Int)<=kind))=true then
 some 6
 else
 (AG t.Nodes kind).bind fun x19=>
 if x19.Abstract=true then
 some 13
 else
 (G4 t kind).bind fun x25=>
 if (!decide ((BB.length:Int)=(x25.1.length:Int)))=true then
 some 20
 else
 thenR (forR (ρ:=Int) (fun (i0:Int) (_:Unit)=>
 (AG x25.1 i0).bind fun x38=>
 (AG BB i0).bind fun x42=>
 (if (decide (x42<x38.Low))=true then some true else ((AG BB i0).bind fun x50=>
 some (decide (x38.High<x50)))).bind fun x55=>
 if x55=true then
 some (.ret 6)
 else
 some (.next ())) 0 (x25.1.length:Int) ()) (fun _=>
 some 0) (fun v0=>some v0)
def ID (s_0:List Int) (v_1:Int):Option Int:=
 thenR (forR (ρ:=Int) (fun (i0:Int) (_:Unit)=>
 (AG s_0 i0).bind fun x14=>
 if (decide (v_1=x14))=true then
 some (.ret i0)
 else
 some (.next ())) 0 (s_0.length:Int) ()) (fun _=>
 some (-1)) (fun v0=>some v0)
def DB (s_0:List Int) (v_1:Int):Option Bool:=
 (ID s_0 v_1).bind fun x7=>
 some (decide (0<=x7))
def slices_Reverse_int (l:List Int):Option (List Int):=if l.length<=BC then some l.reverse else none
def Ja [Ev] (t:Types) (a:Int):Option (List Int):=
 thenR (FC (ρ:=(List Int)) (fun (s0:Int × List Int)=>
 if (decide (0<=s0.1))=true then
 (A3 s0.2 [s0.1]).bind fun x17=>
 (AG t.Nodes s0.1).bind fun x11=>
 some (.next (x11.Parent,x17))
 else
 some (.brk (s0.1,s0.2))) (a,[])) (fun s0=>
 (slices_Reverse_int s0.2).bind fun x19=>
 some x19) (fun v0=>some v0)
def Iw [Ev] (t:Types) (a:Int) (b:Int):Option Bool:=
 (Ja t a).bind fun x9=>
 (DB x9 b).bind fun x11=>
 some x11
def Ij [Ev] (t:Types) (edge:Int) (from':Int) (to':Int):Option Bool:=
 (FX t [from',to']).bind fun x13=>
 if (((!decide (x13=0))||(decide (edge<0)))||(decide ((t.Edges.length:Int)<=edge)))=true then
 some false
 else
 (AG t.Edges edge).bind fun x31=>
 (Iw t from' x31.From).bind fun x34=>
 (if x34=true then ((AG t.Edges edge).bind fun x41=>
 (Iw t to' x41.To).bind fun x44=>
 some (x44)) else some false).bind fun x45=>
 some x45
def Hr [Ev] (t:Types) (h_1:AY):Option (Int × Int):=
 (E7 t).bind fun x16=>
 if (!decide (x16.2=0))=true then
 some ((-1),x16.2)
 else
 (DZ h_1.Graph).bind fun x24=>
 if (!decide (x24=0))=true then
 some ((-1),x24)
 else
 if (!decide ((h_1.Values.length:Int)=(h_1.Graph.Nodes.length:Int)))=true then
 some ((-1),20)
 else
 thenR (forR (ρ:=(Int × Int)) (fun (i0:Int) (_:Unit)=>
 (AG h_1.Graph.Nodes i0).bind fun x43=>
 (AG h_1.Values i0).bind fun x50=>
 (JH t x43 x50).bind fun x52=>
 if (!decide (x52=0))=true then
 some (.ret (i0,x52))
 else
 some (.next ())) 0 (h_1.Graph.Nodes.length:Int) ()) (fun _=>
 thenR (forR (ρ:=(Int × Int)) (fun (i2:Int) (_:Unit)=>
 (AG h_1.Graph.Edges i2).bind fun x65=>
 if (decide ((t.Edges.length:Int)<=x65.Type'))=true then
 some (.ret (i2,6))
 else
 (AG h_1.Graph.Nodes x65.From).bind fun x82=>
 (AG h_1.Graph.Nodes x65.To).bind fun x89=>
 (Ij t x65.Type' x82 x89).bind fun x91=>
 if (!x91)=true then
 some (.ret (i2,13))
 else
 some (.next ())) 0 (h_1.Graph.Edges.length:Int) ()) (fun _=>
 some ((-1),0)) (fun v2=>some v2)) (fun v0=>some v0)
def KA (n:Int) (c0:Types):Option Bool:=
 some (decide ((c0.Nodes.length:Int)<=n))
def KB (x_0:B6) (c0:Types):Option Bool:=
 some (decide ((c0.Edges.length:Int)<=x_0.Type'))
def FB [Ev] (t:Types) (g:Graph):Option Bool:=
 (BJ g.Nodes (fun y0=>KA y0 t)).bind fun x8=>
 (if (!x8)=true then ((BU g.Edges (fun y0=>KB y0 t)).bind fun x14=>
 some (!x14)) else some false).bind fun x16=>
 some x16
def GA [Ev] (t:Types) (p:Graph) (g:Graph):Option Int:=
 (E7 t).bind fun x14=>
 if (!decide (x14.2=0))=true then
 some x14.2
 else
 thenR (forR (ρ:=Int) (fun (i0:Int) (_:Unit)=>
 (AG [p,g] i0).bind fun x26=>
 (DZ x26).bind fun x29=>
 if (!decide (x29=0))=true then
 some (.ret x29)
 else
 some (.next ())) 0 ([p,g].length:Int) ()) (fun _=>
 (FB t p).bind fun x36=>
 (if (!x36)=true then some true else ((FB t g).bind fun x41=>
 some (!x41))).bind fun x43=>
 if x43=true then
 some 13
 else
 some 0) (fun v0=>some v0)
def Hz [Ev] (t:Types) (a:Int):Option (List Int × Int):=
 (FX t [a]).bind fun x12=>
 if (!decide (x12=0))=true then
 some ([],x12)
 else
 (forA (fun (i0:Int) (s0:List Int)=>
 (Iw t i0 a).bind fun x25=>
 if x25=true then
 (A3 s0 [i0]).bind fun x29=>
 some x29
 else
 some s0) 0 (t.Nodes.length:Int) []).bind fun s0=>
 some (s0,0)
def F9 [Ev] (t:Types):Option (List (List Bool)):=
 (forA (fun (i0:Int) (s0:List (List Bool))=>
 (J8 (t.Nodes.length:Int) false).bind fun x19=>
 (Hz t i0).bind fun x23=>
 (forA (fun (i2:Int) (s2:List Bool)=>
 (AG x23.1 i2).bind fun x30=>
 (AG s2 x30).bind fun x34=>
 some (B8 s2 x30 true)) 0 (x23.1.length:Int) x19).bind fun s2=>
 (A3 s0 [s2]).bind fun x39=>
 some x39) 0 (t.Nodes.length:Int) []).bind fun s0=>
 some s0
def HH [Ev] (t:Types) (p:Graph) (g:Graph) (m:Morphism):Option Int:=
 if ((!decide ((m.Nodes.length:Int)=(p.Nodes.length:Int)))||(!decide ((m.Edges.length:Int)=(p.Edges.length:Int))))=true then
 some 20
 else
 (F9 t).bind fun x33=>
 thenR (forR (ρ:=Int) (fun (i0:Int) (_:Unit)=>
 (AG m.Nodes i0).bind fun x40=>
 if ((decide (x40<0))||(decide ((g.Nodes.length:Int)<=x40)))=true then
 some (.ret 6)
 else
 (AG p.Nodes i0).bind fun x55=>
 (AG x33 x55).bind fun x57=>
 (AG g.Nodes x40).bind fun x62=>
 (AG x57 x62).bind fun x64=>
 if (!x64)=true then
 some (.ret 13)
 else
 some (.next ())) 0 (m.Nodes.length:Int) ()) (fun _=>
 thenR (forR (ρ:=Int) (fun (i2:Int) (_:Unit)=>
 (AG m.Edges i2).bind fun x74=>
 if ((decide (x74<0))||(decide ((g.Edges.length:Int)<=x74)))=true then
 some (.ret 6)
 else
 (AG p.Edges i2).bind fun x88=>
 (AG g.Edges x74).bind fun x93=>
 if (!decide (x88.Type'=x93.Type'))=true then
 some (.ret 13)
 else
 (AG m.Nodes x88.From).bind fun x104=>
 (if (!decide (x104=x93.From))=true then some true else ((AG m.Nodes x88.To).bind fun x114=>
 some (!decide (x114=x93.To)))).bind fun x119=>
 if x119=true then
 some (.ret 11)
 else
 some (.next ())) 0 (m.Edges.length:Int) ()) (fun _=>
 some 0) (fun v2=>some v2)) (fun v0=>some v0)
def IC (l:List Int):Option Bool:=if l.length<=4096 then some (dupB l) else none
def F8 [Ev] (t:Types) (p:Graph) (g:Graph) (m:Morphism) (injective:Bool):Option Int:=
 (GA t p g).bind fun x16=>
 if (!decide (x16=0))=true then
 some x16
 else
 (HH t p g m).bind fun x24=>
 if (!decide (x24=0))=true then
 some x24
 else
 (if injective=true then ((IC m.Nodes).bind fun x32=>
 (if x32=true then some true else ((IC m.Edges).bind fun x36=>
 some (x36))).bind fun x37=>
 some (x37)) else some false).bind fun x38=>
 if x38=true then
 some 5
 else
 some 0
def EU [Ev] (t:Types) (p:Pattern) (h_2:AY):Option Int:=
 (DT t p).bind fun x12=>
 if (!decide (x12=0))=true then
 some x12
 else
 (Hr t h_2).bind fun x19=>
 some x19.2
def EW (x_0:Term) (BB:List Int):Option Int:=
 if (decide (x_0.Var<0))=true then
 some x_0.Add
 else
 (AG BB x_0.Var).bind fun x13=>
 some (AI (x13+x_0.Add))
def IZ (a b c:Int):Option (Int × Int):=if (0<=a∧a<18446744073709551616)∧(0<=b∧b<18446744073709551616)∧0<=c∧c<=1 then some ((a+b+c) % 18446744073709551616,(a+b+c) / 18446744073709551616) else none
def HL (a:Int) (b:Int):Option (Int × Int):=
 (IZ (IntKind.u64.wrap a) (IntKind.u64.wrap b) 0).bind fun x13=>
 (Kw .i64 .shr a 63).bind fun x17=>
 (Kw .i64 .shr b 63).bind fun x19=>
 some (AI ((AI (x17+x19))+(AI x13.2)),x13.1)
def FK (t:Term) (c0:List Int):Option (Int × Int × Bool):=
 if (decide (t.Var=(-1)))=true then
 (HL 0 t.Add).bind fun x17=>
 some (x17.1,x17.2,true)
 else
 if ((decide (t.Var<0))||(decide ((c0.length:Int)<=t.Var)))=true then
 some (0,0,false)
 else
 (AG c0 t.Var).bind fun x37=>
 (HL x37 t.Add).bind fun x41=>
 some (x41.1,x41.2,true)
def Li (vals:List Int):Option Int:=
 thenR (forR (ρ:=Int) (fun (i0:Int) (_:Unit)=>
 (AG vals i0).bind fun x10=>
 if (!decide (x10=0))=true then
 some (.ret x10)
 else
 some (.next ())) 0 (vals.length:Int) ()) (fun _=>
 some 0) (fun v0=>some v0)
def Jj (x_0:Int):Option Bool:=
 some (!decide (x_0=x_0))
def IQ (x_0:Int) (y:Int):Option Int:=
 (Jj x_0).bind fun x8=>
 (Jj y).bind fun x10=>
 if x8=true then
 if x10=true then
 some 0
 else
 some (-1)
 else
 if x10=true then
 some 1
 else
 if (decide (x_0<y))=true then
 some (-1)
 else
 if (decide (y<x_0))=true then
 some 1
 else
 some 0
def JO (x_0:Int):Option Bool:=
 some (!decide (x_0=x_0))
def IR (x_0:Int) (y:Int):Option Int:=
 (JO x_0).bind fun x8=>
 (JO y).bind fun x10=>
 if x8=true then
 if x10=true then
 some 0
 else
 some (-1)
 else
 if x10=true then
 some 1
 else
 if (decide (x_0<y))=true then
 some (-1)
 else
 if (decide (y<x_0))=true then
 some 1
 else
 some 0
def GW (x_0:Test) (BB:List Int):Option Bool:=
 (FK x_0.Left BB).bind fun x18=>
 (FK x_0.Right BB).bind fun x26=>
 if ((!x18.2.2)||(!x26.2.2))=true then
 some false
 else
 (IQ x18.1 x26.1).bind fun x38=>
 (IR x18.2.1 x26.2.1).bind fun x41=>
 (Li [x38,x41]).bind fun x43=>
 some (((decide (x_0.Kind=1))&&(decide (x43<=0)))||((decide (x_0.Kind=2))&&(decide (x43=0))))
def IM (p:Pattern) (h_1:AY) (m:Morphism):Option (List Int × Int):=
 (J8 p.Vars 0).bind fun x18=>
 (J8 p.Vars false).bind fun x21=>
 thenR (forR (ρ:=(List Int × Int)) (fun (i0:Int) (s0:List Int × List Bool)=>
 (AG p.Slots i0).bind fun x27=>
 (AG m.Nodes x27.Node).bind fun x35=>
 (AG h_1.Values x35).bind fun x37=>
 (AG x37 x27.Attr).bind fun x41=>
 (if (decide (0<=x27.Term.Var))=true then ((AG s0.2 x27.Term.Var).bind fun x51=>
 some (!x51)) else some false).bind fun x54=>
 if x54=true then
 (AG s0.1 x27.Term.Var).bind fun x64=>
 (AG s0.2 x27.Term.Var).bind fun x65=>
 (EW x27.Term (B8 s0.1 x27.Term.Var (AI (x41 - x27.Term.Add)))).bind fun x69=>
 if (!decide (x69=x41))=true then
 some (.ret ([],11))
 else
 some (.next (B8 s0.1 x27.Term.Var (AI (x41 - x27.Term.Add)),B8 s0.2 x27.Term.Var true))
 else
 (EW x27.Term s0.1).bind fun x69=>
 if (!decide (x69=x41))=true then
 some (.ret ([],11))
 else
 some (.next (s0.1,s0.2))) 0 (p.Slots.length:Int) (x18,x21)) (fun s0=>
 thenR (forR (ρ:=(List Int × Int)) (fun (i2:Int) (_:Unit)=>
 (AG p.Tests i2).bind fun x78=>
 (GW x78 s0.1).bind fun x82=>
 if (!x82)=true then
 some (.ret ([],16))
 else
 some (.next ())) 0 (p.Tests.length:Int) ()) (fun _=>
 some (s0.1,0)) (fun v2=>some v2)) (fun v0=>some v0)
def ET [Ev] (t:Types) (p:Pattern) (h_2:AY) (m:Morphism):Option (List Int × Int):=
 (EU t p h_2).bind fun x15=>
 if (!decide (x15=0))=true then
 some ([],x15)
 else
 (F8 t p.Graph h_2.Graph m false).bind fun x25=>
 if (!decide (x25=0))=true then
 some ([],x25)
 else
 (IM p h_2 m).bind fun x32=>
 some (x32.1,x32.2)
def D4 [Ev] (t:Types) (p:Pattern) (c:AA) (h_3:AY) (m:AL) (injective:Bool):Option Int:=
 (DU t p c).bind fun x22=>
 if (!decide (x22=0))=true then
 some x22
 else
 (Hr t h_3).bind fun x29=>
 if (!decide (x29.2=0))=true then
 some x29.2
 else
 (F8 t p.Graph h_3.Graph m.Morphism injective).bind fun x43=>
 if (!decide (x43=0))=true then
 some x43
 else
 (ET t p h_3 m.Morphism).bind fun x53=>
 if (!decide (x53.2=0))=true then
 some x53.2
 else
 (FF x53.1 m.Vars).bind fun x62=>
 if (!x62)=true then
 some 11
 else
 some 0
def LF (k:Int) (c0:Int):Option Bool:=
 some ((decide (k<(-1)))||(decide (c0<=k)))
def G2 [Ev] (l:List Int) (n:Int):Option Int:=
 (BJ l (fun y0=>LF y0 n)).bind fun x7=>
 if x7=true then
 some 6
 else
 some 0
def IB (l:List Int) (i_1:Int):Option Int:=
 (Ui l).bind fun x6=>
 (AG l i_1).bind fun x9=>
 some x9
def D7 (f:AH) (i_1:Int) (k:Int):Option Bool:=
 (AG f.p.Edges i_1).bind fun x15=>
 (IB f.partial_.Edges i_1).bind fun x23=>
 if ((decide (0<=x23))&&(!decide (x23=k)))=true then
 some false
 else
 (AG f.g.Edges k).bind fun x37=>
 (AG f.nodes x15.From).bind fun x47=>
 (AG f.nodes x15.To).bind fun x55=>
 some (decide (x37=(B6.mk x15.Type' x47 x55)))
def CI (f:AH):Option Bool:=
 thenR (forR (ρ:=Bool) (fun (i0:Int) (_:Unit)=>
 (AG f.p.Edges i0).bind fun x23=>
 if (!decide ((max x23.From x23.To)=(AI ((f.nodes.length:Int) - 1))))=true then
 some (.next ())
 else
 thenR (forR (ρ:=Bool) (fun (i2:Int) (s2:Bool)=>
 (D7 f i0 i2).bind fun x44=>
 if x44=true then
 some (.brk true)
 else
 some (.next s2)) 0 (f.g.Edges.length:Int) false) (fun s2=>
 if (!s2)=true then
 some (.ret false)
 else
 some (.next ())) (fun v2=>some (.ret v2))) 0 (f.p.Edges.length:Int) ()) (fun _=>
 some true) (fun v0=>some v0)
def A2 [Ev]:Nat->AH->Option AH
 | 0,_=>none
 | n+1,f=>
  (if (decide ((f.out.length:Int)=f.most))=true then
  some f
  else
  if (decide ((f.nodes.length:Int)<(f.p.Nodes.length:Int)))=true then
  (forA (fun (i1:Int) (s1:AH)=>
  (AG f.g.Nodes i1).bind fun x66=>
  (IB s1.partial_.Nodes (f.nodes.length:Int)).bind fun x74=>
  (if ((decide (0<=x74))&&(!decide (x74=i1)))=true then some true else ((AG s1.p.Nodes (f.nodes.length:Int)).bind fun x93=>
  (AG s1.is x93).bind fun x95=>
  (AG x95 x66).bind fun x98=>
  some (!x98))).bind fun x101=>
  (if x101=true then some true else ((if s1.injective=true then ((DB s1.nodes i1).bind fun x113=>
  some (x113)) else some false).bind fun x114=>
  some (x114))).bind fun x115=>
  if x115=true then
  some s1
  else
  (A3 s1.nodes [i1]).bind fun x123=>
  (CI (AH.mk s1.p s1.g s1.is s1.partial_ s1.injective s1.most x123 s1.edges s1.out)).bind fun x127=>
  if x127=true then
  (A2 n (AH.mk s1.p s1.g s1.is s1.partial_ s1.injective s1.most x123 s1.edges s1.out)).bind fun x129=>
  (slc x129.nodes 0 (f.nodes.length:Int)).bind fun x136=>
  some (AH.mk x129.p x129.g x129.is x129.partial_ x129.injective x129.most x136 x129.edges x129.out)
  else
  (slc x123 0 (f.nodes.length:Int)).bind fun x136=>
  some (AH.mk s1.p s1.g s1.is s1.partial_ s1.injective s1.most x136 s1.edges s1.out)) 0 (f.g.Nodes.length:Int) f).bind fun s1=>
  some s1
  else
  if (decide ((f.edges.length:Int)<(f.p.Edges.length:Int)))=true then
  (forA (fun (i3:Int) (s3:AH)=>
  (D7 s3 (f.edges.length:Int) i3).bind fun x170=>
  (if (!x170)=true then some true else ((if s3.injective=true then ((DB s3.edges i3).bind fun x183=>
  some (x183)) else some false).bind fun x184=>
  some (x184))).bind fun x185=>
  if x185=true then
  some s3
  else
  (A3 s3.edges [i3]).bind fun x193=>
  (A2 n (AH.mk s3.p s3.g s3.is s3.partial_ s3.injective s3.most s3.nodes x193 s3.out)).bind fun x197=>
  (slc x197.edges 0 (f.edges.length:Int)).bind fun x204=>
  some (AH.mk x197.p x197.g x197.is x197.partial_ x197.injective x197.most x197.nodes x204 x197.out)) 0 (f.g.Edges.length:Int) f).bind fun s3=>
  some s3
  else
  (slices_Clone_int f.nodes).bind fun x17=>
  (slices_Clone_int f.edges).bind fun x22=>
  (A3 f.out [Morphism.mk x17 x22]).bind fun x25=>
  some (AH.mk f.p f.g f.is f.partial_ f.injective f.most f.nodes f.edges x25)).bind fun w1=>
  some w1
def FH [Ev] (f:AH):Option AH:=J7 fun n=>A2 n f
def HF [Ev] (t:Types) (p:Graph) (g:Graph) (partial_:Morphism) (injective:Bool) (most:Int):Option (List Morphism):=
 (F9 t).bind fun x17=>
 (FH (AH.mk p g x17 partial_ injective most [] [] [])).bind fun x24=>
 some x24.out
def JX [Ev] (t:Types) (p:Graph) (g:Graph) (partial_:Morphism) (injective:Bool):Option (List Morphism × Int):=
 (HF t p g partial_ injective 5001).bind fun x18=>
 if (decide (5000<(x18.length:Int)))=true then
 some ([],3)
 else
 some (x18,0)
def FA [Ev] (t:Types) (p:Graph) (g:Graph) (partial_:Morphism) (injective:Bool):Option (List Morphism × Int):=
 (GA t p g).bind fun x18=>
 if (!decide (x18=0))=true then
 some ([],x18)
 else
 if ((!decide ((partial_.Nodes.length:Int)=(p.Nodes.length:Int)))||(!decide ((partial_.Edges.length:Int)=(p.Edges.length:Int))))=true then
 some ([],20)
 else
 (G2 partial_.Nodes (g.Nodes.length:Int)).bind fun x43=>
 if (!decide (x43=0))=true then
 some ([],x43)
 else
 (G2 partial_.Edges (g.Edges.length:Int)).bind fun x52=>
 if (!decide (x52=0))=true then
 some ([],x52)
 else
 (JX t p g partial_ injective).bind fun x61=>
 some (x61.1,x61.2)
def Hp (l:List Int) (n:Int):Option (List Int):=if l.length=1∧0<=n∧n<=4096 then some (List.replicate n.toNat (l.headD 0)) else none
def GV (n:Int) (AB:List Int) (images:List Int):Option (List Int):=
 (Hp [(-1)] n).bind fun x12=>
 (forA (fun (i0:Int) (s0:List Int)=>
 (AG AB i0).bind fun x18=>
 (AG images i0).bind fun x24=>
 (AG s0 x18).bind fun x26=>
 some (B8 s0 x18 x24)) 0 (AB.length:Int) x12).bind fun s0=>
 some s0
def GU (x_0:Term) (BB:List Int):Option (Int × Int):=
 (C7 x_0.Var (-1) (AI ((BB.length:Int) - 1))).bind fun x11=>
 if (!x11)=true then
 some (0,6)
 else
 (EW x_0 BB).bind fun x15=>
 some (x15,0)
def EC (s_0:AR) (q:Pattern) (m:Morphism) (given:List Int):Option (List Int × Bool):=
 (slices_Clone_int given).bind fun x22=>
 (RO x22 (AI (q.Vars - (given.length:Int))) 0).bind fun x28=>
 (J8 q.Vars false).bind fun x31=>
 (forA (fun (i0:Int) (s0:List Bool)=>
 (AG s0 i0).bind fun x39=>
 some (B8 s0 i0 true)) 0 (given.length:Int) x31).bind fun s0=>
 thenR (forR (ρ:=(List Int × Bool)) (fun (i2:Int) (s2:List Int × List Bool)=>
 (AG q.Slots i2).bind fun x46=>
 (AG m.Nodes x46.Node).bind fun x55=>
 (AG s_0.h.Values x55).bind fun x57=>
 (AG x57 x46.Attr).bind fun x61=>
 (if (decide (0<=x46.Term.Var))=true then ((AG s2.2 x46.Term.Var).bind fun x71=>
 some (!x71)) else some false).bind fun x74=>
 if x74=true then
 (AG s2.1 x46.Term.Var).bind fun x84=>
 (AG s2.2 x46.Term.Var).bind fun x85=>
 (GU x46.Term (B8 s2.1 x46.Term.Var (AI (x61 - x46.Term.Add)))).bind fun x90=>
 if ((!decide (x90.2=0))||(!decide (x90.1=x61)))=true then
 some (.ret ([],false))
 else
 some (.next (B8 s2.1 x46.Term.Var (AI (x61 - x46.Term.Add)),B8 s2.2 x46.Term.Var true))
 else
 (GU x46.Term s2.1).bind fun x90=>
 if ((!decide (x90.2=0))||(!decide (x90.1=x61)))=true then
 some (.ret ([],false))
 else
 some (.next (s2.1,s2.2))) 0 (q.Slots.length:Int) (x28,s0)) (fun s2=>
 thenR (forR (ρ:=(List Int × Bool)) (fun (i4:Int) (_:Unit)=>
 (AG q.Tests i4).bind fun x106=>
 (GW x106 s2.1).bind fun x110=>
 if (!x110)=true then
 some (.ret ([],false))
 else
 some (.next ())) 0 (q.Tests.length:Int) ()) (fun _=>
 some (s2.1,true)) (fun v4=>some v4)) (fun v2=>some v2)
def BV [Ev] (s_0:AR) (c:AA) (m:AL):Option (List AL × Int):=
 (GV (c.Pattern.Graph.Nodes.length:Int) c.Map.Nodes m.Morphism.Nodes).bind fun x29=>
 (GV (c.Pattern.Graph.Edges.length:Int) c.Map.Edges m.Morphism.Edges).bind fun x39=>
 (FA s_0.t c.Pattern.Graph s_0.h.Graph (Morphism.mk x29 x39) s_0.injective).bind fun x51=>
 if (!decide (x51.2=0))=true then
 some ([],x51.2)
 else
 (forA (fun (i0:Int) (s0:List AL)=>
 (AG x51.1 i0).bind fun x61=>
 (EC s_0 c.Pattern x61 m.Vars).bind fun x70=>
 if x70.2=true then
 (A3 s0 [AL.mk x61 x70.1]).bind fun x79=>
 some x79
 else
 some s0) 0 (x51.1.length:Int) []).bind fun s0=>
 some (s0,0)
mutual
def AX [Ev]:Nat->AR->AA->AL->Option (A4 × Int)
 | 0,_,_,_=>none
 | n+1,s_0,c,m=>
  if (decide (c.Kind=2))=true then
  (AG c.Kids 0).bind fun x27=>
  (AX n s_0 x27 m).bind fun x30=>
  if (decide (x30.2=0))=true then
  some (A4.mk 0 (AL.mk (Morphism.mk [] []) []) [],10)
  else
  if (decide (x30.2=10))=true then
  some (A4.mk 0 (AL.mk (Morphism.mk [] []) []) [],0)
  else
  some (A4.mk 0 (AL.mk (Morphism.mk [] []) []) [],x30.2)
  else
  if (decide (c.Kind=3))=true then
  thenR (forR (ρ:=(A4 × Int)) (fun (i2:Int) (s2:A4 × A4)=>
  (AG c.Kids i2).bind fun x49=>
  (AX n s_0 x49 m).bind fun x55=>
  if (!decide (x55.2=0))=true then
  some (.ret (A4.mk 0 (AL.mk (Morphism.mk [] []) []) [],x55.2))
  else
  (A3 s2.2.Kids [x55.1]).bind fun x66=>
  some (.next (s2.1,A4.mk s2.2.Choice s2.2.Match x66))) 0 (c.Kids.length:Int) (A4.mk 0 (AL.mk (Morphism.mk [] []) []) [],A4.mk 0 (AL.mk (Morphism.mk [] []) []) [])) (fun s2=>
  some (s2.2,0)) (fun v2=>some v2)
  else
  if (decide (c.Kind=4))=true then
  thenR (forR (ρ:=(A4 × Int)) (fun (i4:Int) (s4:A4)=>
  (AG c.Kids i4).bind fun x78=>
  (AX n s_0 x78 m).bind fun x84=>
  if (decide (x84.2=0))=true then
  some (.ret (A4.mk i4 (AL.mk (Morphism.mk [] []) []) [x84.1],0))
  else
  if (!decide (x84.2=10))=true then
  some (.ret (A4.mk 0 (AL.mk (Morphism.mk [] []) []) [],x84.2))
  else
  some (.next s4)) 0 (c.Kids.length:Int) (A4.mk 0 (AL.mk (Morphism.mk [] []) []) [])) (fun s4=>
  some (A4.mk 0 (AL.mk (Morphism.mk [] []) []) [],10)) (fun v4=>some v4)
  else
  if (decide (c.Kind=5))=true then
  (BH n s_0 c m).bind fun x104=>
  some (x104.1,x104.2)
  else
  some (A4.mk 0 (AL.mk (Morphism.mk [] []) []) [],0)
def BH [Ev]:Nat->AR->AA->AL->Option (A4 × Int)
 | 0,_,_,_=>none
 | n+1,s_0,c,m=>
  (BV s_0 c m).bind fun x18=>
  if (!decide (x18.2=0))=true then
  some (A4.mk 0 (AL.mk (Morphism.mk [] []) []) [],x18.2)
  else
  thenR (forR (ρ:=(A4 × Int)) (fun (i0:Int) (s0:A4)=>
  (AG x18.1 i0).bind fun x29=>
  (AG c.Kids 0).bind fun x35=>
  (AX n s_0 x35 x29).bind fun x38=>
  if (decide (x38.2=0))=true then
  some (.ret (A4.mk 0 x29 [x38.1],0))
  else
  if (!decide (x38.2=10))=true then
  some (.ret (A4.mk 0 (AL.mk (Morphism.mk [] []) []) [],x38.2))
  else
  some (.next s0)) 0 (x18.1.length:Int) (A4.mk 0 (AL.mk (Morphism.mk [] []) []) [])) (fun s0=>
  some (A4.mk 0 (AL.mk (Morphism.mk [] []) []) [],10)) (fun v0=>some v0)
end
def DM [Ev] (s_0:AR) (c:AA) (m:AL):Option (A4 × Int):=J7 fun n=>AX n s_0 c m
def M8 [Ev] (s_0:AR) (c:AA) (m:AL):Option (A4 × Int):=J7 fun n=>BH n s_0 c m
def DQ [Ev] (t:Types) (p:Pattern) (c:AA) (h_3:AY) (m:AL) (injective:Bool):Option (A4 × Int):=
 (D4 t p c h_3 m injective).bind fun x21=>
 if (!decide (x21=0))=true then
 some (A4.mk 0 (AL.mk (Morphism.mk [] []) []) [],x21)
 else
 (DM (AR.mk t h_3 injective) c m).bind fun x32=>
 some (x32.1,x32.2)
def CW [Ev] (t:Types) (p:Pattern) (c:AA) (h_3:AY) (m:AL) (injective:Bool):Option (Bool × Int):=
 (DQ t p c h_3 m injective).bind fun x23=>
 if (decide (x23.2=10))=true then
 some (false,0)
 else
 some (decide (x23.2=0),x23.2)
def E3 (m:AL):Option Bool:=
 some (decide ((AI ((AI ((m.Morphism.Nodes.length:Int)+(m.Morphism.Edges.length:Int)))+(m.Vars.length:Int)))=0))
def D1 [Ev] (s_0:List AL) (f:AL->Option Bool):Option Int:=
 thenR (forR (ρ:=Int) (fun (i0:Int) (_:Unit)=>
 (AG s_0 i0).bind fun x14=>
 (f x14).bind fun x16=>
 if x16=true then
 some (.ret i0)
 else
 some (.next ())) 0 (s_0.length:Int) ()) (fun _=>
 some (-1)) (fun v0=>some v0)
def DN [Ev] (s_0:List AL) (f:AL->Option Bool):Option Bool:=
 (D1 s_0 f).bind fun x7=>
 some (decide (0<=x7))
def NG (a:Morphism) (b:Morphism):Option Bool:=
 (FF a.Nodes b.Nodes).bind fun x9=>
 (if x9=true then ((FF a.Edges b.Edges).bind fun x15=>
 some (x15)) else some false).bind fun x16=>
 some x16
def J3 (a:AL) (b:AL):Option Bool:=
 (NG a.Morphism b.Morphism).bind fun x9=>
 (if x9=true then ((FF a.Vars b.Vars).bind fun x15=>
 some (x15)) else some false).bind fun x16=>
 some x16
def Hq (x_0:AL) (c0:A4):Option Bool:=
 (J3 x_0 c0.Match).bind fun x7=>
 some x7
def BT [Ev]:Nat->AR->AA->AL->A4->Option Bool
 | 0,_,_,_,_=>none
 | n+1,s_0,c,m,w=>
  if (decide (c.Kind=1))=true then
  (if ((decide ((w.Kids.length:Int)=0))&&(decide (w.Choice=0)))=true then ((E3 w.Match).bind fun x33=>
  some (x33)) else some false).bind fun x34=>
  some x34
  else
  if (decide (c.Kind=2))=true then
  (AG c.Kids 0).bind fun x41=>
  (DM s_0 x41 m).bind fun x44=>
  (if ((decide ((w.Kids.length:Int)=0))&&(decide (w.Choice=0)))=true then ((E3 w.Match).bind fun x57=>
  some (x57)) else some false).bind fun x58=>
  some (x58&&(decide (x44.2=10)))
  else
  if (decide (c.Kind=3))=true then
  (if ((!decide ((w.Kids.length:Int)=(c.Kids.length:Int)))||(!decide (w.Choice=0)))=true then some true else ((E3 w.Match).bind fun x78=>
  some (!x78))).bind fun x80=>
  if x80=true then
  some false
  else
  thenR (forR (ρ:=Bool) (fun (i1:Int) (_:Unit)=>
  (AG c.Kids i1).bind fun x87=>
  (AG w.Kids i1).bind fun x95=>
  (BT n s_0 x87 m x95).bind fun x97=>
  if (!x97)=true then
  some (.ret false)
  else
  some (.next ())) 0 (c.Kids.length:Int) ()) (fun _=>
  some true) (fun v1=>some v1)
  else
  if (decide (c.Kind=4))=true then
  (if (((decide ((w.Kids.length:Int)=1))&&(decide (0<=w.Choice)))&&(decide (w.Choice<(c.Kids.length:Int))))=true then ((E3 w.Match).bind fun x120=>
  some (x120)) else some false).bind fun x121=>
  (if x121=true then ((AG c.Kids w.Choice).bind fun x128=>
  (AG w.Kids 0).bind fun x133=>
  (BT n s_0 x128 m x133).bind fun x135=>
  some (x135)) else some false).bind fun x136=>
  some x136
  else
  if ((!decide ((w.Kids.length:Int)=1))||(!decide (w.Choice=0)))=true then
  some false
  else
  (BV s_0 c m).bind fun x148=>
  (if (!decide (x148.2=0))=true then some true else ((DN x148.1 (fun y0=>Hq y0 w)).bind fun x156=>
  some (!x156))).bind fun x158=>
  if x158=true then
  some false
  else
  (AG c.Kids 0).bind fun x162=>
  (AG w.Kids 0).bind fun x168=>
  (BT n s_0 x162 w.Match x168).bind fun x170=>
  some x170
def GM [Ev] (s_0:AR) (c:AA) (m:AL) (w:A4):Option Bool:=J7 fun n=>BT n s_0 c m w
def DY [Ev] (t:Types) (p:Pattern) (c:AA) (h_3:AY) (m:AL) (injective:Bool) (w:A4):Option Bool:=
 (D4 t p c h_3 m injective).bind fun x21=>
 (if (decide (x21=0))=true then ((GM (AR.mk t h_3 injective) c m w).bind fun x31=>
 some (x31)) else some false).bind fun x32=>
 some x32
def NH :Option Types:=
 some (Types.mk [BF.mk (⟨#[65,99,99,111,117,110,116]⟩:ByteArray) (-1) true [Attr.mk (⟨#[98,97,108,97,110,99,101]⟩:ByteArray) (-1000) 1000 []],BF.mk (⟨#[67,97,115,104]⟩:ByteArray) 0 false [],BF.mk (⟨#[76,111,97,110]⟩:ByteArray) 0 false [Attr.mk (⟨#[115,116,97,116,101]⟩:ByteArray) 0 1 [(⟨#[111,112,101,110]⟩:ByteArray),(⟨#[99,108,111,115,101,100]⟩:ByteArray)]],BF.mk (⟨#[80,101,114,115,111,110]⟩:ByteArray) (-1) false []] [CJ.mk (⟨#[111,119,110,115]⟩:ByteArray) 3 0 0 (-1) 1 1,CJ.mk (⟨#[112,97,121,115]⟩:ByteArray) 1 1 0 (-1) 0 (-1)])
def ND :Option Kb:=
 (some (AA.mk 5 [AA.mk 1 [] (Morphism.mk [] []) (Pattern.mk (Graph.mk [] []) [] 0 [])] (Morphism.mk [0,1] [0]) (Pattern.mk (Graph.mk [3,0,0] [B6.mk 0 0 1,B6.mk 0 0 2]) [CS.mk 1 0 (Term.mk 0 0),CS.mk 2 0 (Term.mk 1 0)] 2 [Test.mk 1 (Term.mk 0 0) (Term.mk 1 0)]))).bind fun x33=>
 some (Kb.mk (Pattern.mk (Graph.mk [3,0] [B6.mk 0 0 1]) [CS.mk 1 0 (Term.mk 0 0)] 1 []) x33)
def FT [Ev] :Option Bool:=
 (NH).bind fun x10=>
 (ND).bind fun x11=>
 (DQ x10 x11.P x11.C (AY.mk (Graph.mk [3,1,1] [B6.mk 0 0 1,B6.mk 0 0 2]) [[],[10],[5]]) (AL.mk (Morphism.mk [0,2] [1]) [5]) true).bind fun x39=>
 (CW x10 x11.P x11.C (AY.mk (Graph.mk [3,1,1] [B6.mk 0 0 1,B6.mk 0 0 2]) [[],[10],[5]]) (AL.mk (Morphism.mk [0,1] [0]) [10]) true).bind fun x50=>
 (if ((((decide (x39.2=0))&&(decide (x50.2=0)))&&(!x50.1))&&(decide ((x39.1.Match.Vars.length:Int)=2)))=true then ((AG x39.1.Match.Vars 1).bind fun x74=>
 some (decide (x74=10))) else some false).bind fun x77=>
 (if x77=true then ((DY x10 x11.P x11.C (AY.mk (Graph.mk [3,1,1] [B6.mk 0 0 1,B6.mk 0 0 2]) [[],[10],[5]]) (AL.mk (Morphism.mk [0,2] [1]) [5]) true x39.1).bind fun x87=>
 some (x87)) else some false).bind fun x88=>
 some x88
def HE [Ev]:Nat->Types->Int->Option (List Attr)
 | 0,_,_=>none
 | n+1,t,a=>
  if (decide (a<0))=true then
  some []
  else
  (AG t.Nodes a).bind fun x12=>
  (HE n t x12.Parent).bind fun x15=>
  (A3 [] x15).bind fun x16=>
  (AG t.Nodes a).bind fun x20=>
  (A3 x16 x20.Attrs).bind fun x23=>
  some x23
def Mq [Ev] (t:Types) (a:Int):Option (List Attr):=J7 fun n=>HE n t a
def D3 (n:Int) (low:Int) (high:Int):Option Bool:=
 some ((decide (low<=n))&&(decide (n<=high)))
def NU (t:E8):Option ByteArray:=
 if (decide (t.Kind=3))=true then
 (Qq (⟨#[34]⟩:ByteArray) t.Text).bind fun x8=>
 (Qq x8 (⟨#[34]⟩:ByteArray)).bind fun x9=>
 some x9
 else
 some t.Text
def KO (c:Int):Option Bool:=
 some (((decide (97<=c))&&(decide (c<=122)))||((decide (65<=c))&&(decide (c<=90))))
def Ir (c:Int):Option Bool:=
 some ((decide (48<=c))&&(decide (c<=57)))
def M1 [Ev] (s_0:ByteArray) (AB:Int) (digits:Bool):Option Int:=
 thenR (FC (ρ:=Int) (fun (s0:Int)=>
 (if (decide ((AI (AB+s0))<(s_0.size:Int)))=true then ((sidx s_0 (AI (AB+s0))).bind fun x19=>
 (Ir x19).bind fun x20=>
 (if x20=true then some true else ((if (!digits)=true then ((sidx s_0 (AI (AB+s0))).bind fun x29=>
 (KO x29).bind fun x30=>
 (if x30=true then some true else ((sidx s_0 (AI (AB+s0))).bind fun x36=>
 some (decide (x36=95)))).bind fun x38=>
 some (x38)) else some false).bind fun x39=>
 some (x39))).bind fun x40=>
 some (x40)) else some false).bind fun x41=>
 if x41=true then
 some (.next (AI (s0+1)))
 else
 some (.brk s0)) 0) (fun s0=>
 some s0) (fun v0=>some v0)
def KP [Ev] (s_0:ByteArray) (AB:Int):Option Int:=
 thenR (FC (ρ:=Int) (fun (s0:Int)=>
 if (decide ((AI (AB+s0))<(s_0.size:Int)))=true then
 (sidx s_0 (AI (AB+s0))).bind fun x19=>
 if (decide (x19=34))=true then
 some (.ret (AI (s0+1)))
 else
 if ((decide (x19<32))||(decide (126<x19)))=true then
 some (.ret 0)
 else
 some (.next (AI (s0+1)))
 else
 some (.brk s0)) 1) (fun s0=>
 some 0) (fun v0=>some v0)
def Mp :Option (List ByteArray):=
 some [(⟨#[45,62]⟩:ByteArray),(⟨#[60,61]⟩:ByteArray),(⟨#[62,61]⟩:ByteArray),(⟨#[61,61]⟩:ByteArray),(⟨#[33,61]⟩:ByteArray),(⟨#[123]⟩:ByteArray),(⟨#[125]⟩:ByteArray),(⟨#[40]⟩:ByteArray),(⟨#[41]⟩:ByteArray),(⟨#[91]⟩:ByteArray),(⟨#[93]⟩:ByteArray),(⟨#[44]⟩:ByteArray),(⟨#[59]⟩:ByteArray),(⟨#[58]⟩:ByteArray),(⟨#[61]⟩:ByteArray),(⟨#[43]⟩:ByteArray),(⟨#[45]⟩:ByteArray),(⟨#[42]⟩:ByteArray),(⟨#[60]⟩:ByteArray),(⟨#[62]⟩:ByteArray),(⟨#[33]⟩:ByteArray),(⟨#[38]⟩:ByteArray),(⟨#[124]⟩:ByteArray),(⟨#[46]⟩:ByteArray),(⟨#[63]⟩:ByteArray)]
def M0 [Ev] (s_0:ByteArray) (AB:Int):Option (E8 × Int × Int):=
 (sidx s_0 AB).bind fun x16=>
 (KO x16).bind fun x18=>
 (if x18=true then some true else ((Ir x16).bind fun x21=>
 some (x21))).bind fun x22=>
 if x22=true then
 (Ir x16).bind fun x26=>
 (M1 s_0 AB x26).bind fun x27=>
 (Ir x16).bind fun x29=>
 (if x29=true then
 some (2,9)
 else
 some (1,20)).bind fun w1=>
 if (decide (w1.2<x27))=true then
 some (E8.mk 0 (⟨#[]⟩:ByteArray) 0,0,3)
 else
 (sslc s_0 AB (AI (AB+x27))).bind fun x40=>
 some (E8.mk w1.1 x40 0,x27,0)
 else
 if (decide (x16=34))=true then
 (KP s_0 AB).bind fun x47=>
 if (decide (x47=0))=true then
 some (E8.mk 0 (⟨#[]⟩:ByteArray) 0,0,2)
 else
 if (decide (60<(AI (x47 - 2))))=true then
 some (E8.mk 0 (⟨#[]⟩:ByteArray) 0,0,3)
 else
 (sslc s_0 (AI (AB+1)) (AI ((AI (AB+x47)) - 1))).bind fun x62=>
 some (E8.mk 3 x62 0,x47,0)
 else
 (Mp).bind fun x65=>
 thenR (forR (ρ:=(E8 × Int × Int)) (fun (i0:Int) (s0:E8)=>
 (AG x65 i0).bind fun x75=>
 (if (decide ((AI (AB+(x75.size:Int)))<=(s_0.size:Int)))=true then ((AG x65 i0).bind fun x88=>
 (sslc s_0 AB (AI (AB+(x88.size:Int)))).bind fun x92=>
 (AG x65 i0).bind fun x95=>
 some (x92==x95)) else some false).bind fun x98=>
 if x98=true then
 (AG x65 i0).bind fun x101=>
 (AG x65 i0).bind fun x106=>
 some (.ret (E8.mk 4 x101 0,(x106.size:Int),0))
 else
 some (.next s0)) 0 (x65.length:Int) (E8.mk 0 (⟨#[]⟩:ByteArray) 0)) (fun s0=>
 some (E8.mk 0 (⟨#[]⟩:ByteArray) 0,0,2)) (fun v0=>some v0)
def Mn [Ev] (t:E8):Option Bool:=
 (NU t).bind fun x8=>
 if (x8==(⟨#[]⟩:ByteArray))=true then
 some false
 else
 (M0 x8 0).bind fun x13=>
 some (((decide (x13.2.2=0))&&(decide (x13.2.1=(x8.size:Int))))&&(decide (x13.1.Kind=t.Kind)))
def HC [Ev] (s_0:ByteArray):Option Bool:=
 (Mn (E8.mk 1 s_0 0)).bind fun x5=>
 some x5
def K3 [Ev] (l:List ByteArray):Option Int:=
 if (decide (20<(l.length:Int)))=true then
 some 3
 else
 thenR (forR (ρ:=Int) (fun (i0:Int) (_:Unit)=>
 (AG l i0).bind fun x16=>
 (HC x16).bind fun x18=>
 if (!x18)=true then
 some (.ret 2)
 else
 thenR (forR (ρ:=Int) (fun (i2:Int) (_:Unit)=>
 (AG l i2).bind fun x27=>
 (AG l i0).bind fun x31=>
 if (x27==x31)=true then
 some (.ret 5)
 else
 some (.next ())) 0 i0 ()) (fun _=>
 some (.next ())) (fun v2=>some (.ret v2))) 0 (l.length:Int) ()) (fun _=>
 some 0) (fun v0=>some v0)
def Ib [Ev] (a:Attr):Option Int:=
 if (decide ((a.Names.length:Int)=0))=true then
 (D3 a.Low (-1000000) 1000000).bind fun x10=>
 (if (!x10)=true then some true else ((D3 a.High a.Low 1000000).bind fun x17=>
 some (!x17))).bind fun x19=>
 if x19=true then
 some 6
 else
 some 0
 else
 (K3 a.Names).bind fun x22=>
 if (!decide (x22=0))=true then
 some x22
 else
 if ((!decide (a.Low=0))||(!decide (a.High=(AI ((a.Names.length:Int) - 1)))))=true then
 some 6
 else
 some 0
def L3 [Ev] (t:Types) (i_1:Int):Option Int:=
 (AG t.Nodes i_1).bind fun x14=>
 (HC x14.Name).bind fun x18=>
 if (!x18)=true then
 some 2
 else
 thenR (forR (ρ:=Int) (fun (i0:Int) (_:Unit)=>
 (AG t.Nodes i0).bind fun x28=>
 if (x28.Name==x14.Name)=true then
 some (.ret 5)
 else
 some (.next ())) 0 i_1 ()) (fun _=>
 (D3 x14.Parent (-1) (AI (i_1 - 1))).bind fun x38=>
 if (!x38)=true then
 some 6
 else
 (Mq t i_1).bind fun x42=>
 if ((decide (4<(x14.Attrs.length:Int)))||(decide (8<(x42.length:Int))))=true then
 some 3
 else
 thenR (forR (ρ:=Int) (fun (i2:Int) (_:Unit)=>
 (AG x42 i2).bind fun x66=>
 (HC x66.Name).bind fun x69=>
 if (!x69)=true then
 some (.ret 2)
 else
 thenR (forR (ρ:=Int) (fun (i4:Int) (_:Unit)=>
 (AG x42 i4).bind fun x78=>
 (AG x42 i2).bind fun x83=>
 if (x78.Name==x83.Name)=true then
 some (.ret 5)
 else
 some (.next ())) 0 i2 ()) (fun _=>
 (AG x42 i2).bind fun x89=>
 (Ib x89).bind fun x91=>
 if (!decide (x91=0))=true then
 some (.ret x91)
 else
 some (.next ())) (fun v4=>some (.ret v4))) (AI ((x42.length:Int) - (x14.Attrs.length:Int))) (x42.length:Int) ()) (fun _=>
 some 0) (fun v2=>some v2)) (fun v0=>some v0)
def Js (low:Int) (high:Int):Option Bool:=
 (D3 low 0 40).bind fun x6=>
 (if x6=true then ((if (decide (high=(-1)))=true then some true else ((D3 high low 40).bind fun x13=>
 some (x13))).bind fun x14=>
 some (x14)) else some false).bind fun x15=>
 some x15
def L0 [Ev] (t:Types) (i_1:Int):Option Int:=
 (AG t.Edges i_1).bind fun x11=>
 (HC x11.Name).bind fun x15=>
 if (!x15)=true then
 some 2
 else
 thenR (forR (ρ:=Int) (fun (i0:Int) (_:Unit)=>
 (AG t.Edges i0).bind fun x25=>
 if (x25.Name==x11.Name)=true then
 some (.ret 5)
 else
 some (.next ())) 0 i_1 ()) (fun _=>
 (D3 x11.From 0 (AI ((t.Nodes.length:Int) - 1))).bind fun x38=>
 (if (!x38)=true then some true else ((D3 x11.To 0 (AI ((t.Nodes.length:Int) - 1))).bind fun x44=>
 some (!x44))).bind fun x46=>
 (if x46=true then some true else ((Js x11.OutLow x11.OutHigh).bind fun x52=>
 some (!x52))).bind fun x54=>
 (if x54=true then some true else ((Js x11.InLow x11.InHigh).bind fun x60=>
 some (!x60))).bind fun x62=>
 if x62=true then
 some 6
 else
 some 0) (fun v0=>some v0)
def Hw [Ev] (t:Types):Option (ByteArray × Int):=
 if (decide ((t.Nodes.length:Int)=0))=true then
 some ((⟨#[]⟩:ByteArray),7)
 else
 if ((decide (12<(t.Nodes.length:Int)))||(decide (20<(t.Edges.length:Int))))=true then
 some ((⟨#[]⟩:ByteArray),3)
 else
 thenR (forR (ρ:=(ByteArray × Int)) (fun (i0:Int) (_:Unit)=>
 (L3 t i0).bind fun x31=>
 if (!decide (x31=0))=true then
 (AG t.Nodes i0).bind fun x37=>
 some (.ret (x37.Name,x31))
 else
 some (.next ())) 0 (t.Nodes.length:Int) ()) (fun _=>
 thenR (forR (ρ:=(ByteArray × Int)) (fun (i2:Int) (_:Unit)=>
 (L0 t i2).bind fun x50=>
 if (!decide (x50=0))=true then
 (AG t.Edges i2).bind fun x56=>
 some (.ret (x56.Name,x50))
 else
 some (.next ())) 0 (t.Edges.length:Int) ()) (fun _=>
 some ((⟨#[]⟩:ByteArray),0)) (fun v2=>some v2)) (fun v0=>some v0)
def Ke (n:Int):Option Bool:=
 some ((decide (0<=n))&&(decide (n<=99)))
def Mr (e:B6) (nodes:Int):Option Bool:=
 (Ke e.Type').bind fun x7=>
 some ((((x7&&(decide (0<=e.From)))&&(decide (e.From<nodes)))&&(decide (0<=e.To)))&&(decide (e.To<nodes)))
def FU (g:Graph):Option Int:=
 if ((decide (40<(g.Nodes.length:Int)))||(decide (80<(g.Edges.length:Int))))=true then
 some 3
 else
 thenR (forR (ρ:=Int) (fun (i0:Int) (_:Unit)=>
 (AG g.Nodes i0).bind fun x25=>
 (Ke x25).bind fun x27=>
 if (!x27)=true then
 some (.ret 6)
 else
 some (.next ())) 0 (g.Nodes.length:Int) ()) (fun _=>
 thenR (forR (ρ:=Int) (fun (i2:Int) (_:Unit)=>
 (AG g.Edges i2).bind fun x39=>
 (Mr x39 (g.Nodes.length:Int)).bind fun x44=>
 if (!x44)=true then
 some (.ret 6)
 else
 some (.next ())) 0 (g.Edges.length:Int) ()) (fun _=>
 some 0) (fun v2=>some v2)) (fun v0=>some v0)
def It (t:Types) (g:Graph):Option Bool:=
 thenR (forR (ρ:=Bool) (fun (i0:Int) (_:Unit)=>
 (AG g.Nodes i0).bind fun x17=>
 (if (decide (x17<0))=true then some true else ((AG g.Nodes i0).bind fun x24=>
 some (decide ((t.Nodes.length:Int)<=x24)))).bind fun x30=>
 if x30=true then
 some (.ret false)
 else
 some (.next ())) 0 (g.Nodes.length:Int) ()) (fun _=>
 thenR (forR (ρ:=Bool) (fun (i2:Int) (_:Unit)=>
 (AG g.Edges i2).bind fun x41=>
 (if (decide (x41.Type'<0))=true then some true else ((AG g.Edges i2).bind fun x49=>
 some (decide ((t.Edges.length:Int)<=x49.Type')))).bind fun x56=>
 if x56=true then
 some (.ret false)
 else
 some (.next ())) 0 (g.Edges.length:Int) ()) (fun _=>
 some true) (fun v2=>some v2)) (fun v0=>some v0)
def Jt [Ev] (t:Types) (a:Int) (b:Int):Option Int:=
 (Hw t).bind fun x11=>
 if (!decide (x11.2=0))=true then
 some x11.2
 else
 (D3 a 0 (AI ((t.Nodes.length:Int) - 1))).bind fun x22=>
 (if (!x22)=true then some true else ((D3 b 0 (AI ((t.Nodes.length:Int) - 1))).bind fun x30=>
 some (!x30))).bind fun x32=>
 if x32=true then
 some 6
 else
 some 0
def Hv [Ev] (t:Types) (a:Int):Option (List Attr × Int):=
 (Jt t a a).bind fun x14=>
 if (!decide (x14=0))=true then
 some ([],x14)
 else
 (Mq t a).bind fun x20=>
 (forA (fun (i0:Int) (s0:List Attr)=>
 (AG x20 i0).bind fun x29=>
 (A3 [] x29.Names).bind fun x34=>
 (A3 s0 [Attr.mk x29.Name x29.Low x29.High x34]).bind fun x39=>
 some x39) 0 (x20.length:Int) []).bind fun s0=>
 some (s0,0)
def MA [Ev] (t:Types) (p:Pattern) (node:Int) (index:Int):Option (Attr × Bool):=
 if ((decide (node<0))||(decide ((p.Graph.Nodes.length:Int)<=node)))=true then
 some (Attr.mk (⟨#[]⟩:ByteArray) 0 0 [],false)
 else
 (AG p.Graph.Nodes node).bind fun x29=>
 (Hv t x29).bind fun x31=>
 if (((!decide (x31.2=0))||(decide (index<0)))||(decide ((x31.1.length:Int)<=index)))=true then
 some (Attr.mk (⟨#[]⟩:ByteArray) 0 0 [],false)
 else
 (AG x31.1 index).bind fun x49=>
 some (x49,true)
def LE (n:Int):Option Bool:=
 some ((decide ((-1000000)<=n))&&(decide (n<=1000000)))
def I7 (n:Int) (t:Term):Option Int:=
 if ((((decide (t.Var<(-1)))||(decide (n<=t.Var)))||(decide (t.Add<(-1000000))))||(decide (1000000<t.Add)))=true then
 some 6
 else
 some 0
def M2 (n:Int) (x_1:Test):Option Int:=
 if ((!decide (x_1.Kind=1))&&(!decide (x_1.Kind=2)))=true then
 some 1
 else
 (I7 n x_1.Left).bind fun x17=>
 if (!decide (x17=0))=true then
 some x17
 else
 (I7 n x_1.Right).bind fun x24=>
 some x24
def K1 (n:Int) (l:List Test):Option Int:=
 if ((decide (n<0))||(decide (12<n)))=true then
 some 6
 else
 if (decide (40<(l.length:Int)))=true then
 some 3
 else
 thenR (forR (ρ:=Int) (fun (i0:Int) (_:Unit)=>
 (AG l i0).bind fun x25=>
 (M2 n x25).bind fun x27=>
 if (!decide (x27=0))=true then
 some (.ret x27)
 else
 some (.next ())) 0 (l.length:Int) ()) (fun _=>
 some 0) (fun v0=>some v0)
def KS (p:Pattern) (v_1:Int):Option Bool:=
 thenR (forR (ρ:=Bool) (fun (i0:Int) (_:Unit)=>
 (AG p.Slots i0).bind fun x16=>
 if (decide (x16.Term.Var=v_1))=true then
 some (.ret true)
 else
 some (.next ())) 0 (p.Slots.length:Int) ()) (fun _=>
 some false) (fun v0=>some v0)
def FV [Ev] (t:Types) (p:Pattern):Option Int:=
 (Hw t).bind fun x16=>
 if (!decide (x16.2=0))=true then
 some x16.2
 else
 (FU p.Graph).bind fun x24=>
 if (!decide (x24=0))=true then
 some x24
 else
 (It t p.Graph).bind fun x31=>
 if (!x31)=true then
 some 13
 else
 if ((decide (p.Vars<0))||(decide (12<p.Vars)))=true then
 some 6
 else
 if ((decide (10<(p.Slots.length:Int)))||(decide (10<(p.Tests.length:Int))))=true then
 some 3
 else
 thenR (forR (ρ:=Int) (fun (i0:Int) (_:Unit)=>
 (AG p.Slots i0).bind fun x61=>
 (MA t p x61.Node x61.Attr).bind fun x70=>
 (if (((!x70.2)||(decide (x61.Term.Var<(-1))))||(decide (p.Vars<=x61.Term.Var)))=true then some true else ((LE x61.Term.Add).bind fun x93=>
 some (!x93))).bind fun x95=>
 if x95=true then
 some (.ret 6)
 else
 some (.next ())) 0 (p.Slots.length:Int) ()) (fun _=>
 (K1 p.Vars p.Tests).bind fun x100=>
 if (!decide (x100=0))=true then
 some x100
 else
 thenR (forR (ρ:=Int) (fun (i2:Int) (_:Unit)=>
 (KS p i2).bind fun x112=>
 if (!x112)=true then
 some (.ret 9)
 else
 some (.next ())) 0 p.Vars ()) (fun _=>
 some 0) (fun v2=>some v2)) (fun v0=>some v0)
def H9 (c:AA):Option Bool:=
 some (((decide ((AI ((AI ((AI ((c.Map.Nodes.length:Int)+(c.Map.Edges.length:Int)))+(c.Pattern.Graph.Nodes.length:Int)))+(c.Pattern.Graph.Edges.length:Int)))=0))&&(decide ((AI ((c.Pattern.Slots.length:Int)+(c.Pattern.Tests.length:Int)))=0)))&&(decide (c.Pattern.Vars=0)))
def LA (c:AA):Option Bool:=
 if (decide (c.Kind=1))=true then
 (if (decide ((c.Kids.length:Int)=0))=true then ((H9 c).bind fun x13=>
 some (x13)) else some false).bind fun x14=>
 some x14
 else
 if (decide (c.Kind=2))=true then
 (if (decide ((c.Kids.length:Int)=1))=true then ((H9 c).bind fun x23=>
 some (x23)) else some false).bind fun x24=>
 some x24
 else
 (if (decide (c.Kind=3))=true then
 some (decide (c.Kind=3))
 else
 some (decide (c.Kind=4))).bind fun w1=>
 if w1=true then
 (if (decide (0<(c.Kids.length:Int)))=true then ((H9 c).bind fun x34=>
 some (x34)) else some false).bind fun x35=>
 some x35
 else
 if (decide (c.Kind=5))=true then
 some (decide ((c.Kids.length:Int)=1))
 else
 some false
def E1 [Ev]:Nat->AA->Option Bool
 | 0,_=>none
 | n+1,c=>
  (LA c).bind fun x5=>
  if (!x5)=true then
  some false
  else
  thenR (forR (ρ:=Bool) (fun (i0:Int) (_:Unit)=>
  (AG c.Kids i0).bind fun x17=>
  (E1 n x17).bind fun x19=>
  if (!x19)=true then
  some (.ret false)
  else
  some (.next ())) 0 (c.Kids.length:Int) ()) (fun _=>
  some true) (fun v0=>some v0)
def Ma [Ev] (c:AA):Option Bool:=J7 fun n=>E1 n c
def FM [Ev]:Nat->AA->Option (Int × Int)
 | 0,_=>none
 | n+1,c=>
  (forA (fun (i0:Int) (s0:Int × Int)=>
  (AG c.Kids i0).bind fun x20=>
  (FM n x20).bind fun x22=>
  some (AI (s0.1+x22.1),max s0.2 x22.2)) 0 (c.Kids.length:Int) (1,0)).bind fun s0=>
  (if (decide (c.Kind=5))=true then
  some (AI (s0.2+1))
  else
  some s0.2).bind fun w1=>
  some (s0.1,w1)
def NJ [Ev] (c:AA):Option (Int × Int):=J7 fun n=>FM n c
def K8 [Ev] (c:AA):Option Int:=
 (Ma c).bind fun x6=>
 if (!x6)=true then
 some 1
 else
 (NJ c).bind fun x10=>
 if ((decide (12<x10.1))||(decide (3<x10.2)))=true then
 some 3
 else
 some 0
def MC (p:Pattern) (v_1:Int):Option Bool:=
 thenR (forR (ρ:=Bool) (fun (i0:Int) (_:Unit)=>
 (AG p.Slots i0).bind fun x16=>
 if (decide (x16.Term.Var=v_1))=true then
 some (.ret true)
 else
 some (.next ())) 0 (p.Slots.length:Int) ()) (fun _=>
 some false) (fun v0=>some v0)
def K9 [Ev] (t:Types) (vars:Int) (q:Pattern):Option Int:=
 if (decide (q.Vars<vars))=true then
 some 20
 else
 (FV t q).bind fun x15=>
 if (!decide (x15=9))=true then
 some x15
 else
 thenR (forR (ρ:=Int) (fun (i0:Int) (_:Unit)=>
 (MC q i0).bind fun x28=>
 if (!x28)=true then
 some (.ret x15)
 else
 some (.next ())) vars q.Vars ()) (fun _=>
 some 0) (fun v0=>some v0)
def Jv (a:Graph) (b:Graph) (m:Morphism):Option Int:=
 (FU a).bind fun x14=>
 if (!decide (x14=0))=true then
 some x14
 else
 (FU b).bind fun x19=>
 if (!decide (x19=0))=true then
 some x19
 else
 if ((!decide ((m.Nodes.length:Int)=(a.Nodes.length:Int)))||(!decide ((m.Edges.length:Int)=(a.Edges.length:Int))))=true then
 some 20
 else
 thenR (forR (ρ:=Int) (fun (i0:Int) (_:Unit)=>
 (AG m.Nodes i0).bind fun x49=>
 (if (decide (x49<0))=true then some true else ((AG m.Nodes i0).bind fun x56=>
 some (decide ((b.Nodes.length:Int)<=x56)))).bind fun x62=>
 if x62=true then
 some (.ret 6)
 else
 (AG m.Nodes i0).bind fun x68=>
 (AG b.Nodes x68).bind fun x70=>
 (AG a.Nodes i0).bind fun x75=>
 if (!decide (x70=x75))=true then
 some (.ret 13)
 else
 some (.next ())) 0 (a.Nodes.length:Int) ()) (fun _=>
 thenR (forR (ρ:=Int) (fun (i2:Int) (_:Unit)=>
 (AG m.Edges i2).bind fun x88=>
 (if (decide (x88<0))=true then some true else ((AG m.Edges i2).bind fun x95=>
 some (decide ((b.Edges.length:Int)<=x95)))).bind fun x101=>
 if x101=true then
 some (.ret 6)
 else
 (AG a.Edges i2).bind fun x105=>
 (AG m.Edges i2).bind fun x112=>
 (AG b.Edges x112).bind fun x114=>
 if (!decide (x105.Type'=x114.Type'))=true then
 some (.ret 13)
 else
 (AG m.Nodes x105.From).bind fun x125=>
 (if (!decide (x125=x114.From))=true then some true else ((AG m.Nodes x105.To).bind fun x135=>
 some (!decide (x135=x114.To)))).bind fun x140=>
 if x140=true then
 some (.ret 11)
 else
 some (.next ())) 0 (a.Edges.length:Int) ()) (fun _=>
 some 0) (fun v2=>some v2)) (fun v0=>some v0)
def H3 (l:List Int):Option Bool:=
 thenR (forR (ρ:=Bool) (fun (i0:Int) (_:Unit)=>
 thenR (forR (ρ:=Bool) (fun (i2:Int) (_:Unit)=>
 (AG l i0).bind fun x18=>
 (AG l i2).bind fun x22=>
 if (decide (x18=x22))=true then
 some (.ret false)
 else
 some (.next ())) 0 i0 ()) (fun _=>
 some (.next ())) (fun v2=>some (.ret v2))) 0 (l.length:Int) ()) (fun _=>
 some true) (fun v0=>some v0)
def Ic (a:Graph) (b:Graph) (m:Morphism):Option Bool:=
 (Jv a b m).bind fun x10=>
 (if (decide (x10=0))=true then ((H3 m.Nodes).bind fun x15=>
 some (x15)) else some false).bind fun x16=>
 (if x16=true then ((H3 m.Edges).bind fun x20=>
 some (x20)) else some false).bind fun x21=>
 some x21
def FW [Ev]:Nat->Types->Pattern->AA->Option Int
 | 0,_,_,_=>none
 | n+1,t,p,c=>
  if (decide (c.Kind=5))=true then
  (K9 t p.Vars c.Pattern).bind fun x21=>
  if (!decide (x21=0))=true then
  some x21
  else
  (Jv p.Graph c.Pattern.Graph c.Map).bind fun x32=>
  if (!decide (x32=0))=true then
  some x32
  else
  (Ic p.Graph c.Pattern.Graph c.Map).bind fun x43=>
  if (!x43)=true then
  some 1
  else
  thenR (forR (ρ:=Int) (fun (i0:Int) (_:Unit)=>
  (AG c.Kids i0).bind fun x59=>
  (FW n t c.Pattern x59).bind fun x61=>
  if (!decide (x61=0))=true then
  some (.ret x61)
  else
  some (.next ())) 0 (c.Kids.length:Int) ()) (fun _=>
  some 0) (fun v0=>some v0)
  else
  thenR (forR (ρ:=Int) (fun (i0:Int) (_:Unit)=>
  (AG c.Kids i0).bind fun x59=>
  (FW n t p x59).bind fun x61=>
  if (!decide (x61=0))=true then
  some (.ret x61)
  else
  some (.next ())) 0 (c.Kids.length:Int) ()) (fun _=>
  some 0) (fun v0=>some v0)
def SP [Ev] (t:Types) (p:Pattern) (c:AA):Option Int:=J7 fun n=>FW n t p c
def Jz [Ev] (t:Types) (p:Pattern) (c:AA):Option Int:=
 (FV t p).bind fun x11=>
 if (!decide (x11=0))=true then
 some x11
 else
 (K8 c).bind fun x16=>
 if (!decide (x16=0))=true then
 some x16
 else
 (SP t p c).bind fun x23=>
 some x23
def Kf :Option AA:=
 some (AA.mk 1 [] (Morphism.mk [] []) (Pattern.mk (Graph.mk [] []) [] 0 []))
def I6 (n:Int):Option (List Int):=
 (forA (fun (i0:Int) (s0:List Int)=>
 (A3 s0 [i0]).bind fun x13=>
 some x13) 0 n []).bind fun s0=>
 some s0
def Pv (g:Graph):Option Morphism:=
 (I6 (g.Nodes.length:Int)).bind fun x6=>
 (I6 (g.Edges.length:Int)).bind fun x10=>
 some (Morphism.mk x6 x10)
def L4 (g:Graph):Option Graph:=
 (A3 [] g.Nodes).bind fun x6=>
 (A3 [] g.Edges).bind fun x10=>
 some (Graph.mk x6 x10)
def J0 [Ev] (t:Types) (p:Pattern) (x_2:Int) (y:Int):Option (Pattern × Morphism):=
 (Pv p.Graph).bind fun x19=>
 (L4 p.Graph).bind fun x22=>
 (DJ x_2 3).bind fun x31=>
 (if (decide (0<x31))=true then
 (quo x_2 4).bind fun x37=>
 (DJ (AI (IntKind.u8.wrap x37)) (t.Nodes.length:Int)).bind fun x42=>
 (A3 x22.Nodes [x42]).bind fun x44=>
 some (Pattern.mk (Graph.mk x44 x22.Edges) [] p.Vars [],AI ((x22.Nodes.length:Int)+1))
 else
 some (Pattern.mk x22 [] p.Vars [],(x22.Nodes.length:Int))).bind fun w1=>
 (if (decide (0<w1.2))=true then ((DJ x_2 4).bind fun x53=>
 some (decide (0<x53))) else some false).bind fun x55=>
 (if x55=true then
 thenR (forR (ρ:=Unit) (fun (i0:Int) (s0:Pattern)=>
 (DJ (AI (i0+(AI x_2))) (t.Edges.length:Int)).bind fun x70=>
 (DJ (AI y) w1.2).bind fun x74=>
 (DJ y 2).bind fun x79=>
 if (decide (x79=1))=true then
 (A3 s0.Graph.Edges [B6.mk x70 (AI (w1.2 - 1)) x74]).bind fun x92=>
 some (.brk (Pattern.mk (Graph.mk s0.Graph.Nodes x92) s0.Slots s0.Vars s0.Tests))
 else
 (A3 s0.Graph.Edges [B6.mk x70 x74 (AI (w1.2 - 1))]).bind fun x92=>
 some (.brk (Pattern.mk (Graph.mk s0.Graph.Nodes x92) s0.Slots s0.Vars s0.Tests))) 0 (t.Edges.length:Int) w1.1) (fun s0=>
 some s0) (fun _=>none)
 else
 some w1.1).bind fun w2=>
 (if ((decide (0<w1.2))&&(decide (w2.Vars<6)))=true then
 (AG w2.Graph.Nodes (AI (w1.2 - 1))).bind fun x107=>
 (if (decide (x107<(t.Nodes.length:Int)))=true then ((FV t (Pattern.mk w2.Graph [CS.mk (AI (w1.2 - 1)) 0 (Term.mk 0 0)] 1 [])).bind fun x124=>
 some (decide (x124=0))) else some false).bind fun x126=>
 if x126=true then
 (DJ y 3).bind fun x134=>
 (A3 w2.Slots [CS.mk (AI (w1.2 - 1)) 0 (Term.mk w2.Vars (AI x134))]).bind fun x139=>
 if (decide (1<(AI (w2.Vars+1))))=true then
 (quo x_2 64).bind fun x151=>
 (DJ (AI (IntKind.u8.wrap x151)) 2).bind fun x153=>
 (quo y 8).bind fun x160=>
 (DJ (AI (IntKind.u8.wrap x160)) 9).bind fun x162=>
 (A3 w2.Tests [Test.mk (AI (1+x153)) (Term.mk 0 0) (Term.mk (AI ((AI (w2.Vars+1)) - 1)) (AI (x162 - 4)))]).bind fun x167=>
 some (Pattern.mk w2.Graph x139 (AI (w2.Vars+1)) x167)
 else
 some (Pattern.mk w2.Graph x139 (AI (w2.Vars+1)) w2.Tests)
 else
 some w2
 else
 some w2).bind fun w3=>
 some (w3,x19)
def C3 [Ev]:Nat->Types->Pattern->(List Int)->Int->Option (AA × List Int)
 | 0,_,_,_,_=>none
 | n+1,t,p,codes,depth=>
  if (decide ((codes.length:Int)<3))=true then
  (Kf).bind fun x22=>
  some (x22,[])
  else
  (AG codes 1).bind fun x24=>
  (AG codes 2).bind fun x27=>
  (slc codes 3 codes.length).bind fun x30=>
  (AG codes 0).bind fun x33=>
  (DJ x33 8).bind fun x35=>
  (if (decide (x35=1))=true then
  some (decide (x35=1))
  else
  some (decide (x35=2))).bind fun w1=>
  (if w1=true then
  some (AA.mk 2 [] (Morphism.mk [] []) (Pattern.mk (Graph.mk [] []) [] 0 []))
  else
  if (decide (x35=3))=true then
  some (AA.mk 3 [] (Morphism.mk [] []) (Pattern.mk (Graph.mk [] []) [] 0 []))
  else
  if (decide (x35=4))=true then
  some (AA.mk 4 [] (Morphism.mk [] []) (Pattern.mk (Graph.mk [] []) [] 0 []))
  else
  if (decide (x35=5))=true then
  if (decide (x35=5))=true then
  some (AA.mk 5 [] (Morphism.mk [] []) (Pattern.mk (Graph.mk [] []) [] 0 []))
  else
  some (AA.mk 1 [] (Morphism.mk [] []) (Pattern.mk (Graph.mk [] []) [] 0 []))
  else
  if (decide (x35=6))=true then
  if (decide (x35=6))=true then
  some (AA.mk 5 [] (Morphism.mk [] []) (Pattern.mk (Graph.mk [] []) [] 0 []))
  else
  some (AA.mk 1 [] (Morphism.mk [] []) (Pattern.mk (Graph.mk [] []) [] 0 []))
  else
  if (decide (x35=7))=true then
  some (AA.mk 5 [] (Morphism.mk [] []) (Pattern.mk (Graph.mk [] []) [] 0 []))
  else
  some (AA.mk 1 [] (Morphism.mk [] []) (Pattern.mk (Graph.mk [] []) [] 0 []))).bind fun w2=>
  (DJ (AI x24) 2).bind fun x53=>
  (DJ (AI x24) 2).bind fun x57=>
  (AG [0,0,1,AI (1+x53),AI (1+x57),1] w2.Kind).bind fun x62=>
  if (decide (w2.Kind=5))=true then
  if ((decide (depth=0))||(decide (4<(AI ((p.Graph.Nodes.length:Int)+(p.Graph.Edges.length:Int))))))=true then
  (Kf).bind fun x82=>
  some (x82,x30)
  else
  (J0 t p x24 x27).bind fun x89=>
  (forA (fun (i1:Int) (s1:List Int × AA)=>
  (C3 n t x89.1 s1.1 (AI (depth - 1))).bind fun x107=>
  (A3 s1.2.Kids [x107.1]).bind fun x114=>
  some (x107.2,AA.mk s1.2.Kind x114 s1.2.Map s1.2.Pattern)) 0 x62 (x30,AA.mk w2.Kind w2.Kids x89.2 x89.1)).bind fun s1=>
  some (s1.2,s1.1)
  else
  (forA (fun (i1:Int) (s1:List Int × AA)=>
  (C3 n t p s1.1 depth).bind fun x107=>
  (A3 s1.2.Kids [x107.1]).bind fun x114=>
  some (x107.2,AA.mk s1.2.Kind x114 s1.2.Map s1.2.Pattern)) 0 x62 (x30,w2)).bind fun s1=>
  some (s1.2,s1.1)
def Px [Ev] (t:Types) (p:Pattern) (codes:List Int) (depth:Int):Option (AA × List Int):=J7 fun n=>C3 n t p codes depth
def MB [Ev] (t:Types) (p:Pattern) (codes:List Int):Option AA:=
 (slc codes 0 (min (codes.length:Int) 15)).bind fun x16=>
 (Px t p x16 2).bind fun x17=>
 some x17.1
def JJ (g:Graph):Option Bool:=
 some ((decide ((g.Nodes.length:Int)<=45))&&(decide ((g.Edges.length:Int)<=90)))
def LV (p:Pattern):Option Bool:=
 (JJ p.Graph).bind fun x5=>
 some ((x5&&(decide ((p.Slots.length:Int)<=15)))&&(decide ((p.Tests.length:Int)<=15)))
def OK (m:Morphism) (n:Int):Option Bool:=
 some (decide ((AI ((m.Nodes.length:Int)+(m.Edges.length:Int)))<=n))
def E5 [Ev]:Nat->AA->Int->Option Int
 | 0,_,_=>none
 | n+1,c,most=>
  (LV c.Pattern).bind fun x10=>
  (if (!x10)=true then some true else ((OK c.Map 140).bind fun x15=>
  some (!x15))).bind fun x17=>
  if x17=true then
  some (-1)
  else
  thenR (FC (ρ:=Int) (fun (s0:Int × Int)=>
  if ((decide (s0.2<(c.Kids.length:Int)))&&(decide (0<=s0.1)))=true then
  (AG c.Kids s0.2).bind fun x32=>
  (E5 n x32 s0.1).bind fun x35=>
  some (.next (x35,AI (s0.2+1)))
  else
  some (.brk (s0.1,s0.2))) (AI (most - 1),0)) (fun s0=>
  some s0.1) (fun v0=>some v0)
def Pw [Ev] (c:AA) (most:Int):Option Int:=J7 fun n=>E5 n c most
def M5 [Ev] (c:AA):Option Bool:=
 (Pw c 40).bind fun x4=>
 some (decide (0<=x4))
def LT (h_0:AY):Option Bool:=
 (JJ h_0.Graph).bind fun x6=>
 if ((!x6)||(decide (45<(h_0.Values.length:Int))))=true then
 some false
 else
 thenR (forR (ρ:=Bool) (fun (i0:Int) (_:Unit)=>
 (AG h_0.Values i0).bind fun x24=>
 if (decide (12<(x24.length:Int)))=true then
 some (.ret false)
 else
 some (.next ())) 0 (h_0.Values.length:Int) ()) (fun _=>
 some true) (fun v0=>some v0)
def M3 [Ev] (t:Types):Option Bool:=
 if ((decide (20<(t.Nodes.length:Int)))||(decide (30<(t.Edges.length:Int))))=true then
 some false
 else
 thenR (forR (ρ:=Bool) (fun (i0:Int) (s0:Int)=>
 (AG t.Nodes i0).bind fun x30=>
 (if (decide (30<(AI (s0+(x30.Attrs.length:Int)))))=true then some true else ((AG t.Nodes i0).bind fun x41=>
 some (decide (40<(x41.Name.size:Int))))).bind fun x46=>
 if x46=true then
 some (.ret false)
 else
 thenR (FC (ρ:=Bool) (fun (s2:Int)=>
 (AG t.Nodes i0).bind fun x51=>
 if (decide (s2<(x51.Attrs.length:Int)))=true then
 (AG t.Nodes i0).bind fun x61=>
 (AG x61.Attrs s2).bind fun x65=>
 if ((decide (40<(x65.Name.size:Int)))||(decide (25<(x65.Names.length:Int))))=true then
 some (.ret false)
 else
 thenR (FC (ρ:=Bool) (fun (s4:Int)=>
 if (decide (s4<(x65.Names.length:Int)))=true then
 (AG x65.Names s4).bind fun x87=>
 if (decide (40<(x87.size:Int)))=true then
 some (.ret false)
 else
 some (.next (AI (s4+1)))
 else
 some (.brk s4)) 0) (fun s4=>
 some (.next (AI (s2+1)))) (fun v4=>some (.ret v4))
 else
 some (.brk s2)) 0) (fun s2=>
 some (.next (AI (s0+(x30.Attrs.length:Int))))) (fun v2=>some (.ret v2))) 0 (t.Nodes.length:Int) 0) (fun s0=>
 thenR (forR (ρ:=Bool) (fun (i6:Int) (_:Unit)=>
 (AG t.Edges i6).bind fun x101=>
 if (decide (40<(x101.Name.size:Int)))=true then
 some (.ret false)
 else
 some (.next ())) 0 (t.Edges.length:Int) ()) (fun _=>
 some true) (fun v6=>some v6)) (fun v0=>some v0)
def Iu [Ev] (t:Types) (p:Graph) (g:Graph):Option Int:=
 (Hw t).bind fun x13=>
 if (!decide (x13.2=0))=true then
 some x13.2
 else
 (FU p).bind fun x20=>
 if (!decide (x20=0))=true then
 some x20
 else
 (FU g).bind fun x25=>
 if (!decide (x25=0))=true then
 some x25
 else
 (It t p).bind fun x31=>
 (if (!x31)=true then some true else ((It t g).bind fun x36=>
 some (!x36))).bind fun x38=>
 if x38=true then
 some 13
 else
 some 0
def K5 [Ev] (t:Types) (p:Graph) (g:Graph):Option Bool:=
 (M3 t).bind fun x8=>
 (if x8=true then ((JJ p).bind fun x11=>
 some (x11)) else some false).bind fun x12=>
 (if x12=true then ((JJ g).bind fun x15=>
 some (x15)) else some false).bind fun x16=>
 (if x16=true then ((Iu t p g).bind fun x21=>
 some ((!decide (x21=0))||(((decide ((AI ((p.Nodes.length:Int)+(p.Edges.length:Int)))<=6))&&(decide ((g.Nodes.length:Int)<=8)))&&(decide ((g.Edges.length:Int)<=12))))) else some false).bind fun x45=>
 some x45
def Ms [Ev] (t:Types) (p:Pattern) (h_2:AY):Option Bool:=
 (LV p).bind fun x8=>
 (if x8=true then ((LT h_2).bind fun x11=>
 some (x11)) else some false).bind fun x12=>
 (if x12=true then ((K5 t p.Graph h_2.Graph).bind fun x19=>
 some (x19)) else some false).bind fun x20=>
 some x20
def GI [Ev]:Nat->AA->Option Bool
 | 0,_=>none
 | n+1,c=>
  thenR (forR (ρ:=Bool) (fun (i0:Int) (_:Unit)=>
  (AG c.Kids i0).bind fun x14=>
  (GI n x14).bind fun x16=>
  if (!x16)=true then
  some (.ret false)
  else
  some (.next ())) 0 (c.Kids.length:Int) ()) (fun _=>
  some (decide ((AI ((c.Pattern.Graph.Nodes.length:Int)+(c.Pattern.Graph.Edges.length:Int)))<=6))) (fun v0=>some v0)
def Ns [Ev] (c:AA):Option Bool:=J7 fun n=>GI n c
def EL [Ev]:Nat->Pattern->AA->Int->Int->Option Bool
 | 0,_,_,_,_=>none
 | n+1,p,c,nodes,edges=>
  (if (decide (c.Kind=5))=true then
  some c.Pattern
  else
  some p).bind fun w1=>
  thenR (FC (ρ:=Bool) (fun (s0:Int × Int)=>
  if (decide (s0.2<(w1.Graph.Nodes.length:Int)))=true then
  some (.next (AI (s0.1*nodes),AI (s0.2+1)))
  else
  some (.brk (s0.1,s0.2))) (1,(p.Graph.Nodes.length:Int))) (fun s0=>
  thenR (FC (ρ:=Bool) (fun (s2:Int × Int)=>
  if (decide (s2.2<(w1.Graph.Edges.length:Int)))=true then
  some (.next (AI (s2.1*edges),AI (s2.2+1)))
  else
  some (.brk (s2.1,s2.2))) (s0.1,(p.Graph.Edges.length:Int))) (fun s2=>
  thenR (forR (ρ:=Bool) (fun (i4:Int) (_:Unit)=>
  (AG c.Kids i4).bind fun x61=>
  (EL n w1 x61 nodes edges).bind fun x65=>
  if (!x65)=true then
  some (.ret false)
  else
  some (.next ())) 0 (c.Kids.length:Int) ()) (fun _=>
  some (decide (s2.1<=5000))) (fun v4=>some v4)) (fun v2=>some v2)) (fun v0=>some v0)
def NI [Ev] (p:Pattern) (c:AA) (nodes:Int) (edges:Int):Option Bool:=J7 fun n=>EL n p c nodes edges
def K7 [Ev] (t:Types) (p:Pattern) (c:AA) (h_3:AY):Option Bool:=
 (M5 c).bind fun x10=>
 (if (!x10)=true then some true else ((LV p).bind fun x14=>
 some (!x14))).bind fun x16=>
 (if x16=true then some true else ((LT h_3).bind fun x19=>
 some (!x19))).bind fun x21=>
 if x21=true then
 some false
 else
 (Jz t p c).bind fun x25=>
 (if (!decide (x25=0))=true then some true else ((Ms t p h_3).bind fun x31=>
 (if x31=true then ((Ns c).bind fun x34=>
 some (x34)) else some false).bind fun x35=>
 (if ((x35&&(decide ((h_3.Graph.Nodes.length:Int)<=6)))&&(decide ((h_3.Graph.Edges.length:Int)<=8)))=true then ((NI p c 14 18).bind fun x53=>
 some (x53)) else some false).bind fun x54=>
 some (x54))).bind fun x55=>
 some x55
def Lz [Ev] (nodes:List IJ) (edges:List IJ):Option Types:=
 thenR (FC (ρ:=Types) (fun (s0:Types × Int)=>
 if ((decide (s0.2=0))||((decide (s0.2<(nodes.length:Int)))&&(decide (s0.2<6))))=true then
 if (decide (s0.2<(nodes.length:Int)))=true then
 (AG nodes s0.2).bind fun x33=>
 (sslc (⟨#[65,66,67,68,69,70]⟩:ByteArray) s0.2 (AI (s0.2+1))).bind fun x38=>
 (DJ (AI x33.a0) (AI (s0.2+1))).bind fun x44=>
 (quo x33.a0 16).bind fun x48=>
 (DJ (IntKind.u8.wrap x48) 4).bind fun x49=>
 (sslc (⟨#[117,118,119,120,121,122]⟩:ByteArray) s0.2 (AI (s0.2+1))).bind fun x55=>
 (DJ x33.a1 4).bind fun x58=>
 if (decide (x58=1))=true then
 (quo x33.a1 4).bind fun x64=>
 (DJ (AI (IntKind.u8.wrap x64)) 9).bind fun x66=>
 (A3 s0.1.Nodes [BF.mk x38 (AI (x44 - 1)) (decide (x49=3)) [Attr.mk x55 (-3) (AI (3+x66)) []]]).bind fun x82=>
 some (.next (Types.mk x82 s0.1.Edges,AI (s0.2+1)))
 else
 if (decide (x58=2))=true then
 (A3 s0.1.Nodes [BF.mk x38 (AI (x44 - 1)) (decide (x49=3)) [Attr.mk x55 0 1 [(⟨#[111,102,102]⟩:ByteArray),(⟨#[111,110]⟩:ByteArray)]]]).bind fun x82=>
 some (.next (Types.mk x82 s0.1.Edges,AI (s0.2+1)))
 else
 (A3 s0.1.Nodes [BF.mk x38 (AI (x44 - 1)) (decide (x49=3)) []]).bind fun x82=>
 some (.next (Types.mk x82 s0.1.Edges,AI (s0.2+1)))
 else
 (sslc (⟨#[65,66,67,68,69,70]⟩:ByteArray) s0.2 (AI (s0.2+1))).bind fun x38=>
 (DJ (AI 0) (AI (s0.2+1))).bind fun x44=>
 (quo 0 16).bind fun x48=>
 (DJ (IntKind.u8.wrap x48) 4).bind fun x49=>
 (sslc (⟨#[117,118,119,120,121,122]⟩:ByteArray) s0.2 (AI (s0.2+1))).bind fun x55=>
 (DJ 0 4).bind fun x58=>
 if (decide (x58=1))=true then
 (quo 0 4).bind fun x64=>
 (DJ (AI (IntKind.u8.wrap x64)) 9).bind fun x66=>
 (A3 s0.1.Nodes [BF.mk x38 (AI (x44 - 1)) (decide (x49=3)) [Attr.mk x55 (-3) (AI (3+x66)) []]]).bind fun x82=>
 some (.next (Types.mk x82 s0.1.Edges,AI (s0.2+1)))
 else
 if (decide (x58=2))=true then
 (A3 s0.1.Nodes [BF.mk x38 (AI (x44 - 1)) (decide (x49=3)) [Attr.mk x55 0 1 [(⟨#[111,102,102]⟩:ByteArray),(⟨#[111,110]⟩:ByteArray)]]]).bind fun x82=>
 some (.next (Types.mk x82 s0.1.Edges,AI (s0.2+1)))
 else
 (A3 s0.1.Nodes [BF.mk x38 (AI (x44 - 1)) (decide (x49=3)) []]).bind fun x82=>
 some (.next (Types.mk x82 s0.1.Edges,AI (s0.2+1)))
 else
 some (.brk (s0.1,s0.2))) (Types.mk [] [],0)) (fun s0=>
 thenR (FC (ρ:=Types) (fun (s3:Types × Int)=>
 if ((decide (s3.2<(edges.length:Int)))&&(decide (s3.2<5)))=true then
 (sslc (⟨#[101,102,103,104,105]⟩:ByteArray) s3.2 (AI (s3.2+1))).bind fun x102=>
 (AG edges s3.2).bind fun x105=>
 (DJ (AI x105.a0) (s3.1.Nodes.length:Int)).bind fun x110=>
 (AG edges s3.2).bind fun x113=>
 (DJ (AI x113.a1) (s3.1.Nodes.length:Int)).bind fun x118=>
 (A3 s3.1.Edges [CJ.mk x102 x110 x118 0 (-1) 0 (-1)]).bind fun x121=>
 some (.next (Types.mk s3.1.Nodes x121,AI (s3.2+1)))
 else
 some (.brk (s3.1,s3.2))) (s0.1,0)) (fun s3=>
 some s3.1) (fun v3=>some v3)) (fun v0=>some v0)
def GH [Ev]:Nat->Types->Int->Int->Option Bool
 | 0,_,_,_=>none
 | n+1,t,a,b=>
  (if (decide (a=b))=true then some true else ((if (decide (0<=a))=true then ((AG t.Nodes a).bind fun x18=>
  (GH n t x18.Parent b).bind fun x22=>
  some (x22)) else some false).bind fun x23=>
  some (x23))).bind fun x24=>
  some x24
def HD [Ev] (t:Types) (a:Int) (b:Int):Option Bool:=J7 fun n=>GH n t a b
def Jw [Ev] (t:Types) (g:Graph) (kind:Int):Option (List Int):=
 (forA (fun (i0:Int) (s0:List Int)=>
 (AG g.Nodes i0).bind fun x20=>
 (HD t x20 kind).bind fun x23=>
 if x23=true then
 (A3 s0 [i0]).bind fun x27=>
 some x27
 else
 some s0) 0 (g.Nodes.length:Int) []).bind fun s0=>
 some s0
def L7 [Ev] (t:Types) (d:Ju) (abstract:Bool):Option Graph:=
 (forA (fun (i0:Int) (s0:List Int)=>
 (if abstract=true then some true else ((AG t.Nodes i0).bind fun x27=>
 some (!x27.Abstract))).bind fun x31=>
 if x31=true then
 (A3 s0 [i0]).bind fun x35=>
 some x35
 else
 some s0) 0 (t.Nodes.length:Int) []).bind fun s0=>
 thenR (FC (ρ:=Graph) (fun (s2:Graph × Int)=>
 if (((decide (s2.2<(d.Nodes.length:Int)))&&(decide (s2.2<8)))&&(decide (0<(s0.length:Int))))=true then
 (AG d.Nodes s2.2).bind fun x58=>
 (DJ (AI x58) (s0.length:Int)).bind fun x63=>
 (AG s0 x63).bind fun x64=>
 (A3 s2.1.Nodes [x64]).bind fun x67=>
 some (.next (Graph.mk x67 s2.1.Edges,AI (s2.2+1)))
 else
 some (.brk (s2.1,s2.2))) (Graph.mk [] [],0)) (fun s2=>
 thenR (FC (ρ:=Graph) (fun (s4:Graph × Int)=>
 if (((decide (s4.2<(d.Edges.length:Int)))&&(decide (s4.2<10)))&&(decide (0<(t.Edges.length:Int))))=true then
 (AG d.Edges s4.2).bind fun x89=>
 (DJ (AI x89.a0) (t.Edges.length:Int)).bind fun x96=>
 (AG t.Edges x96).bind fun x102=>
 (Jw t s4.1 x102.From).bind fun x105=>
 (AG t.Edges x96).bind fun x111=>
 (Jw t s4.1 x111.To).bind fun x114=>
 if ((decide (0<(x105.length:Int)))&&(decide (0<(x114.length:Int))))=true then
 (AG d.Edges s4.2).bind fun x130=>
 (DJ (AI x130.a1) (x105.length:Int)).bind fun x136=>
 (AG x105 x136).bind fun x137=>
 (AG d.Edges s4.2).bind fun x143=>
 (DJ (AI x143.a2) (x114.length:Int)).bind fun x149=>
 (AG x114 x149).bind fun x150=>
 (A3 s4.1.Edges [B6.mk x96 x137 x150]).bind fun x154=>
 some (.next (Graph.mk s4.1.Nodes x154,AI (s4.2+1)))
 else
 some (.next (s4.1,AI (s4.2+1)))
 else
 some (.brk (s4.1,s4.2))) (s2.1,0)) (fun s4=>
 some s4.1) (fun v4=>some v4)) (fun v2=>some v2)
def F7 (x_0:Int) (n:Int):Option Int:=
 (DJ x_0 n).bind fun x7=>
 (DJ (AI (x7+n)) n).bind fun x11=>
 some x11
def Ly (n:Int) (code:NY):Option Test:=
 (F7 (AI code.a0) 4).bind fun x11=>
 (quo x11 3).bind fun x12=>
 (F7 (AI code.a1) (AI (n+1))).bind fun x19=>
 (F7 (AI code.a2) (AI (n+1))).bind fun x26=>
 (DJ (AI code.a3) 12).bind fun x35=>
 some (Test.mk (AI (1+(AI x12))) (Term.mk (AI (x19 - 1)) 0) (Term.mk (AI (x26 - 1)) x35))
def L9 [Ev] (t:Types) (d:Jx):Option Pattern:=
 (L7 t d.Graph true).bind fun x19=>
 thenR (FC (ρ:=Pattern) (fun (s0:List Ip × Int)=>
 if (decide (s0.2<(x19.Nodes.length:Int)))=true then
 (AG x19.Nodes s0.2).bind fun x35=>
 (Hv t x35).bind fun x37=>
 (forA (fun (i2:Int) (s2:List Ip)=>
 (A3 s2 [Ip.mk s0.2 i2]).bind fun x51=>
 some x51) 0 (x37.1.length:Int) s0.1).bind fun s2=>
 some (.next (s2,AI (s0.2+1)))
 else
 some (.brk (s0.1,s0.2))) ([],0)) (fun s0=>
 thenR (FC (ρ:=Pattern) (fun (s4:Pattern × Int)=>
 if (((decide (s4.2<(d.Slots.length:Int)))&&(decide (s4.2<4)))&&(decide (0<(s0.1.length:Int))))=true then
 (AG d.Slots s4.2).bind fun x71=>
 (DJ (AI x71.a0) (s0.1.length:Int)).bind fun x79=>
 (AG s0.1 x79).bind fun x80=>
 (DJ (AI x71.a1) 5).bind fun x89=>
 (DJ (AI x71.a2) 5).bind fun x94=>
 if (decide (s4.1.Vars<=(AI (x89 - 1))))=true then
 if (decide (3<(AI (s4.1.Vars+1))))=true then
 (A3 s4.1.Slots [CS.mk x80.a0 x80.a1 (Term.mk 0 0)]).bind fun x122=>
 some (.next (Pattern.mk s4.1.Graph x122 3 s4.1.Tests,AI (s4.2+1)))
 else
 (A3 s4.1.Slots [CS.mk x80.a0 x80.a1 (Term.mk s4.1.Vars 0)]).bind fun x122=>
 some (.next (Pattern.mk s4.1.Graph x122 (AI (s4.1.Vars+1)) s4.1.Tests,AI (s4.2+1)))
 else
 if (decide (3<s4.1.Vars))=true then
 (A3 s4.1.Slots [CS.mk x80.a0 x80.a1 (Term.mk 0 (AI (x94 - 2)))]).bind fun x122=>
 some (.next (Pattern.mk s4.1.Graph x122 3 s4.1.Tests,AI (s4.2+1)))
 else
 (A3 s4.1.Slots [CS.mk x80.a0 x80.a1 (Term.mk (AI (x89 - 1)) (AI (x94 - 2)))]).bind fun x122=>
 some (.next (Pattern.mk s4.1.Graph x122 s4.1.Vars s4.1.Tests,AI (s4.2+1)))
 else
 some (.brk (s4.1,s4.2))) (Pattern.mk x19 [] 0 [],0)) (fun s4=>
 thenR (FC (ρ:=Pattern) (fun (s6:Pattern × Int)=>
 if ((decide (s6.2<(d.Tests.length:Int)))&&(decide (s6.2<3)))=true then
 (AG d.Tests s6.2).bind fun x142=>
 (Ly s6.1.Vars x142).bind fun x144=>
 (A3 s6.1.Tests [x144]).bind fun x146=>
 some (.next (Pattern.mk s6.1.Graph s6.1.Slots s6.1.Vars x146,AI (s6.2+1)))
 else
 some (.brk (s6.1,s6.2))) (s4.1,0)) (fun s6=>
 some s6.1) (fun v6=>some v6)) (fun v4=>some v4)) (fun v0=>some v0)
def I8 (t:Types):Option (List Int):=
 (forA (fun (i0:Int) (s0:List Int)=>
 (AG t.Nodes i0).bind fun x15=>
 if (!x15.Abstract)=true then
 (A3 s0 [i0]).bind fun x22=>
 some x22
 else
 some s0) 0 (t.Nodes.length:Int) []).bind fun s0=>
 some s0
def Kd [Ev] (t:Types) (edge:Int) (from':Int) (to':Int):Option Bool:=
 (Jt t from' to').bind fun x12=>
 (if (!decide (x12=0))=true then some true else ((D3 edge 0 (AI ((t.Edges.length:Int) - 1))).bind fun x20=>
 some (!x20))).bind fun x22=>
 if x22=true then
 some false
 else
 (AG t.Edges edge).bind fun x28=>
 (HD t from' x28.From).bind fun x31=>
 (if x31=true then ((AG t.Edges edge).bind fun x38=>
 (HD t to' x38.To).bind fun x41=>
 some (x41)) else some false).bind fun x42=>
 some x42
def L5 [Ev] (t:Types) (d:Is):Option AY:=
 (I8 t).bind fun x17=>
 thenR (FC (ρ:=AY) (fun (s0:AY × Int)=>
 if (((decide (s0.2<(d.Nodes.length:Int)))&&(decide (s0.2<8)))&&(decide (0<(x17.length:Int))))=true then
 (AG d.Nodes s0.2).bind fun x38=>
 (DJ (AI x38.a0) (x17.length:Int)).bind fun x44=>
 (AG x17 x44).bind fun x45=>
 (Hv t x45).bind fun x50=>
 (forA (fun (i2:Int) (s2:List Int)=>
 (AG x50.1 i2).bind fun x63=>
 (AG d.Nodes s0.2).bind fun x69=>
 (AG x50.1 i2).bind fun x78=>
 (AG x50.1 i2).bind fun x83=>
 (DJ (AI ((AI x69.a1)+(AI (7*i2)))) (AI ((AI (x78.High - x83.Low))+1))).bind fun x88=>
 (A3 s2 [AI (x63.Low+x88)]).bind fun x91=>
 some x91) 0 (x50.1.length:Int) []).bind fun s2=>
 (A3 s0.1.Graph.Nodes [x45]).bind fun x97=>
 (A3 s0.1.Values [s2]).bind fun x102=>
 some (.next (AY.mk (Graph.mk x97 s0.1.Graph.Edges) x102,AI (s0.2+1)))
 else
 some (.brk (s0.1,s0.2))) (AY.mk (Graph.mk [] []) [],0)) (fun s0=>
 thenR (FC (ρ:=AY) (fun (s4:AY × Int)=>
 if ((((decide (s4.2<(d.Edges.length:Int)))&&(decide (s4.2<10)))&&(decide (0<(s0.1.Graph.Nodes.length:Int))))&&(decide (0<(t.Edges.length:Int))))=true then
 (AG d.Edges s4.2).bind fun x134=>
 (DJ (AI x134.a0) (t.Edges.length:Int)).bind fun x141=>
 (AG d.Edges s4.2).bind fun x145=>
 (DJ (AI x145.a1) (s0.1.Graph.Nodes.length:Int)).bind fun x150=>
 (AG d.Edges s4.2).bind fun x154=>
 (DJ (AI x154.a2) (s0.1.Graph.Nodes.length:Int)).bind fun x159=>
 (AG s4.1.Graph.Nodes x150).bind fun x169=>
 (AG s4.1.Graph.Nodes x159).bind fun x176=>
 (Kd t x141 x169 x176).bind fun x178=>
 if x178=true then
 (A3 s4.1.Graph.Edges [B6.mk x141 x150 x159]).bind fun x184=>
 some (.next (AY.mk (Graph.mk s4.1.Graph.Nodes x184) s4.1.Values,AI (s4.2+1)))
 else
 some (.next (s4.1,AI (s4.2+1)))
 else
 some (.brk (s4.1,s4.2))) (s0.1,0)) (fun s4=>
 some s4.1) (fun v4=>some v4)) (fun v0=>some v0)
def L6 [Ev] (t:Types) (kind:Int) (BB:List Int):Option Int:=
 if (decide ((t.Nodes.length:Int)<=kind))=true then
 some 6
 else
 (AG t.Nodes kind).bind fun x18=>
 if x18.Abstract=true then
 some 13
 else
 (Hv t kind).bind fun x24=>
 if (!decide ((BB.length:Int)=(x24.1.length:Int)))=true then
 some 20
 else
 thenR (forR (ρ:=Int) (fun (i0:Int) (_:Unit)=>
 (AG BB i0).bind fun x40=>
 (AG x24.1 i0).bind fun x44=>
 (if (decide (x40<x44.Low))=true then some true else ((AG BB i0).bind fun x51=>
 (AG x24.1 i0).bind fun x55=>
 some (decide (x55.High<x51)))).bind fun x59=>
 if x59=true then
 some (.ret 6)
 else
 some (.next ())) 0 (x24.1.length:Int) ()) (fun _=>
 some 0) (fun v0=>some v0)
def K4 [Ev] (t:Types) (h_1:AY):Option (Int × Int):=
 (Hw t).bind fun x15=>
 if (!decide (x15.2=0))=true then
 some ((-1),x15.2)
 else
 (FU h_1.Graph).bind fun x23=>
 if (!decide (x23=0))=true then
 some ((-1),x23)
 else
 if (!decide ((h_1.Values.length:Int)=(h_1.Graph.Nodes.length:Int)))=true then
 some ((-1),20)
 else
 thenR (forR (ρ:=(Int × Int)) (fun (i0:Int) (_:Unit)=>
 (AG h_1.Graph.Nodes i0).bind fun x48=>
 (AG h_1.Values i0).bind fun x53=>
 (L6 t x48 x53).bind fun x55=>
 if (!decide (x55=0))=true then
 some (.ret (i0,x55))
 else
 some (.next ())) 0 (h_1.Graph.Nodes.length:Int) ()) (fun _=>
 thenR (forR (ρ:=(Int × Int)) (fun (i2:Int) (_:Unit)=>
 (AG h_1.Graph.Edges i2).bind fun x72=>
 if (decide ((t.Edges.length:Int)<=x72.Type'))=true then
 some (.ret (i2,6))
 else
 (AG h_1.Graph.Nodes x72.From).bind fun x89=>
 (AG h_1.Graph.Nodes x72.To).bind fun x96=>
 (Kd t x72.Type' x89 x96).bind fun x98=>
 if (!x98)=true then
 some (.ret (i2,13))
 else
 some (.next ())) 0 (h_1.Graph.Edges.length:Int) ()) (fun _=>
 some ((-1),0)) (fun v2=>some v2)) (fun v0=>some v0)
def K6 [Ev] (t:Types) (p:Pattern) (h_2:AY):Option Int:=
 (FV t p).bind fun x12=>
 if (!decide (x12=0))=true then
 some x12
 else
 (K4 t h_2).bind fun x19=>
 some x19.2
def FY (s_0:AO) (nodes:List Int):Option Bool:=
 thenR (forR (ρ:=Bool) (fun (i0:Int) (_:Unit)=>
 (AG s_0.p.Edges i0).bind fun x26=>
 if ((decide ((nodes.length:Int)<=x26.From))||(decide ((nodes.length:Int)<=x26.To)))=true then
 some (.next ())
 else
 (forA (fun (i2:Int) (s2:Bool)=>
 (AG s_0.g.Edges i2).bind fun x56=>
 (if s2=true then some true else ((if (decide (x26.Type'=x56.Type'))=true then ((AG nodes x26.From).bind fun x71=>
 some (decide (x56.From=x71))) else some false).bind fun x74=>
 (if x74=true then ((AG nodes x26.To).bind fun x81=>
 some (decide (x56.To=x81))) else some false).bind fun x84=>
 some (x84))).bind fun x85=>
 some x85) 0 (s_0.g.Edges.length:Int) false).bind fun s2=>
 if (!s2)=true then
 some (.ret false)
 else
 some (.next ())) 0 (s_0.p.Edges.length:Int) ()) (fun _=>
 some true) (fun v0=>some v0)
def DG [Ev] (s_0:AO) (l:List Int) (n:Int):Option Bool:=
 thenR (FC (ρ:=Bool) (fun (s0:Int)=>
 if ((decide (s0<(l.length:Int)))&&s_0.injective)=true then
 (AG l s0).bind fun x22=>
 if (decide (x22=n))=true then
 some (.ret true)
 else
 some (.next (AI (s0+1)))
 else
 some (.brk s0)) 0) (fun s0=>
 some false) (fun v0=>some v0)
def CN [Ev]:Nat->AO->(List Int)->(List Int)->Option AO
 | 0,_,_,_=>none
 | n+1,s_0,nodes,l=>
  if (decide (s_0.most<(s_0.found.length:Int)))=true then
  some s_0
  else
  if (decide ((l.length:Int)=(s_0.p.Edges.length:Int)))=true then
  (A3 [] nodes).bind fun x37=>
  (A3 [] l).bind fun x40=>
  (A3 s_0.found [Morphism.mk x37 x40]).bind fun x43=>
  some (AO.mk s_0.t s_0.p s_0.g s_0.partial_ s_0.injective s_0.most x43)
  else
  (AG s_0.p.Edges (l.length:Int)).bind fun x52=>
  thenR (FC (ρ:=AO) (fun (s0:AO × Int)=>
  if (decide (s0.2<(s0.1.g.Edges.length:Int)))=true then
  (AG s0.1.g.Edges s0.2).bind fun x70=>
  (AG s0.1.partial_.Edges (l.length:Int)).bind fun x78=>
  (if (decide (0<=x78))=true then ((AG s0.1.partial_.Edges (l.length:Int)).bind fun x88=>
  some (!decide (x88=s0.2))) else some false).bind fun x92=>
  (if x92=true then some true else ((DG s0.1 l s0.2).bind fun x97=>
  some (x97))).bind fun x98=>
  (if (x98||(!decide (x52.Type'=x70.Type')))=true then some true else ((AG nodes x52.From).bind fun x112=>
  some (!decide (x70.From=x112)))).bind fun x115=>
  (if x115=true then some true else ((AG nodes x52.To).bind fun x122=>
  some (!decide (x70.To=x122)))).bind fun x125=>
  if x125=true then
  some (.next (s0.1,AI (s0.2+1)))
  else
  (A3 [] l).bind fun x130=>
  (A3 x130 [s0.2]).bind fun x133=>
  (CN n s0.1 nodes x133).bind fun x134=>
  some (.next (x134,AI (s0.2+1)))
  else
  some (.brk (s0.1,s0.2))) (s_0,0)) (fun s0=>
  some s0.1) (fun v0=>some v0)
def LN [Ev] (s_0:AO) (nodes:List Int) (l:List Int):Option AO:=J7 fun n=>CN n s_0 nodes l
def CO [Ev]:Nat->AO->(List Int)->Option AO
 | 0,_,_=>none
 | n+1,s_0,l=>
  (if (decide (s_0.most<(s_0.found.length:Int)))=true then some true else ((FY s_0 l).bind fun x19=>
  some (!x19))).bind fun x21=>
  if x21=true then
  some s_0
  else
  if (decide ((l.length:Int)=(s_0.p.Nodes.length:Int)))=true then
  (LN s_0 l []).bind fun x34=>
  some x34
  else
  thenR (FC (ρ:=AO) (fun (s0:AO × Int)=>
  if (decide (s0.2<(s0.1.g.Nodes.length:Int)))=true then
  (AG s0.1.partial_.Nodes (l.length:Int)).bind fun x51=>
  (if (decide (0<=x51))=true then ((AG s0.1.partial_.Nodes (l.length:Int)).bind fun x61=>
  some (!decide (x61=s0.2))) else some false).bind fun x65=>
  (if x65=true then some true else ((DG s0.1 l s0.2).bind fun x70=>
  some (x70))).bind fun x71=>
  (if x71=true then some true else ((AG s0.1.g.Nodes s0.2).bind fun x83=>
  (AG s0.1.p.Nodes (l.length:Int)).bind fun x91=>
  (HD s0.1.t x83 x91).bind fun x93=>
  some (!x93))).bind fun x95=>
  if x95=true then
  some (.next (s0.1,AI (s0.2+1)))
  else
  (A3 [] l).bind fun x99=>
  (A3 x99 [s0.2]).bind fun x102=>
  (CO n s0.1 x102).bind fun x103=>
  some (.next (x103,AI (s0.2+1)))
  else
  some (.brk (s0.1,s0.2))) (s_0,0)) (fun s0=>
  some s0.1) (fun v0=>some v0)
def I1 [Ev] (s_0:AO) (l:List Int):Option AO:=J7 fun n=>CO n s_0 l
def LU [Ev] (t:Types) (p:Graph) (g:Graph) (partial_:Morphism) (injective:Bool) (most:Int):Option (List Morphism):=
 (I1 (AO.mk t p g partial_ injective most []) []).bind fun x23=>
 some x23.found
def L8 [Ev] (p:Graph):Option Morphism:=
 (J8 (p.Nodes.length:Int) 0).bind fun x9=>
 (J8 (p.Edges.length:Int) 0).bind fun x13=>
 thenR (FC (ρ:=Morphism) (fun (s0:Morphism × Int)=>
 if (decide (s0.2<(s0.1.Nodes.length:Int)))=true then
 (AG s0.1.Nodes s0.2).bind fun x25=>
 some (.next (Morphism.mk (B8 s0.1.Nodes s0.2 (-1)) s0.1.Edges,AI (s0.2+1)))
 else
 some (.brk (s0.1,s0.2))) (Morphism.mk x9 x13,0)) (fun s0=>
 thenR (FC (ρ:=Morphism) (fun (s2:Morphism × Int)=>
 if (decide (s2.2<(s2.1.Edges.length:Int)))=true then
 (AG s2.1.Edges s2.2).bind fun x36=>
 some (.next (Morphism.mk s2.1.Nodes (B8 s2.1.Edges s2.2 (-1)),AI (s2.2+1)))
 else
 some (.brk (s2.1,s2.2))) (s0.1,0)) (fun s2=>
 some s2.1) (fun v2=>some v2)) (fun v0=>some v0)
def M4 [Ev] (t:Types) (p:Graph) (g:Graph) (injective:Bool):Option (List Morphism × Int):=
 (Iu t p g).bind fun x15=>
 if (!decide (x15=0))=true then
 some ([],x15)
 else
 (L8 p).bind fun x23=>
 (LU t p g x23 injective 5000).bind fun x25=>
 if (decide (5000<(x25.length:Int)))=true then
 some ([],3)
 else
 some (x25,0)
def Jy (x_0:Term) (BB:List Int):Option Int:=
 if (decide (x_0.Var<0))=true then
 some x_0.Add
 else
 (AG BB x_0.Var).bind fun x13=>
 some (AI (x13+x_0.Add))
def Jr (t:Term) (BB:List Int):Option (Int × Bool):=
 if (decide (t.Var=(-1)))=true then
 some (t.Add,true)
 else
 if ((decide (t.Var<0))||(decide ((BB.length:Int)<=t.Var)))=true then
 some (0,false)
 else
 (AG BB t.Var).bind fun x24=>
 some (AI (x24+t.Add),true)
def K0 (x_0:Test) (BB:List Int):Option Bool:=
 (Jr x_0.Left BB).bind fun x13=>
 (Jr x_0.Right BB).bind fun x20=>
 if ((!x13.2)||(!x20.2))=true then
 some false
 else
 some (((decide (x_0.Kind=1))&&(decide (x13.1<=x20.1)))||((decide (x_0.Kind=2))&&(decide (x13.1=x20.1))))
def JA (p:Pattern) (h_1:AY) (m:Morphism):Option (List Int × Int):=
 (J8 p.Vars 0).bind fun x17=>
 (J8 p.Vars false).bind fun x20=>
 thenR (forR (ρ:=(List Int × Int)) (fun (i0:Int) (s0:List Int × List Bool)=>
 (AG p.Slots i0).bind fun x31=>
 (AG m.Nodes x31.Node).bind fun x39=>
 (AG h_1.Values x39).bind fun x41=>
 (AG x41 x31.Attr).bind fun x45=>
 (if (decide (0<=x31.Term.Var))=true then ((AG s0.2 x31.Term.Var).bind fun x55=>
 some (!x55)) else some false).bind fun x58=>
 if x58=true then
 (AG s0.2 x31.Term.Var).bind fun x61=>
 (AG s0.1 x31.Term.Var).bind fun x69=>
 (Jy x31.Term (B8 s0.1 x31.Term.Var (AI (x45 - x31.Term.Add)))).bind fun x73=>
 if (!decide (x73=x45))=true then
 some (.ret ([],11))
 else
 some (.next (B8 s0.1 x31.Term.Var (AI (x45 - x31.Term.Add)),B8 s0.2 x31.Term.Var true))
 else
 (Jy x31.Term s0.1).bind fun x73=>
 if (!decide (x73=x45))=true then
 some (.ret ([],11))
 else
 some (.next (s0.1,s0.2))) 0 (p.Slots.length:Int) (x17,x20)) (fun s0=>
 thenR (forR (ρ:=(List Int × Int)) (fun (i2:Int) (_:Unit)=>
 (AG p.Tests i2).bind fun x86=>
 (K0 x86 s0.1).bind fun x89=>
 if (!x89)=true then
 some (.ret ([],16))
 else
 some (.next ())) 0 (p.Tests.length:Int) ()) (fun _=>
 some (s0.1,0)) (fun v2=>some v2)) (fun v0=>some v0)
def Jm [Ev] (t:Types) (p:Pattern) (h_2:AY) (injective:Bool):Option (List AL × Int):=
 (K6 t p h_2).bind fun x20=>
 if (!decide (x20=0))=true then
 some ([],x20)
 else
 (M4 t p.Graph h_2.Graph injective).bind fun x31=>
 if (!decide (x31.2=0))=true then
 some ([],x31.2)
 else
 (forA (fun (i0:Int) (s0:List AL)=>
 (AG x31.1 i0).bind fun x48=>
 (JA p h_2 x48).bind fun x50=>
 if (decide (x50.2=0))=true then
 (AG x31.1 i0).bind fun x58=>
 (A3 s0 [AL.mk x58 x50.1]).bind fun x63=>
 some x63
 else
 some s0) 0 (x31.1.length:Int) []).bind fun s0=>
 some (s0,0)
def Lt [Ev] (d:G0) (injective:Bool):Option (Types × Kb × AY × List AL × Bool):=
 (Lz d.Types d.Ends).bind fun x19=>
 (L9 x19 d.P).bind fun x23=>
 (if (decide (3<(AI ((x23.Graph.Nodes.length:Int)+(x23.Graph.Edges.length:Int)))))=true then some true else ((FV x19 x23).bind fun x41=>
 some (!decide (x41=0)))).bind fun x43=>
 if x43=true then
 some (x19,Kb.mk x23 (AA.mk 0 [] (Morphism.mk [] []) (Pattern.mk (Graph.mk [] []) [] 0 [])),AY.mk (Graph.mk [] []) [],[],false)
 else
 (MB x19 x23 d.C).bind fun x52=>
 (slc d.H.Nodes 0 (min (d.H.Nodes.length:Int) 5)).bind fun x62=>
 (slc d.H.Edges 0 (min (d.H.Edges.length:Int) 6)).bind fun x71=>
 (L5 x19 (Is.mk x62 x71)).bind fun x79=>
 (Jm x19 x23 x79 injective).bind fun x86=>
 (if ((decide (x86.2=0))&&(decide ((x86.1.length:Int)<=30)))=true then ((Jz x19 x23 x52).bind fun x102=>
 some (decide (x102=0))) else some false).bind fun x104=>
 (if x104=true then ((K7 x19 x23 x52 x79).bind fun x112=>
 some (x112)) else some false).bind fun x113=>
 some (x19,Kb.mk x23 x52,x79,x86.1,x113)
def I9 (l:List Int) (count:Int) (n:Int):Option Int:=
 if (!decide ((l.length:Int)=count))=true then
 some 20
 else
 thenR (forR (ρ:=Int) (fun (i0:Int) (_:Unit)=>
 (AG l i0).bind fun x20=>
 (if (decide (x20<(-1)))=true then some true else ((AG l i0).bind fun x26=>
 some (decide (n<=x26)))).bind fun x30=>
 if x30=true then
 some (.ret 6)
 else
 some (.next ())) 0 (l.length:Int) ()) (fun _=>
 some 0) (fun v0=>some v0)
def KQ [Ev] (t:Types) (p:Graph) (g:Graph) (partial_:Morphism) (injective:Bool):Option (List Morphism × Int):=
 (Iu t p g).bind fun x19=>
 if (!decide (x19=0))=true then
 some ([],x19)
 else
 if ((!decide ((partial_.Nodes.length:Int)=(p.Nodes.length:Int)))||(!decide ((partial_.Edges.length:Int)=(p.Edges.length:Int))))=true then
 some ([],20)
 else
 (I9 partial_.Nodes (p.Nodes.length:Int) (g.Nodes.length:Int)).bind fun x47=>
 if (!decide (x47=0))=true then
 some ([],x47)
 else
 (I9 partial_.Edges (p.Edges.length:Int) (g.Edges.length:Int)).bind fun x59=>
 if (!decide (x59=0))=true then
 some ([],x59)
 else
 (LU t p g partial_ injective 5000).bind fun x68=>
 if (decide (5000<(x68.length:Int)))=true then
 some ([],3)
 else
 some (x68,0)
def GZ [Ev] (d:G0) (injective:Bool):Option Bool:=
 (FT).bind fun x24=>
 if (!x24)=true then
 some false
 else
 (Lt d injective).bind fun x29=>
 if ((!x29.2.2.2.2)||(!decide (x29.2.1.C.Kind=5)))=true then
 some true
 else
 thenR (forR (ρ:=Bool) (fun (i0:Int) (_:Unit)=>
 (AG x29.2.2.2.1 i0).bind fun x60=>
 (CW x29.1 x29.2.1.P (AA.mk x29.2.1.C.Kind [AA.mk 1 [] (Morphism.mk [] []) (Pattern.mk (Graph.mk [] []) [] 0 [])] x29.2.1.C.Map (Pattern.mk x29.2.1.C.Pattern.Graph [] x29.2.1.P.Vars [])) x29.2.2.1 x60 injective).bind fun x70=>
 (forA (fun (i2:Int) (s2:Morphism)=>
 (A3 s2.Nodes [(-1)]).bind fun x84=>
 some (Morphism.mk x84 s2.Edges)) 0 (x29.2.1.C.Pattern.Graph.Nodes.length:Int) (Morphism.mk [] [])).bind fun s2=>
 (forA (fun (i4:Int) (s4:Morphism)=>
 (A3 s4.Edges [(-1)]).bind fun x97=>
 some (Morphism.mk s4.Nodes x97)) 0 (x29.2.1.C.Pattern.Graph.Edges.length:Int) s2).bind fun s4=>
 (forA (fun (i6:Int) (s6:Morphism)=>
 (AG x29.2.1.C.Map.Nodes i6).bind fun x107=>
 (AG x60.Morphism.Nodes i6).bind fun x116=>
 (AG s6.Nodes x107).bind fun x118=>
 some (Morphism.mk (B8 s6.Nodes x107 x116) s6.Edges)) 0 (x29.2.1.C.Map.Nodes.length:Int) s4).bind fun s6=>
 (forA (fun (i8:Int) (s8:Morphism)=>
 (AG x29.2.1.C.Map.Edges i8).bind fun x127=>
 (AG x60.Morphism.Edges i8).bind fun x136=>
 (AG s8.Edges x127).bind fun x138=>
 some (Morphism.mk s8.Nodes (B8 s8.Edges x127 x136))) 0 (x29.2.1.C.Map.Edges.length:Int) s6).bind fun s8=>
 (FA x29.1 x29.2.1.C.Pattern.Graph x29.2.2.1.Graph s8 injective).bind fun x149=>
 (KQ x29.1 x29.2.1.C.Pattern.Graph x29.2.2.1.Graph s8 injective).bind fun x161=>
 if (((((!decide (x70.2=0))||(!decide (x149.2=0)))||(!decide (x161.2=0)))||(!decide ((x149.1.length:Int)=(x161.1.length:Int))))||(!(x70.1==(decide (0<(x149.1.length:Int))))))=true then
 some (.ret false)
 else
 some (.next ())) 0 (x29.2.2.2.1.length:Int) ()) (fun _=>
 some true) (fun v0=>some v0)
end
end Go.Sf.Sc
