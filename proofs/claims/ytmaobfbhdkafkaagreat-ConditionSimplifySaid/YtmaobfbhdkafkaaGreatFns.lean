/- The functions of the program as Lean functions. -/
import Derived.Test.YtmaobfbhdkafkaaGreatTypes
import Derived.Test.YtmaobfbhdkafkaaGreatSfLib
set_option maxRecDepth 100000
namespace Go.Sf.Sc
open Go Go.Sf
noncomputable def token_letter (c:Int):Option Bool:=
 some (((decide (97<=c))&&(decide (c<=122)))||((decide (65<=c))&&(decide (c<=90))))
noncomputable def token_run (s_0:ByteArray) (ok:Int->Option Bool):Option Int:=
 thenR (whR (ρ:=Int) (fun (s0:Int)=>
 (if (decide (s0<(s_0.size:Int)))=true then ((sidx s_0 s0).bind fun x14=>
 (ok x14).bind fun x15=>
 some (x15)) else some false).bind fun x16=>
 if x16=true then
 some (.next (w64 (s0+1)))
 else
 some (.brk s0)) 0) (fun s0=>
 some s0) (fun v0=>some v0)
noncomputable def token_digit (c:Int):Option Bool:=
 some ((decide (48<=c))&&(decide (c<=57)))
noncomputable def token_part (c:Int):Option Bool:=
 (token_letter c).bind fun x4=>
 (if x4=true then some true else ((token_digit c).bind fun x7=>
 some (x7))).bind fun x8=>
 some (x8||(decide (c=95)))
noncomputable def token_quoted_1 (c:Int):Option Bool:=
 some (((decide (32<=c))&&(decide (c<=126)))&&(!decide (c=34)))
noncomputable def token_quoted (s_0:ByteArray):Option (Int × Int):=
 (sslc s_0 1 s_0.size).bind fun x6=>
 (token_run x6 token_quoted_1).bind fun x7=>
 (if (decide ((w64 (1+x7))=(s_0.size:Int)))=true then some true else ((sidx s_0 (w64 (1+x7))).bind fun x17=>
 some (!decide (x17=34)))).bind fun x19=>
 if x19=true then
 some (0,2)
 else
 if (decide (60<x7))=true then
 some (0,3)
 else
 some (w64 (x7+2),0)
noncomputable def slices_Index_string (s_0:List ByteArray) (v_1:ByteArray):Option Int:=
 thenR (forR (ρ:=Int) (fun (i0:Int) (_:Unit)=>
 (idx s_0 i0).bind fun x14=>
 if (v_1==x14)=true then
 some (.ret i0)
 else
 some (.next ())) 0 (s_0.length:Int) ()) (fun _=>
 some (-1)) (fun v0=>some v0)
noncomputable def slices_Contains_string (s_0:List ByteArray) (v_1:ByteArray):Option Bool:=
 (slices_Index_string s_0 v_1).bind fun x7=>
 some (decide (0<=x7))
noncomputable def token_pair (s_0:ByteArray):Option Bool:=
 (if (decide (2<=(s_0.size:Int)))=true then ((sslc s_0 0 2).bind fun x9=>
 (slices_Contains_string [(⟨#[45,62]⟩:ByteArray),(⟨#[60,61]⟩:ByteArray),(⟨#[62,61]⟩:ByteArray),(⟨#[61,61]⟩:ByteArray),(⟨#[33,61]⟩:ByteArray)] x9).bind fun x10=>
 some (x10)) else some false).bind fun x11=>
 some x11
noncomputable def strings_IndexByte (s:ByteArray) (c:Int):Option Int:=some (Go.Lib.indexByte s.data.toList c.toNat.toUInt8)
noncomputable def token_next (s_0:ByteArray):Option (Int × Int × Int):=
 (sidx s_0 0).bind fun x11=>
 (token_letter x11).bind fun x14=>
 if x14=true then
 (token_run s_0 token_part).bind fun x16=>
 if (decide (20<x16))=true then
 some (0,0,3)
 else
 some (1,x16,0)
 else
 (token_digit x11).bind fun x22=>
 if x22=true then
 (token_run s_0 token_digit).bind fun x24=>
 if (decide (9<x24))=true then
 some (0,0,3)
 else
 some (2,x24,0)
 else
 if (decide (x11=34))=true then
 (token_quoted s_0).bind fun x33=>
 some (3,x33.1,x33.2)
 else
 (token_pair s_0).bind fun x40=>
 if x40=true then
 some (4,2,0)
 else
 (strings_IndexByte (⟨#[123,125,40,41,91,93,44,59,58,61,43,45,42,60,62,33,38,124,46,63]⟩:ByteArray) x11).bind fun x43=>
 if (decide (0<=x43))=true then
 some (4,1,0)
 else
 some (0,0,2)
noncomputable def token_whole (t:Token):Option (ByteArray × Bool):=
 (if (decide (t.Kind=3))=true then
 (sapp (⟨#[34]⟩:ByteArray) t.Text).bind fun x14=>
 (sapp x14 (⟨#[34]⟩:ByteArray)).bind fun x15=>
 some x15
 else
 some t.Text).bind fun w1=>
 if (w1==(⟨#[]⟩:ByteArray))=true then
 some ((⟨#[]⟩:ByteArray),false)
 else
 (token_next w1).bind fun x20=>
 some (w1,((decide (x20.2.2=0))&&(decide (x20.1=t.Kind)))&&(decide (x20.2.1=(w1.size:Int))))
noncomputable def token_IsName (s_0:ByteArray):Option Bool:=
 (token_whole (Token.mk 1 s_0 0)).bind fun x8=>
 some x8.2
noncomputable def slices_IndexFunc_NodeType (s_0:List NodeType) (f:NodeType->Option Bool):Option Int:=
 thenR (forR (ρ:=Int) (fun (i0:Int) (_:Unit)=>
 (idx s_0 i0).bind fun x14=>
 (f x14).bind fun x16=>
 if x16=true then
 some (.ret i0)
 else
 some (.next ())) 0 (s_0.length:Int) ()) (fun _=>
 some (-1)) (fun v0=>some v0)
noncomputable def slices_ContainsFunc_NodeType (s_0:List NodeType) (f:NodeType->Option Bool):Option Bool:=
 (slices_IndexFunc_NodeType s_0 f).bind fun x7=>
 some (decide (0<=x7))
noncomputable def types_node_1 (m:NodeType) (c0:NodeType):Option Bool:=
 some (m.Name==c0.Name)
noncomputable def types_attrsF:Nat->Types->Int->Option (List Attr)
 | 0,_,_=>none
 | n+1,t,a=>
  (idx t.Nodes a).bind fun x10=>
  (if (decide (0<=x10.Parent))=true then
  (types_attrsF n t x10.Parent).bind fun x17=>
  some x17
  else
  some []).bind fun w1=>
  (idx t.Nodes a).bind fun x22=>
  (appC w1 x22.Attrs).bind fun x25=>
  some x25
noncomputable def types_attrs (t:Types) (a:Int):Option (List Attr):=lim fun n=>types_attrsF n t a
noncomputable def slices_IndexFunc_Attr (s_0:List Attr) (f:Attr->Option Bool):Option Int:=
 thenR (forR (ρ:=Int) (fun (i0:Int) (_:Unit)=>
 (idx s_0 i0).bind fun x14=>
 (f x14).bind fun x16=>
 if x16=true then
 some (.ret i0)
 else
 some (.next ())) 0 (s_0.length:Int) ()) (fun _=>
 some (-1)) (fun v0=>some v0)
noncomputable def slices_ContainsFunc_Attr (s_0:List Attr) (f:Attr->Option Bool):Option Bool:=
 (slices_IndexFunc_Attr s_0 f).bind fun x7=>
 some (decide (0<=x7))
noncomputable def types_attribute_1 (y:Attr) (c0:Attr):Option Bool:=
 some (y.Name==c0.Name)
noncomputable def types_names (l:List ByteArray):Option Int:=
 if (decide (20<(l.length:Int)))=true then
 some 3
 else
 thenR (forR (ρ:=Int) (fun (i0:Int) (_:Unit)=>
 (idx l i0).bind fun x13=>
 (token_IsName x13).bind fun x17=>
 if (!x17)=true then
 some (.ret 2)
 else
 (slc l 0 i0).bind fun x22=>
 (slices_Contains_string x22 x13).bind fun x24=>
 if x24=true then
 some (.ret 5)
 else
 some (.next ())) 0 (l.length:Int) ()) (fun _=>
 some 0) (fun v0=>some v0)
noncomputable def types_attribute (x_0:Attr) (before:List Attr):Option Int:=
 (token_IsName x_0.Name).bind fun x10=>
 if (!x10)=true then
 some 2
 else
 (slices_ContainsFunc_Attr before (fun y0=>types_attribute_1 y0 x_0)).bind fun x15=>
 if x15=true then
 some 5
 else
 (types_names x_0.Names).bind fun x18=>
 if (!decide (x18=0))=true then
 some x18
 else
 (if (decide (0<(x_0.Names.length:Int)))=true then
 some ((decide (x_0.Low=0))&&(decide (x_0.High=(w64 ((x_0.Names.length:Int) - 1)))))
 else
 some (((decide ((-1000000)<=x_0.Low))&&(decide (x_0.Low<=x_0.High)))&&(decide (x_0.High<=1000000)))).bind fun w1=>
 if (!w1)=true then
 some 6
 else
 some 0
noncomputable def types_node (t:Types) (i_1:Int):Option Int:=
 (idx t.Nodes i_1).bind fun x12=>
 (token_IsName x12.Name).bind fun x17=>
 if (!x17)=true then
 some 2
 else
 (slc t.Nodes 0 i_1).bind fun x23=>
 (slices_ContainsFunc_NodeType x23 (fun y0=>types_node_1 y0 x12)).bind fun x25=>
 if x25=true then
 some 5
 else
 if ((decide (x12.Parent<(-1)))||(decide (i_1<=x12.Parent)))=true then
 some 6
 else
 if (decide (4<(x12.Attrs.length:Int)))=true then
 some 3
 else
 (types_attrs t i_1).bind fun x43=>
 if (decide (8<(x43.length:Int)))=true then
 some 3
 else
 thenR (forR (ρ:=Int) (fun (i1:Int) (_:Unit)=>
 (idx x43 i1).bind fun x61=>
 (slc x43 0 i1).bind fun x65=>
 (types_attribute x61 x65).bind fun x66=>
 if (!decide (x66=0))=true then
 some (.ret x66)
 else
 some (.next ())) (w64 ((x43.length:Int) - (x12.Attrs.length:Int))) (x43.length:Int) ()) (fun _=>
 some 0) (fun v1=>some v1)
noncomputable def types_edge_1 (n:Int) (c0:Types):Option Bool:=
 some ((decide (0<=n))&&(decide (n<(c0.Nodes.length:Int))))
noncomputable def slices_IndexFunc_EdgeType (s_0:List EdgeType) (f:EdgeType->Option Bool):Option Int:=
 thenR (forR (ρ:=Int) (fun (i0:Int) (_:Unit)=>
 (idx s_0 i0).bind fun x14=>
 (f x14).bind fun x16=>
 if x16=true then
 some (.ret i0)
 else
 some (.next ())) 0 (s_0.length:Int) ()) (fun _=>
 some (-1)) (fun v0=>some v0)
noncomputable def slices_ContainsFunc_EdgeType (s_0:List EdgeType) (f:EdgeType->Option Bool):Option Bool:=
 (slices_IndexFunc_EdgeType s_0 f).bind fun x7=>
 some (decide (0<=x7))
noncomputable def types_edge_2 (y:EdgeType) (c0:EdgeType):Option Bool:=
 some (y.Name==c0.Name)
noncomputable def types_bounded (low:Int) (high:Int):Option Bool:=
 some (((decide (0<=low))&&(decide (low<=40)))&&((decide (high=(-1)))||((decide (low<=high))&&(decide (high<=40)))))
noncomputable def types_edge (t:Types) (i_1:Int):Option Int:=
 (idx t.Edges i_1).bind fun x10=>
 (token_IsName x10.Name).bind fun x16=>
 if (!x16)=true then
 some 2
 else
 (slc t.Edges 0 i_1).bind fun x22=>
 (slices_ContainsFunc_EdgeType x22 (fun y0=>types_edge_2 y0 x10)).bind fun x24=>
 if x24=true then
 some 5
 else
 (types_edge_1 x10.From t).bind fun x29=>
 (if (!x29)=true then some true else ((types_edge_1 x10.To t).bind fun x35=>
 some (!x35))).bind fun x37=>
 (if x37=true then
 some x37
 else
 (types_bounded x10.OutLow x10.OutHigh).bind fun x42=>
 (if (!x42)=true then some true else ((types_bounded x10.InLow x10.InHigh).bind fun x49=>
 some (!x49))).bind fun x51=>
 some x51).bind fun w1=>
 if w1=true then
 some 6
 else
 some 0
noncomputable def types_Valid (t:Types):Option (ByteArray × Int):=
 if (decide ((t.Nodes.length:Int)=0))=true then
 some ((⟨#[]⟩:ByteArray),7)
 else
 if ((decide (12<(t.Nodes.length:Int)))||(decide (20<(t.Edges.length:Int))))=true then
 some ((⟨#[]⟩:ByteArray),3)
 else
 thenR (forR (ρ:=(ByteArray × Int)) (fun (i1:Int) (_:Unit)=>
 (idx t.Nodes i1).bind fun x32=>
 (types_node t i1).bind fun x36=>
 if (!decide (x36=0))=true then
 some (.ret (x32.Name,x36))
 else
 some (.next ())) 0 (t.Nodes.length:Int) ()) (fun _=>
 thenR (forR (ρ:=(ByteArray × Int)) (fun (i3:Int) (_:Unit)=>
 (idx t.Edges i3).bind fun x49=>
 (types_edge t i3).bind fun x53=>
 if (!decide (x53=0))=true then
 some (.ret (x49.Name,x53))
 else
 some (.next ())) 0 (t.Edges.length:Int) ()) (fun _=>
 some ((⟨#[]⟩:ByteArray),0)) (fun v3=>some v3)) (fun v1=>some v1)
noncomputable def slices_IndexFunc_int (s_0:List Int) (f:Int->Option Bool):Option Int:=
 thenR (forR (ρ:=Int) (fun (i0:Int) (_:Unit)=>
 (idx s_0 i0).bind fun x14=>
 (f x14).bind fun x16=>
 if x16=true then
 some (.ret i0)
 else
 some (.next ())) 0 (s_0.length:Int) ()) (fun _=>
 some (-1)) (fun v0=>some v0)
noncomputable def slices_ContainsFunc_int (s_0:List Int) (f:Int->Option Bool):Option Bool:=
 (slices_IndexFunc_int s_0 f).bind fun x7=>
 some (decide (0<=x7))
noncomputable def slices_IndexFunc_Edge (s_0:List Edge) (f:Edge->Option Bool):Option Int:=
 thenR (forR (ρ:=Int) (fun (i0:Int) (_:Unit)=>
 (idx s_0 i0).bind fun x14=>
 (f x14).bind fun x16=>
 if x16=true then
 some (.ret i0)
 else
 some (.next ())) 0 (s_0.length:Int) ()) (fun _=>
 some (-1)) (fun v0=>some v0)
noncomputable def slices_ContainsFunc_Edge (s_0:List Edge) (f:Edge->Option Bool):Option Bool:=
 (slices_IndexFunc_Edge s_0 f).bind fun x7=>
 some (decide (0<=x7))
noncomputable def graph_within (n:Int) (most:Int):Option Bool:=
 some ((decide (0<=n))&&(decide (n<=most)))
noncomputable def graph_Valid_1 (t:Int):Option Bool:=
 (graph_within t 99).bind fun x4=>
 some (!x4)
noncomputable def graph_fits (e:Edge) (nodes:Int):Option Bool:=
 (graph_within e.Type' 99).bind fun x7=>
 (if x7=true then ((graph_within e.From (w64 (nodes - 1))).bind fun x13=>
 some (x13)) else some false).bind fun x14=>
 (if x14=true then ((graph_within e.To (w64 (nodes - 1))).bind fun x20=>
 some (x20)) else some false).bind fun x21=>
 some x21
noncomputable def graph_Valid_2 (e:Edge) (c0:Graph):Option Bool:=
 (graph_fits e (c0.Nodes.length:Int)).bind fun x8=>
 some (!x8)
noncomputable def graph_Valid (g:Graph):Option Int:=
 if ((decide (40<(g.Nodes.length:Int)))||(decide (80<(g.Edges.length:Int))))=true then
 some 3
 else
 (slices_ContainsFunc_int g.Nodes graph_Valid_1).bind fun x15=>
 if x15=true then
 some 6
 else
 (slices_ContainsFunc_Edge g.Edges (fun y0=>graph_Valid_2 y0 g)).bind fun x19=>
 if x19=true then
 some 6
 else
 some 0
noncomputable def attribute_Valid_1 (n:Int) (c0:Types):Option Bool:=
 some (decide ((c0.Nodes.length:Int)<=n))
noncomputable def attribute_Valid_2 (x_0:Edge) (c0:Types):Option Bool:=
 some (decide ((c0.Edges.length:Int)<=x_0.Type'))
noncomputable def attribute_within (n:Int) (low:Int) (high:Int):Option Bool:=
 some ((decide (low<=n))&&(decide (n<=high)))
noncomputable def types_given_1 (a:Int) (c0:Types):Option Bool:=
 some ((decide (a<0))||(decide ((c0.Nodes.length:Int)<=a)))
noncomputable def types_given (t:Types) (l:List Int):Option Int:=
 (types_Valid t).bind fun x9=>
 if (!decide (x9.2=0))=true then
 some x9.2
 else
 (slices_ContainsFunc_int l (fun y0=>types_given_1 y0 t)).bind fun x17=>
 if x17=true then
 some 6
 else
 some 0
noncomputable def slices_Clone_string (s_0:List ByteArray):Option (List ByteArray):=
 appC [] s_0
noncomputable def types_Attrs (t:Types) (a:Int):Option (List Attr × Int):=
 (types_given t [a]).bind fun x12=>
 if (!decide (x12=0))=true then
 some ([],x12)
 else
 (types_attrs t a).bind fun x18=>
 (forA (fun (i0:Int) (s0:List Attr)=>
 (idx s0 i0).bind fun x28=>
 (slices_Clone_string x28.Names).bind fun x31=>
 (idx s0 i0).bind fun x32=>
 some (setE s0 i0 (Attr.mk x32.Name x32.Low x32.High x31))) 0 (x18.length:Int) x18).bind fun s0=>
 some (s0,0)
noncomputable def attribute_attr (t:Types) (p:Pattern) (s_2:Slot):Option (Attr × Bool):=
 (attribute_within s_2.Node 0 (w64 ((p.Graph.Nodes.length:Int) - 1))).bind fun x17=>
 if (!x17)=true then
 some (Attr.mk (⟨#[]⟩:ByteArray) 0 0 [],false)
 else
 (idx p.Graph.Nodes s_2.Node).bind fun x27=>
 (types_Attrs t x27).bind fun x29=>
 (attribute_within s_2.Attr 0 (w64 ((x29.1.length:Int) - 1))).bind fun x37=>
 if (!x37)=true then
 some (Attr.mk (⟨#[]⟩:ByteArray) 0 0 [],false)
 else
 (idx x29.1 s_2.Attr).bind fun x43=>
 some (x43,true)
noncomputable def difference_term (n:Int) (t:Term):Option Bool:=
 some ((((decide ((-1)<=t.Var))&&(decide (t.Var<n)))&&(decide ((-1000000)<=t.Add)))&&(decide (t.Add<=1000000)))
noncomputable def difference_one (n:Int) (x_1:Test):Option Int:=
 if ((!decide (x_1.Kind=1))&&(!decide (x_1.Kind=2)))=true then
 some 1
 else
 (difference_term n x_1.Left).bind fun x18=>
 (if (!x18)=true then some true else ((difference_term n x_1.Right).bind fun x24=>
 some (!x24))).bind fun x26=>
 if x26=true then
 some 6
 else
 some 0
noncomputable def difference_Valid (n:Int) (l:List Test):Option Int:=
 if ((decide (n<0))||(decide (12<n)))=true then
 some 6
 else
 if (decide (40<(l.length:Int)))=true then
 some 3
 else
 thenR (forR (ρ:=Int) (fun (i0:Int) (_:Unit)=>
 (idx l i0).bind fun x21=>
 (difference_one n x21).bind fun x25=>
 if (!decide (x25=0))=true then
 some (.ret x25)
 else
 some (.next ())) 0 (l.length:Int) ()) (fun _=>
 some 0) (fun v0=>some v0)
noncomputable def slices_Index_bool (s_0:List Bool) (v_1:Bool):Option Int:=
 thenR (forR (ρ:=Int) (fun (i0:Int) (_:Unit)=>
 (idx s_0 i0).bind fun x14=>
 if (v_1==x14)=true then
 some (.ret i0)
 else
 some (.next ())) 0 (s_0.length:Int) ()) (fun _=>
 some (-1)) (fun v0=>some v0)
noncomputable def slices_Contains_bool (s_0:List Bool) (v_1:Bool):Option Bool:=
 (slices_Index_bool s_0 v_1).bind fun x7=>
 some (decide (0<=x7))
noncomputable def attribute_Valid (t:Types) (p:Pattern):Option Int:=
 (types_Valid t).bind fun x16=>
 if (!decide (x16.2=0))=true then
 some x16.2
 else
 (graph_Valid p.Graph).bind fun x24=>
 if (!decide (x24=0))=true then
 some x24
 else
 (slices_ContainsFunc_int p.Graph.Nodes (fun y0=>attribute_Valid_1 y0 t)).bind fun x32=>
 (if x32=true then some true else ((slices_ContainsFunc_Edge p.Graph.Edges (fun y0=>attribute_Valid_2 y0 t)).bind fun x38=>
 some (x38))).bind fun x39=>
 if x39=true then
 some 13
 else
 (attribute_within p.Vars 0 12).bind fun x42=>
 if (!x42)=true then
 some 6
 else
 if ((decide (10<(p.Slots.length:Int)))||(decide (10<(p.Tests.length:Int))))=true then
 some 3
 else
 (mkz p.Vars false).bind fun x56=>
 thenR (forR (ρ:=Int) (fun (i0:Int) (s0:List Bool)=>
 (idx p.Slots i0).bind fun x62=>
 (attribute_attr t p x62).bind fun x68=>
 (if (!x68.2)=true then some true else ((attribute_within x62.Term.Var (-1) (w64 (p.Vars - 1))).bind fun x80=>
 some (!x80))).bind fun x82=>
 (if x82=true then some true else ((attribute_within x62.Term.Add (-1000000) 1000000).bind fun x87=>
 some (!x87))).bind fun x89=>
 if x89=true then
 some (.ret 6)
 else
 if (decide (0<=x62.Term.Var))=true then
 (idx s0 x62.Term.Var).bind fun x98=>
 some (.next (setE s0 x62.Term.Var true))
 else
 some (.next s0)) 0 (p.Slots.length:Int) x56) (fun s0=>
 (difference_Valid p.Vars p.Tests).bind fun x104=>
 if (!decide (x104=0))=true then
 some x104
 else
 (slices_Contains_bool s0 false).bind fun x109=>
 if x109=true then
 some 9
 else
 some 0) (fun v0=>some v0)
noncomputable def condition_bare (c:Condition):Option Bool:=
 some ((decide ((w64 ((w64 ((w64 ((w64 ((w64 ((c.Map.Nodes.length:Int)+(c.Map.Edges.length:Int)))+(c.Pattern.Graph.Nodes.length:Int)))+(c.Pattern.Graph.Edges.length:Int)))+(c.Pattern.Slots.length:Int)))+(c.Pattern.Tests.length:Int)))=0))&&(decide (c.Pattern.Vars=0)))
noncomputable def slices_IndexFunc_Condition (s_0:List Condition) (f:Condition->Option Bool):Option Int:=
 thenR (forR (ρ:=Int) (fun (i0:Int) (_:Unit)=>
 (idx s_0 i0).bind fun x14=>
 (f x14).bind fun x16=>
 if x16=true then
 some (.ret i0)
 else
 some (.next ())) 0 (s_0.length:Int) ()) (fun _=>
 some (-1)) (fun v0=>some v0)
noncomputable def slices_ContainsFunc_Condition (s_0:List Condition) (f:Condition->Option Bool):Option Bool:=
 (slices_IndexFunc_Condition s_0 f).bind fun x7=>
 some (decide (0<=x7))
mutual
noncomputable def condition_wellFormedF:Nat->Condition->Option Bool
 | 0,_=>none
 | n+1,c=>
  (if (decide (c.Kind=1))=true then
  (if (decide ((c.Kids.length:Int)=0))=true then ((condition_bare c).bind fun x16=>
  some (x16)) else some false).bind fun x17=>
  some x17
  else
  if (decide (c.Kind=2))=true then
  (if (decide ((c.Kids.length:Int)=1))=true then ((condition_bare c).bind fun x24=>
  some (x24)) else some false).bind fun x25=>
  some x25
  else
  if (decide (c.Kind=3))=true then
  if (decide (c.Kind=3))=true then
  (if (decide (1<=(c.Kids.length:Int)))=true then ((condition_bare c).bind fun x33=>
  some (x33)) else some false).bind fun x34=>
  some x34
  else
  if (decide (c.Kind=5))=true then
  some (decide ((c.Kids.length:Int)=1))
  else
  some false
  else
  if (decide (c.Kind=4))=true then
  (if (decide (1<=(c.Kids.length:Int)))=true then ((condition_bare c).bind fun x33=>
  some (x33)) else some false).bind fun x34=>
  some x34
  else
  if (decide (c.Kind=5))=true then
  some (decide ((c.Kids.length:Int)=1))
  else
  some false).bind fun w1=>
  (if w1=true then ((slices_ContainsFunc_Condition c.Kids (condition_wellFormed_1F n)).bind fun x43=>
  some (!x43)) else some false).bind fun x45=>
  some x45
noncomputable def condition_wellFormed_1F:Nat->Condition->Option Bool
 | 0,_=>none
 | n+1,k=>
  (condition_wellFormedF n k).bind fun x4=>
  some (!x4)
end
noncomputable def condition_wellFormed (c:Condition):Option Bool:=lim fun n=>condition_wellFormedF n c
noncomputable def condition_wellFormed_1 (k:Condition):Option Bool:=lim fun n=>condition_wellFormed_1F n k
noncomputable def condition_measureF:Nat->Condition->Option (Int × Int)
 | 0,_=>none
 | n+1,c=>
  (forA (fun (i0:Int) (s0:Int × Int)=>
  (idx c.Kids i0).bind fun x15=>
  (condition_measureF n x15).bind fun x19=>
  some (w64 (s0.1+x19.1),max s0.2 x19.2)) 0 (c.Kids.length:Int) (1,0)).bind fun s0=>
  (if (decide (c.Kind=5))=true then
  some (w64 (s0.2+1))
  else
  some s0.2).bind fun w1=>
  some (s0.1,w1)
noncomputable def condition_measure (c:Condition):Option (Int × Int):=lim fun n=>condition_measureF n c
noncomputable def condition_shape (c:Condition):Option Int:=
 (condition_wellFormed c).bind fun x6=>
 if (!x6)=true then
 some 1
 else
 (condition_measure c).bind fun x10=>
 if ((decide (12<x10.1))||(decide (3<x10.2)))=true then
 some 3
 else
 some 0
noncomputable def slices_IndexFunc_Slot (s_0:List Slot) (f:Slot->Option Bool):Option Int:=
 thenR (forR (ρ:=Int) (fun (i0:Int) (_:Unit)=>
 (idx s_0 i0).bind fun x14=>
 (f x14).bind fun x16=>
 if x16=true then
 some (.ret i0)
 else
 some (.next ())) 0 (s_0.length:Int) ()) (fun _=>
 some (-1)) (fun v0=>some v0)
noncomputable def slices_ContainsFunc_Slot (s_0:List Slot) (f:Slot->Option Bool):Option Bool:=
 (slices_IndexFunc_Slot s_0 f).bind fun x7=>
 some (decide (0<=x7))
noncomputable def condition_pattern_1 (s_0:Slot) (c0:Int):Option Bool:=
 some (decide (s_0.Term.Var=c0))
noncomputable def condition_pattern (t:Types) (q:Pattern) (outer:Int):Option Int:=
 (attribute_Valid t q).bind fun x11=>
 if (!decide (x11=9))=true then
 some x11
 else
 thenR (whR (ρ:=Int) (fun (s0:Int)=>
 if (decide (s0<q.Vars))=true then
 (slices_ContainsFunc_Slot q.Slots (fun y0=>condition_pattern_1 y0 s0)).bind fun x25=>
 if (!x25)=true then
 some (.ret x11)
 else
 some (.next (w64 (s0+1)))
 else
 some (.brk s0)) outer) (fun s0=>
 some 0) (fun v0=>some v0)
noncomputable def morphism_Valid (a:Graph) (b:Graph) (m:Morphism):Option Int:=
 (graph_Valid a).bind fun x16=>
 if (!decide (x16=0))=true then
 some x16
 else
 (graph_Valid b).bind fun x21=>
 if (!decide (x21=0))=true then
 some x21
 else
 if ((!decide ((m.Nodes.length:Int)=(a.Nodes.length:Int)))||(!decide ((m.Edges.length:Int)=(a.Edges.length:Int))))=true then
 some 20
 else
 thenR (forR (ρ:=Int) (fun (i0:Int) (_:Unit)=>
 (idx m.Nodes i0).bind fun x47=>
 if ((decide (x47<0))||(decide ((b.Nodes.length:Int)<=x47)))=true then
 some (.ret 6)
 else
 (idx b.Nodes x47).bind fun x61=>
 (idx a.Nodes i0).bind fun x66=>
 if (!decide (x61=x66))=true then
 some (.ret 13)
 else
 some (.next ())) 0 (m.Nodes.length:Int) ()) (fun _=>
 thenR (forR (ρ:=Int) (fun (i2:Int) (_:Unit)=>
 (idx m.Edges i2).bind fun x76=>
 if ((decide (x76<0))||(decide ((b.Edges.length:Int)<=x76)))=true then
 some (.ret 6)
 else
 (idx a.Edges i2).bind fun x90=>
 (idx b.Edges x76).bind fun x95=>
 if (!decide (x90.Type'=x95.Type'))=true then
 some (.ret 13)
 else
 (idx m.Nodes x90.From).bind fun x106=>
 (if (!decide (x106=x95.From))=true then some true else ((idx m.Nodes x90.To).bind fun x116=>
 some (!decide (x116=x95.To)))).bind fun x121=>
 if x121=true then
 some (.ret 11)
 else
 some (.next ())) 0 (m.Edges.length:Int) ()) (fun _=>
 some 0) (fun v2=>some v2)) (fun v0=>some v0)
noncomputable def slices_Clone_int (s_0:List Int):Option (List Int):=
 appC [] s_0
noncomputable def slices_Sort_int (l:List Int):Option (List Int):=if l.length<=nmax then some (l.mergeSort fun x y=>decide (x<=y)) else none
noncomputable def slices_Compact_int (l:List Int):Option (List Int):=if l.length<=nmax then some (Go.Lib.compact l) else none
noncomputable def morphism_images (l:List Int):Option Int:=
 (slices_Clone_int l).bind fun x5=>
 (slices_Sort_int x5).bind fun x7=>
 (slices_Compact_int x7).bind fun x9=>
 some (x9.length:Int)
noncomputable def morphism_Injective (a:Graph) (b:Graph) (m:Morphism):Option Bool:=
 (morphism_Valid a b m).bind fun x10=>
 (if (decide (x10=0))=true then ((morphism_images m.Nodes).bind fun x15=>
 some (decide (x15=(m.Nodes.length:Int)))) else some false).bind fun x20=>
 (if x20=true then ((morphism_images m.Edges).bind fun x24=>
 some (decide (x24=(m.Edges.length:Int)))) else some false).bind fun x29=>
 some x29
noncomputable def condition_insideF:Nat->Types->Pattern->Condition->Option Int
 | 0,_,_,_=>none
 | n+1,t,p,c=>
  if (decide (c.Kind=5))=true then
  if (decide (c.Pattern.Vars<p.Vars))=true then
  some 20
  else
  (condition_pattern t c.Pattern p.Vars).bind fun x27=>
  if (!decide (x27=0))=true then
  some x27
  else
  (morphism_Valid p.Graph c.Pattern.Graph c.Map).bind fun x37=>
  if (!decide (x37=0))=true then
  some x37
  else
  (morphism_Injective p.Graph c.Pattern.Graph c.Map).bind fun x47=>
  if (!x47)=true then
  some 1
  else
  thenR (forR (ρ:=Int) (fun (i0:Int) (_:Unit)=>
  (idx c.Kids i0).bind fun x55=>
  (condition_insideF n t c.Pattern x55).bind fun x60=>
  if (!decide (x60=0))=true then
  some (.ret x60)
  else
  some (.next ())) 0 (c.Kids.length:Int) ()) (fun _=>
  some 0) (fun v0=>some v0)
  else
  thenR (forR (ρ:=Int) (fun (i0:Int) (_:Unit)=>
  (idx c.Kids i0).bind fun x55=>
  (condition_insideF n t p x55).bind fun x60=>
  if (!decide (x60=0))=true then
  some (.ret x60)
  else
  some (.next ())) 0 (c.Kids.length:Int) ()) (fun _=>
  some 0) (fun v0=>some v0)
noncomputable def condition_inside (t:Types) (p:Pattern) (c:Condition):Option Int:=lim fun n=>condition_insideF n t p c
noncomputable def condition_Valid (t:Types) (p:Pattern) (c:Condition):Option Int:=
 (attribute_Valid t p).bind fun x11=>
 if (!decide (x11=0))=true then
 some x11
 else
 (condition_shape c).bind fun x16=>
 if (!decide (x16=0))=true then
 some x16
 else
 (condition_inside t p c).bind fun x23=>
 some x23
noncomputable def slices_Equal_int (s1_0:List Int) (s2_1:List Int):Option Bool:=
 if (!decide ((s1_0.length:Int)=(s2_1.length:Int)))=true then
 some false
 else
 thenR (forR (ρ:=Bool) (fun (i0:Int) (_:Unit)=>
 (idx s1_0 i0).bind fun x18=>
 (idx s2_1 i0).bind fun x22=>
 if (!decide (x18=x22))=true then
 some (.ret false)
 else
 some (.next ())) 0 (s1_0.length:Int) ()) (fun _=>
 some true) (fun v0=>some v0)
noncomputable def host_node (t:Types) (kind:Int) (values:List Int):Option Int:=
 if (decide ((t.Nodes.length:Int)<=kind))=true then
 some 6
 else
 (idx t.Nodes kind).bind fun x19=>
 if x19.Abstract=true then
 some 13
 else
 (types_Attrs t kind).bind fun x25=>
 if (!decide ((values.length:Int)=(x25.1.length:Int)))=true then
 some 20
 else
 thenR (forR (ρ:=Int) (fun (i0:Int) (_:Unit)=>
 (idx x25.1 i0).bind fun x38=>
 (idx values i0).bind fun x42=>
 (if (decide (x42<x38.Low))=true then some true else ((idx values i0).bind fun x50=>
 some (decide (x38.High<x50)))).bind fun x55=>
 if x55=true then
 some (.ret 6)
 else
 some (.next ())) 0 (x25.1.length:Int) ()) (fun _=>
 some 0) (fun v0=>some v0)
noncomputable def slices_Index_int (s_0:List Int) (v_1:Int):Option Int:=
 thenR (forR (ρ:=Int) (fun (i0:Int) (_:Unit)=>
 (idx s_0 i0).bind fun x14=>
 if (decide (v_1=x14))=true then
 some (.ret i0)
 else
 some (.next ())) 0 (s_0.length:Int) ()) (fun _=>
 some (-1)) (fun v0=>some v0)
noncomputable def slices_Contains_int (s_0:List Int) (v_1:Int):Option Bool:=
 (slices_Index_int s_0 v_1).bind fun x7=>
 some (decide (0<=x7))
noncomputable def slices_Reverse_int (l:List Int):Option (List Int):=if l.length<=nmax then some l.reverse else none
noncomputable def types_line (t:Types) (a:Int):Option (List Int):=
 thenR (whR (ρ:=(List Int)) (fun (s0:Int × List Int)=>
 if (decide (0<=s0.1))=true then
 (appC s0.2 [s0.1]).bind fun x17=>
 (idx t.Nodes s0.1).bind fun x11=>
 some (.next (x11.Parent,x17))
 else
 some (.brk (s0.1,s0.2))) (a,[])) (fun s0=>
 (slices_Reverse_int s0.2).bind fun x19=>
 some x19) (fun v0=>some v0)
noncomputable def types_is (t:Types) (a:Int) (b:Int):Option Bool:=
 (types_line t a).bind fun x9=>
 (slices_Contains_int x9 b).bind fun x11=>
 some x11
noncomputable def types_Fits (t:Types) (edge:Int) (from':Int) (to':Int):Option Bool:=
 (types_given t [from',to']).bind fun x13=>
 if (((!decide (x13=0))||(decide (edge<0)))||(decide ((t.Edges.length:Int)<=edge)))=true then
 some false
 else
 (idx t.Edges edge).bind fun x31=>
 (types_is t from' x31.From).bind fun x34=>
 (if x34=true then ((idx t.Edges edge).bind fun x41=>
 (types_is t to' x41.To).bind fun x44=>
 some (x44)) else some false).bind fun x45=>
 some x45
noncomputable def host_Valid (t:Types) (h_1:Host):Option (Int × Int):=
 (types_Valid t).bind fun x16=>
 if (!decide (x16.2=0))=true then
 some ((-1),x16.2)
 else
 (graph_Valid h_1.Graph).bind fun x24=>
 if (!decide (x24=0))=true then
 some ((-1),x24)
 else
 if (!decide ((h_1.Values.length:Int)=(h_1.Graph.Nodes.length:Int)))=true then
 some ((-1),20)
 else
 thenR (forR (ρ:=(Int × Int)) (fun (i0:Int) (_:Unit)=>
 (idx h_1.Graph.Nodes i0).bind fun x43=>
 (idx h_1.Values i0).bind fun x50=>
 (host_node t x43 x50).bind fun x52=>
 if (!decide (x52=0))=true then
 some (.ret (i0,x52))
 else
 some (.next ())) 0 (h_1.Graph.Nodes.length:Int) ()) (fun _=>
 thenR (forR (ρ:=(Int × Int)) (fun (i2:Int) (_:Unit)=>
 (idx h_1.Graph.Edges i2).bind fun x65=>
 if (decide ((t.Edges.length:Int)<=x65.Type'))=true then
 some (.ret (i2,6))
 else
 (idx h_1.Graph.Nodes x65.From).bind fun x82=>
 (idx h_1.Graph.Nodes x65.To).bind fun x89=>
 (types_Fits t x65.Type' x82 x89).bind fun x91=>
 if (!x91)=true then
 some (.ret (i2,13))
 else
 some (.next ())) 0 (h_1.Graph.Edges.length:Int) ()) (fun _=>
 some ((-1),0)) (fun v2=>some v2)) (fun v0=>some v0)
noncomputable def search_within_1 (n:Int) (c0:Types):Option Bool:=
 some (decide ((c0.Nodes.length:Int)<=n))
noncomputable def search_within_2 (x_0:Edge) (c0:Types):Option Bool:=
 some (decide ((c0.Edges.length:Int)<=x_0.Type'))
noncomputable def search_within (t:Types) (g:Graph):Option Bool:=
 (slices_ContainsFunc_int g.Nodes (fun y0=>search_within_1 y0 t)).bind fun x8=>
 (if (!x8)=true then ((slices_ContainsFunc_Edge g.Edges (fun y0=>search_within_2 y0 t)).bind fun x14=>
 some (!x14)) else some false).bind fun x16=>
 some x16
noncomputable def search_valid (t:Types) (p:Graph) (g:Graph):Option Int:=
 (types_Valid t).bind fun x14=>
 if (!decide (x14.2=0))=true then
 some x14.2
 else
 thenR (forR (ρ:=Int) (fun (i0:Int) (_:Unit)=>
 (idx [p,g] i0).bind fun x26=>
 (graph_Valid x26).bind fun x29=>
 if (!decide (x29=0))=true then
 some (.ret x29)
 else
 some (.next ())) 0 ([p,g].length:Int) ()) (fun _=>
 (search_within t p).bind fun x36=>
 (if (!x36)=true then some true else ((search_within t g).bind fun x41=>
 some (!x41))).bind fun x43=>
 if x43=true then
 some 13
 else
 some 0) (fun v0=>some v0)
noncomputable def types_Below (t:Types) (a:Int):Option (List Int × Int):=
 (types_given t [a]).bind fun x12=>
 if (!decide (x12=0))=true then
 some ([],x12)
 else
 (forA (fun (i0:Int) (s0:List Int)=>
 (types_is t i0 a).bind fun x25=>
 if x25=true then
 (appC s0 [i0]).bind fun x29=>
 some x29
 else
 some s0) 0 (t.Nodes.length:Int) []).bind fun s0=>
 some (s0,0)
noncomputable def search_below (t:Types):Option (List (List Bool)):=
 (forA (fun (i0:Int) (s0:List (List Bool))=>
 (mkz (t.Nodes.length:Int) false).bind fun x19=>
 (types_Below t i0).bind fun x23=>
 (forA (fun (i2:Int) (s2:List Bool)=>
 (idx x23.1 i2).bind fun x30=>
 (idx s2 x30).bind fun x34=>
 some (setE s2 x30 true)) 0 (x23.1.length:Int) x19).bind fun s2=>
 (appC s0 [s2]).bind fun x39=>
 some x39) 0 (t.Nodes.length:Int) []).bind fun s0=>
 some s0
noncomputable def search_shape (t:Types) (p:Graph) (g:Graph) (m:Morphism):Option Int:=
 if ((!decide ((m.Nodes.length:Int)=(p.Nodes.length:Int)))||(!decide ((m.Edges.length:Int)=(p.Edges.length:Int))))=true then
 some 20
 else
 (search_below t).bind fun x33=>
 thenR (forR (ρ:=Int) (fun (i0:Int) (_:Unit)=>
 (idx m.Nodes i0).bind fun x40=>
 if ((decide (x40<0))||(decide ((g.Nodes.length:Int)<=x40)))=true then
 some (.ret 6)
 else
 (idx p.Nodes i0).bind fun x55=>
 (idx x33 x55).bind fun x57=>
 (idx g.Nodes x40).bind fun x62=>
 (idx x57 x62).bind fun x64=>
 if (!x64)=true then
 some (.ret 13)
 else
 some (.next ())) 0 (m.Nodes.length:Int) ()) (fun _=>
 thenR (forR (ρ:=Int) (fun (i2:Int) (_:Unit)=>
 (idx m.Edges i2).bind fun x74=>
 if ((decide (x74<0))||(decide ((g.Edges.length:Int)<=x74)))=true then
 some (.ret 6)
 else
 (idx p.Edges i2).bind fun x88=>
 (idx g.Edges x74).bind fun x93=>
 if (!decide (x88.Type'=x93.Type'))=true then
 some (.ret 13)
 else
 (idx m.Nodes x88.From).bind fun x104=>
 (if (!decide (x104=x93.From))=true then some true else ((idx m.Nodes x88.To).bind fun x114=>
 some (!decide (x114=x93.To)))).bind fun x119=>
 if x119=true then
 some (.ret 11)
 else
 some (.next ())) 0 (m.Edges.length:Int) ()) (fun _=>
 some 0) (fun v2=>some v2)) (fun v0=>some v0)
noncomputable def search_twice (l:List Int):Option Bool:=if l.length<=4096 then some (decide ((Go.Lib.compact (l.mergeSort fun x y=>decide (x<=y))).length<l.length)) else none
noncomputable def search_Check (t:Types) (p:Graph) (g:Graph) (m:Morphism) (injective:Bool):Option Int:=
 (search_valid t p g).bind fun x16=>
 if (!decide (x16=0))=true then
 some x16
 else
 (search_shape t p g m).bind fun x24=>
 if (!decide (x24=0))=true then
 some x24
 else
 (if injective=true then ((search_twice m.Nodes).bind fun x32=>
 (if x32=true then some true else ((search_twice m.Edges).bind fun x36=>
 some (x36))).bind fun x37=>
 some (x37)) else some false).bind fun x38=>
 if x38=true then
 some 5
 else
 some 0
noncomputable def attribute_given (t:Types) (p:Pattern) (h_2:Host):Option Int:=
 (attribute_Valid t p).bind fun x12=>
 if (!decide (x12=0))=true then
 some x12
 else
 (host_Valid t h_2).bind fun x19=>
 some x19.2
noncomputable def attribute_value (x_0:Term) (values:List Int):Option Int:=
 if (decide (x_0.Var<0))=true then
 some x_0.Add
 else
 (idx values x_0.Var).bind fun x13=>
 some (w64 (x13+x_0.Add))
noncomputable def math_bits_Add64 (a b c:Int):Option (Int × Int):=if (0<=a∧a<18446744073709551616)∧(0<=b∧b<18446744073709551616)∧0<=c∧c<=1 then some ((a+b+c) % 18446744073709551616,(a+b+c) / 18446744073709551616) else none
noncomputable def difference_wide (a:Int) (b:Int):Option (Int × Int):=
 (math_bits_Add64 (IntKind.u64.wrap a) (IntKind.u64.wrap b) 0).bind fun x13=>
 (intBit .i64 .shr a 63).bind fun x17=>
 (intBit .i64 .shr b 63).bind fun x19=>
 some (w64 ((w64 (x17+x19))+(w64 x13.2)),x13.1)
noncomputable def difference_Holds_1 (t:Term) (c0:List Int):Option (Int × Int × Bool):=
 if (decide (t.Var=(-1)))=true then
 (difference_wide 0 t.Add).bind fun x17=>
 some (x17.1,x17.2,true)
 else
 if ((decide (t.Var<0))||(decide ((c0.length:Int)<=t.Var)))=true then
 some (0,0,false)
 else
 (idx c0 t.Var).bind fun x37=>
 (difference_wide x37 t.Add).bind fun x41=>
 some (x41.1,x41.2,true)
noncomputable def cmp_Or_int (vals:List Int):Option Int:=
 thenR (forR (ρ:=Int) (fun (i0:Int) (_:Unit)=>
 (idx vals i0).bind fun x10=>
 if (!decide (x10=0))=true then
 some (.ret x10)
 else
 some (.next ())) 0 (vals.length:Int) ()) (fun _=>
 some 0) (fun v0=>some v0)
noncomputable def cmp_isNaN_int (x_0:Int):Option Bool:=
 some (!decide (x_0=x_0))
noncomputable def cmp_Compare_int (x_0:Int) (y:Int):Option Int:=
 (cmp_isNaN_int x_0).bind fun x8=>
 (cmp_isNaN_int y).bind fun x10=>
 if x8=true then
 if x10=true then
 some 0
 else
 some (-1)
 else
 if x10=true then
 some 1
 else
 if (decide (x_0<y))=true then
 some (-1)
 else
 if (decide (y<x_0))=true then
 some 1
 else
 some 0
noncomputable def cmp_isNaN_uint64 (x_0:Int):Option Bool:=
 some (!decide (x_0=x_0))
noncomputable def cmp_Compare_uint64 (x_0:Int) (y:Int):Option Int:=
 (cmp_isNaN_uint64 x_0).bind fun x8=>
 (cmp_isNaN_uint64 y).bind fun x10=>
 if x8=true then
 if x10=true then
 some 0
 else
 some (-1)
 else
 if x10=true then
 some 1
 else
 if (decide (x_0<y))=true then
 some (-1)
 else
 if (decide (y<x_0))=true then
 some 1
 else
 some 0
noncomputable def difference_Holds (x_0:Test) (values:List Int):Option Bool:=
 (difference_Holds_1 x_0.Left values).bind fun x18=>
 (difference_Holds_1 x_0.Right values).bind fun x26=>
 if ((!x18.2.2)||(!x26.2.2))=true then
 some false
 else
 (cmp_Compare_int x18.1 x26.1).bind fun x38=>
 (cmp_Compare_uint64 x18.2.1 x26.2.1).bind fun x41=>
 (cmp_Or_int [x38,x41]).bind fun x43=>
 some (((decide (x_0.Kind=1))&&(decide (x43<=0)))||((decide (x_0.Kind=2))&&(decide (x43=0))))
noncomputable def attribute_solve (p:Pattern) (h_1:Host) (m:Morphism):Option (List Int × Int):=
 (mkz p.Vars 0).bind fun x18=>
 (mkz p.Vars false).bind fun x21=>
 thenR (forR (ρ:=(List Int × Int)) (fun (i0:Int) (s0:List Int × List Bool)=>
 (idx p.Slots i0).bind fun x27=>
 (idx m.Nodes x27.Node).bind fun x35=>
 (idx h_1.Values x35).bind fun x37=>
 (idx x37 x27.Attr).bind fun x41=>
 (if (decide (0<=x27.Term.Var))=true then ((idx s0.2 x27.Term.Var).bind fun x51=>
 some (!x51)) else some false).bind fun x54=>
 if x54=true then
 (idx s0.1 x27.Term.Var).bind fun x64=>
 (idx s0.2 x27.Term.Var).bind fun x65=>
 (attribute_value x27.Term (setE s0.1 x27.Term.Var (w64 (x41 - x27.Term.Add)))).bind fun x69=>
 if (!decide (x69=x41))=true then
 some (.ret ([],11))
 else
 some (.next (setE s0.1 x27.Term.Var (w64 (x41 - x27.Term.Add)),setE s0.2 x27.Term.Var true))
 else
 (attribute_value x27.Term s0.1).bind fun x69=>
 if (!decide (x69=x41))=true then
 some (.ret ([],11))
 else
 some (.next (s0.1,s0.2))) 0 (p.Slots.length:Int) (x18,x21)) (fun s0=>
 thenR (forR (ρ:=(List Int × Int)) (fun (i2:Int) (_:Unit)=>
 (idx p.Tests i2).bind fun x78=>
 (difference_Holds x78 s0.1).bind fun x82=>
 if (!x82)=true then
 some (.ret ([],16))
 else
 some (.next ())) 0 (p.Tests.length:Int) ()) (fun _=>
 some (s0.1,0)) (fun v2=>some v2)) (fun v0=>some v0)
noncomputable def attribute_Solve (t:Types) (p:Pattern) (h_2:Host) (m:Morphism):Option (List Int × Int):=
 (attribute_given t p h_2).bind fun x15=>
 if (!decide (x15=0))=true then
 some ([],x15)
 else
 (search_Check t p.Graph h_2.Graph m false).bind fun x25=>
 if (!decide (x25=0))=true then
 some ([],x25)
 else
 (attribute_solve p h_2 m).bind fun x32=>
 some (x32.1,x32.2)
noncomputable def condition_given (t:Types) (p:Pattern) (c:Condition) (h_3:Host) (m:GMatch) (injective:Bool):Option Int:=
 (condition_Valid t p c).bind fun x22=>
 if (!decide (x22=0))=true then
 some x22
 else
 (host_Valid t h_3).bind fun x29=>
 if (!decide (x29.2=0))=true then
 some x29.2
 else
 (search_Check t p.Graph h_3.Graph m.Morphism injective).bind fun x43=>
 if (!decide (x43=0))=true then
 some x43
 else
 (attribute_Solve t p h_3 m.Morphism).bind fun x53=>
 if (!decide (x53.2=0))=true then
 some x53.2
 else
 (slices_Equal_int x53.1 m.Vars).bind fun x62=>
 if (!x62)=true then
 some 11
 else
 some 0
noncomputable def search_open_1 (k:Int) (c0:Int):Option Bool:=
 some ((decide (k<(-1)))||(decide (c0<=k)))
noncomputable def search_open (l:List Int) (n:Int):Option Int:=
 (slices_ContainsFunc_int l (fun y0=>search_open_1 y0 n)).bind fun x7=>
 if x7=true then
 some 6
 else
 some 0
noncomputable def search_given (l:List Int) (i_1:Int):Option Int:=
 (nonE l).bind fun x6=>
 (idx l i_1).bind fun x9=>
 some x9
noncomputable def __search_finder__fits (f:search_finder) (i_1:Int) (k:Int):Option Bool:=
 (idx f.p.Edges i_1).bind fun x15=>
 (search_given f.partial_.Edges i_1).bind fun x23=>
 if ((decide (0<=x23))&&(!decide (x23=k)))=true then
 some false
 else
 (idx f.g.Edges k).bind fun x37=>
 (idx f.nodes x15.From).bind fun x47=>
 (idx f.nodes x15.To).bind fun x55=>
 some (decide (x37=(Edge.mk x15.Type' x47 x55)))
noncomputable def __search_finder__possible (f:search_finder):Option Bool:=
 thenR (forR (ρ:=Bool) (fun (i0:Int) (_:Unit)=>
 (idx f.p.Edges i0).bind fun x23=>
 if (!decide ((max x23.From x23.To)=(w64 ((f.nodes.length:Int) - 1))))=true then
 some (.next ())
 else
 thenR (forR (ρ:=Bool) (fun (i2:Int) (s2:Bool)=>
 (__search_finder__fits f i0 i2).bind fun x44=>
 if x44=true then
 some (.brk true)
 else
 some (.next s2)) 0 (f.g.Edges.length:Int) false) (fun s2=>
 if (!s2)=true then
 some (.ret false)
 else
 some (.next ())) (fun v2=>some (.ret v2))) 0 (f.p.Edges.length:Int) ()) (fun _=>
 some true) (fun v0=>some v0)
noncomputable def __search_finder__findF:Nat->search_finder->Option search_finder
 | 0,_=>none
 | n+1,f=>
  (if (decide ((f.out.length:Int)=f.most))=true then
  some f
  else
  if (decide ((f.nodes.length:Int)<(f.p.Nodes.length:Int)))=true then
  (forA (fun (i1:Int) (s1:search_finder)=>
  (idx f.g.Nodes i1).bind fun x66=>
  (search_given s1.partial_.Nodes (f.nodes.length:Int)).bind fun x74=>
  (if ((decide (0<=x74))&&(!decide (x74=i1)))=true then some true else ((idx s1.p.Nodes (f.nodes.length:Int)).bind fun x93=>
  (idx s1.is x93).bind fun x95=>
  (idx x95 x66).bind fun x98=>
  some (!x98))).bind fun x101=>
  (if x101=true then some true else ((if s1.injective=true then ((slices_Contains_int s1.nodes i1).bind fun x113=>
  some (x113)) else some false).bind fun x114=>
  some (x114))).bind fun x115=>
  if x115=true then
  some s1
  else
  (appC s1.nodes [i1]).bind fun x123=>
  (__search_finder__possible (search_finder.mk s1.p s1.g s1.is s1.partial_ s1.injective s1.most x123 s1.edges s1.out)).bind fun x127=>
  if x127=true then
  (__search_finder__findF n (search_finder.mk s1.p s1.g s1.is s1.partial_ s1.injective s1.most x123 s1.edges s1.out)).bind fun x129=>
  (slc x129.nodes 0 (f.nodes.length:Int)).bind fun x136=>
  some (search_finder.mk x129.p x129.g x129.is x129.partial_ x129.injective x129.most x136 x129.edges x129.out)
  else
  (slc x123 0 (f.nodes.length:Int)).bind fun x136=>
  some (search_finder.mk s1.p s1.g s1.is s1.partial_ s1.injective s1.most x136 s1.edges s1.out)) 0 (f.g.Nodes.length:Int) f).bind fun s1=>
  some s1
  else
  if (decide ((f.edges.length:Int)<(f.p.Edges.length:Int)))=true then
  (forA (fun (i3:Int) (s3:search_finder)=>
  (__search_finder__fits s3 (f.edges.length:Int) i3).bind fun x170=>
  (if (!x170)=true then some true else ((if s3.injective=true then ((slices_Contains_int s3.edges i3).bind fun x183=>
  some (x183)) else some false).bind fun x184=>
  some (x184))).bind fun x185=>
  if x185=true then
  some s3
  else
  (appC s3.edges [i3]).bind fun x193=>
  (__search_finder__findF n (search_finder.mk s3.p s3.g s3.is s3.partial_ s3.injective s3.most s3.nodes x193 s3.out)).bind fun x197=>
  (slc x197.edges 0 (f.edges.length:Int)).bind fun x204=>
  some (search_finder.mk x197.p x197.g x197.is x197.partial_ x197.injective x197.most x197.nodes x204 x197.out)) 0 (f.g.Edges.length:Int) f).bind fun s3=>
  some s3
  else
  (slices_Clone_int f.nodes).bind fun x17=>
  (slices_Clone_int f.edges).bind fun x22=>
  (appC f.out [Morphism.mk x17 x22]).bind fun x25=>
  some (search_finder.mk f.p f.g f.is f.partial_ f.injective f.most f.nodes f.edges x25)).bind fun w1=>
  some w1
noncomputable def __search_finder__find (f:search_finder):Option search_finder:=lim fun n=>__search_finder__findF n f
noncomputable def search_found (t:Types) (p:Graph) (g:Graph) (partial_:Morphism) (injective:Bool) (most:Int):Option (List Morphism):=
 (search_below t).bind fun x17=>
 (__search_finder__find (search_finder.mk p g x17 partial_ injective most [] [] [])).bind fun x24=>
 some x24.out
noncomputable def search_all (t:Types) (p:Graph) (g:Graph) (partial_:Morphism) (injective:Bool):Option (List Morphism × Int):=
 (search_found t p g partial_ injective 5001).bind fun x18=>
 if (decide (5000<(x18.length:Int)))=true then
 some ([],3)
 else
 some (x18,0)
noncomputable def search_Extend (t:Types) (p:Graph) (g:Graph) (partial_:Morphism) (injective:Bool):Option (List Morphism × Int):=
 (search_valid t p g).bind fun x18=>
 if (!decide (x18=0))=true then
 some ([],x18)
 else
 if ((!decide ((partial_.Nodes.length:Int)=(p.Nodes.length:Int)))||(!decide ((partial_.Edges.length:Int)=(p.Edges.length:Int))))=true then
 some ([],20)
 else
 (search_open partial_.Nodes (g.Nodes.length:Int)).bind fun x43=>
 if (!decide (x43=0))=true then
 some ([],x43)
 else
 (search_open partial_.Edges (g.Edges.length:Int)).bind fun x52=>
 if (!decide (x52=0))=true then
 some ([],x52)
 else
 (search_all t p g partial_ injective).bind fun x61=>
 some (x61.1,x61.2)
noncomputable def slices_Repeat_int (l:List Int) (n:Int):Option (List Int):=if l.length=1∧0<=n∧n<=4096 then some (List.replicate n.toNat (l.headD 0)) else none
noncomputable def condition_placed (n:Int) (at':List Int) (images:List Int):Option (List Int):=
 (slices_Repeat_int [(-1)] n).bind fun x12=>
 (forA (fun (i0:Int) (s0:List Int)=>
 (idx at' i0).bind fun x18=>
 (idx images i0).bind fun x24=>
 (idx s0 x18).bind fun x26=>
 some (setE s0 x18 x24)) 0 (at'.length:Int) x12).bind fun s0=>
 some s0
noncomputable def attribute_Term (x_0:Term) (values:List Int):Option (Int × Int):=
 (attribute_within x_0.Var (-1) (w64 ((values.length:Int) - 1))).bind fun x11=>
 if (!x11)=true then
 some (0,6)
 else
 (attribute_value x_0 values).bind fun x15=>
 some (x15,0)
noncomputable def _condition_scene__values (s_0:condition_scene) (q:Pattern) (m:Morphism) (given:List Int):Option (List Int × Bool):=
 (slices_Clone_int given).bind fun x22=>
 (appZ x22 (w64 (q.Vars - (given.length:Int))) 0).bind fun x28=>
 (mkz q.Vars false).bind fun x31=>
 (forA (fun (i0:Int) (s0:List Bool)=>
 (idx s0 i0).bind fun x39=>
 some (setE s0 i0 true)) 0 (given.length:Int) x31).bind fun s0=>
 thenR (forR (ρ:=(List Int × Bool)) (fun (i2:Int) (s2:List Int × List Bool)=>
 (idx q.Slots i2).bind fun x46=>
 (idx m.Nodes x46.Node).bind fun x55=>
 (idx s_0.h.Values x55).bind fun x57=>
 (idx x57 x46.Attr).bind fun x61=>
 (if (decide (0<=x46.Term.Var))=true then ((idx s2.2 x46.Term.Var).bind fun x71=>
 some (!x71)) else some false).bind fun x74=>
 if x74=true then
 (idx s2.1 x46.Term.Var).bind fun x84=>
 (idx s2.2 x46.Term.Var).bind fun x85=>
 (attribute_Term x46.Term (setE s2.1 x46.Term.Var (w64 (x61 - x46.Term.Add)))).bind fun x90=>
 if ((!decide (x90.2=0))||(!decide (x90.1=x61)))=true then
 some (.ret ([],false))
 else
 some (.next (setE s2.1 x46.Term.Var (w64 (x61 - x46.Term.Add)),setE s2.2 x46.Term.Var true))
 else
 (attribute_Term x46.Term s2.1).bind fun x90=>
 if ((!decide (x90.2=0))||(!decide (x90.1=x61)))=true then
 some (.ret ([],false))
 else
 some (.next (s2.1,s2.2))) 0 (q.Slots.length:Int) (x28,s0)) (fun s2=>
 thenR (forR (ρ:=(List Int × Bool)) (fun (i4:Int) (_:Unit)=>
 (idx q.Tests i4).bind fun x106=>
 (difference_Holds x106 s2.1).bind fun x110=>
 if (!x110)=true then
 some (.ret ([],false))
 else
 some (.next ())) 0 (q.Tests.length:Int) ()) (fun _=>
 some (s2.1,true)) (fun v4=>some v4)) (fun v2=>some v2)
noncomputable def _condition_scene__extensions (s_0:condition_scene) (c:Condition) (m:GMatch):Option (List GMatch × Int):=
 (condition_placed (c.Pattern.Graph.Nodes.length:Int) c.Map.Nodes m.Morphism.Nodes).bind fun x29=>
 (condition_placed (c.Pattern.Graph.Edges.length:Int) c.Map.Edges m.Morphism.Edges).bind fun x39=>
 (search_Extend s_0.t c.Pattern.Graph s_0.h.Graph (Morphism.mk x29 x39) s_0.injective).bind fun x51=>
 if (!decide (x51.2=0))=true then
 some ([],x51.2)
 else
 (forA (fun (i0:Int) (s0:List GMatch)=>
 (idx x51.1 i0).bind fun x61=>
 (_condition_scene__values s_0 c.Pattern x61 m.Vars).bind fun x70=>
 if x70.2=true then
 (appC s0 [GMatch.mk x61 x70.1]).bind fun x79=>
 some x79
 else
 some s0) 0 (x51.1.length:Int) []).bind fun s0=>
 some (s0,0)
mutual
noncomputable def _condition_scene__witnessF:Nat->condition_scene->Condition->GMatch->Option (Proof × Int)
 | 0,_,_,_=>none
 | n+1,s_0,c,m=>
  if (decide (c.Kind=2))=true then
  (idx c.Kids 0).bind fun x27=>
  (_condition_scene__witnessF n s_0 x27 m).bind fun x30=>
  if (decide (x30.2=0))=true then
  some (Proof.mk 0 (GMatch.mk (Morphism.mk [] []) []) [],10)
  else
  if (decide (x30.2=10))=true then
  some (Proof.mk 0 (GMatch.mk (Morphism.mk [] []) []) [],0)
  else
  some (Proof.mk 0 (GMatch.mk (Morphism.mk [] []) []) [],x30.2)
  else
  if (decide (c.Kind=3))=true then
  thenR (forR (ρ:=(Proof × Int)) (fun (i2:Int) (s2:Proof × Proof)=>
  (idx c.Kids i2).bind fun x49=>
  (_condition_scene__witnessF n s_0 x49 m).bind fun x55=>
  if (!decide (x55.2=0))=true then
  some (.ret (Proof.mk 0 (GMatch.mk (Morphism.mk [] []) []) [],x55.2))
  else
  (appC s2.2.Kids [x55.1]).bind fun x66=>
  some (.next (s2.1,Proof.mk s2.2.Choice s2.2.Match x66))) 0 (c.Kids.length:Int) (Proof.mk 0 (GMatch.mk (Morphism.mk [] []) []) [],Proof.mk 0 (GMatch.mk (Morphism.mk [] []) []) [])) (fun s2=>
  some (s2.2,0)) (fun v2=>some v2)
  else
  if (decide (c.Kind=4))=true then
  thenR (forR (ρ:=(Proof × Int)) (fun (i4:Int) (s4:Proof)=>
  (idx c.Kids i4).bind fun x78=>
  (_condition_scene__witnessF n s_0 x78 m).bind fun x84=>
  if (decide (x84.2=0))=true then
  some (.ret (Proof.mk i4 (GMatch.mk (Morphism.mk [] []) []) [x84.1],0))
  else
  if (!decide (x84.2=10))=true then
  some (.ret (Proof.mk 0 (GMatch.mk (Morphism.mk [] []) []) [],x84.2))
  else
  some (.next s4)) 0 (c.Kids.length:Int) (Proof.mk 0 (GMatch.mk (Morphism.mk [] []) []) [])) (fun s4=>
  some (Proof.mk 0 (GMatch.mk (Morphism.mk [] []) []) [],10)) (fun v4=>some v4)
  else
  if (decide (c.Kind=5))=true then
  (_condition_scene__extendedF n s_0 c m).bind fun x104=>
  some (x104.1,x104.2)
  else
  some (Proof.mk 0 (GMatch.mk (Morphism.mk [] []) []) [],0)
noncomputable def _condition_scene__extendedF:Nat->condition_scene->Condition->GMatch->Option (Proof × Int)
 | 0,_,_,_=>none
 | n+1,s_0,c,m=>
  (_condition_scene__extensions s_0 c m).bind fun x18=>
  if (!decide (x18.2=0))=true then
  some (Proof.mk 0 (GMatch.mk (Morphism.mk [] []) []) [],x18.2)
  else
  thenR (forR (ρ:=(Proof × Int)) (fun (i0:Int) (s0:Proof)=>
  (idx x18.1 i0).bind fun x29=>
  (idx c.Kids 0).bind fun x35=>
  (_condition_scene__witnessF n s_0 x35 x29).bind fun x38=>
  if (decide (x38.2=0))=true then
  some (.ret (Proof.mk 0 x29 [x38.1],0))
  else
  if (!decide (x38.2=10))=true then
  some (.ret (Proof.mk 0 (GMatch.mk (Morphism.mk [] []) []) [],x38.2))
  else
  some (.next s0)) 0 (x18.1.length:Int) (Proof.mk 0 (GMatch.mk (Morphism.mk [] []) []) [])) (fun s0=>
  some (Proof.mk 0 (GMatch.mk (Morphism.mk [] []) []) [],10)) (fun v0=>some v0)
end
noncomputable def _condition_scene__witness (s_0:condition_scene) (c:Condition) (m:GMatch):Option (Proof × Int):=lim fun n=>_condition_scene__witnessF n s_0 c m
noncomputable def _condition_scene__extended (s_0:condition_scene) (c:Condition) (m:GMatch):Option (Proof × Int):=lim fun n=>_condition_scene__extendedF n s_0 c m
noncomputable def condition_Witness (t:Types) (p:Pattern) (c:Condition) (h_3:Host) (m:GMatch) (injective:Bool):Option (Proof × Int):=
 (condition_given t p c h_3 m injective).bind fun x21=>
 if (!decide (x21=0))=true then
 some (Proof.mk 0 (GMatch.mk (Morphism.mk [] []) []) [],x21)
 else
 (_condition_scene__witness (condition_scene.mk t h_3 injective) c m).bind fun x32=>
 some (x32.1,x32.2)
noncomputable def condition_Satisfies (t:Types) (p:Pattern) (c:Condition) (h_3:Host) (m:GMatch) (injective:Bool):Option (Bool × Int):=
 (condition_Witness t p c h_3 m injective).bind fun x23=>
 if (decide (x23.2=10))=true then
 some (false,0)
 else
 some (decide (x23.2=0),x23.2)
noncomputable def condition_unmatched (m:GMatch):Option Bool:=
 some (decide ((w64 ((w64 ((m.Morphism.Nodes.length:Int)+(m.Morphism.Edges.length:Int)))+(m.Vars.length:Int)))=0))
noncomputable def slices_IndexFunc_Match (s_0:List GMatch) (f:GMatch->Option Bool):Option Int:=
 thenR (forR (ρ:=Int) (fun (i0:Int) (_:Unit)=>
 (idx s_0 i0).bind fun x14=>
 (f x14).bind fun x16=>
 if x16=true then
 some (.ret i0)
 else
 some (.next ())) 0 (s_0.length:Int) ()) (fun _=>
 some (-1)) (fun v0=>some v0)
noncomputable def slices_ContainsFunc_Match (s_0:List GMatch) (f:GMatch->Option Bool):Option Bool:=
 (slices_IndexFunc_Match s_0 f).bind fun x7=>
 some (decide (0<=x7))
noncomputable def morphism_Same (a:Morphism) (b:Morphism):Option Bool:=
 (slices_Equal_int a.Nodes b.Nodes).bind fun x9=>
 (if x9=true then ((slices_Equal_int a.Edges b.Edges).bind fun x15=>
 some (x15)) else some false).bind fun x16=>
 some x16
noncomputable def condition_sameMatch (a:GMatch) (b:GMatch):Option Bool:=
 (morphism_Same a.Morphism b.Morphism).bind fun x9=>
 (if x9=true then ((slices_Equal_int a.Vars b.Vars).bind fun x15=>
 some (x15)) else some false).bind fun x16=>
 some x16
noncomputable def _condition_scene__right_1 (x_0:GMatch) (c0:Proof):Option Bool:=
 (condition_sameMatch x_0 c0.Match).bind fun x7=>
 some x7
noncomputable def _condition_scene__rightF:Nat->condition_scene->Condition->GMatch->Proof->Option Bool
 | 0,_,_,_,_=>none
 | n+1,s_0,c,m,w=>
  if (decide (c.Kind=1))=true then
  (if ((decide ((w.Kids.length:Int)=0))&&(decide (w.Choice=0)))=true then ((condition_unmatched w.Match).bind fun x33=>
  some (x33)) else some false).bind fun x34=>
  some x34
  else
  if (decide (c.Kind=2))=true then
  (idx c.Kids 0).bind fun x41=>
  (_condition_scene__witness s_0 x41 m).bind fun x44=>
  (if ((decide ((w.Kids.length:Int)=0))&&(decide (w.Choice=0)))=true then ((condition_unmatched w.Match).bind fun x57=>
  some (x57)) else some false).bind fun x58=>
  some (x58&&(decide (x44.2=10)))
  else
  if (decide (c.Kind=3))=true then
  (if ((!decide ((w.Kids.length:Int)=(c.Kids.length:Int)))||(!decide (w.Choice=0)))=true then some true else ((condition_unmatched w.Match).bind fun x78=>
  some (!x78))).bind fun x80=>
  if x80=true then
  some false
  else
  thenR (forR (ρ:=Bool) (fun (i1:Int) (_:Unit)=>
  (idx c.Kids i1).bind fun x87=>
  (idx w.Kids i1).bind fun x95=>
  (_condition_scene__rightF n s_0 x87 m x95).bind fun x97=>
  if (!x97)=true then
  some (.ret false)
  else
  some (.next ())) 0 (c.Kids.length:Int) ()) (fun _=>
  some true) (fun v1=>some v1)
  else
  if (decide (c.Kind=4))=true then
  (if (((decide ((w.Kids.length:Int)=1))&&(decide (0<=w.Choice)))&&(decide (w.Choice<(c.Kids.length:Int))))=true then ((condition_unmatched w.Match).bind fun x120=>
  some (x120)) else some false).bind fun x121=>
  (if x121=true then ((idx c.Kids w.Choice).bind fun x128=>
  (idx w.Kids 0).bind fun x133=>
  (_condition_scene__rightF n s_0 x128 m x133).bind fun x135=>
  some (x135)) else some false).bind fun x136=>
  some x136
  else
  if ((!decide ((w.Kids.length:Int)=1))||(!decide (w.Choice=0)))=true then
  some false
  else
  (_condition_scene__extensions s_0 c m).bind fun x148=>
  (if (!decide (x148.2=0))=true then some true else ((slices_ContainsFunc_Match x148.1 (fun y0=>_condition_scene__right_1 y0 w)).bind fun x156=>
  some (!x156))).bind fun x158=>
  if x158=true then
  some false
  else
  (idx c.Kids 0).bind fun x162=>
  (idx w.Kids 0).bind fun x168=>
  (_condition_scene__rightF n s_0 x162 w.Match x168).bind fun x170=>
  some x170
noncomputable def _condition_scene__right (s_0:condition_scene) (c:Condition) (m:GMatch) (w:Proof):Option Bool:=lim fun n=>_condition_scene__rightF n s_0 c m w
noncomputable def condition_CheckWitness (t:Types) (p:Pattern) (c:Condition) (h_3:Host) (m:GMatch) (injective:Bool) (w:Proof):Option Bool:=
 (condition_given t p c h_3 m injective).bind fun x21=>
 (if (decide (x21=0))=true then ((_condition_scene__right (condition_scene.mk t h_3 injective) c m w).bind fun x31=>
 some (x31)) else some false).bind fun x32=>
 some x32
noncomputable def ref04_Example :Option Types:=
 some (Types.mk [NodeType.mk (⟨#[65,99,99,111,117,110,116]⟩:ByteArray) (-1) true [Attr.mk (⟨#[98,97,108,97,110,99,101]⟩:ByteArray) (-1000) 1000 []],NodeType.mk (⟨#[67,97,115,104]⟩:ByteArray) 0 false [],NodeType.mk (⟨#[76,111,97,110]⟩:ByteArray) 0 false [Attr.mk (⟨#[115,116,97,116,101]⟩:ByteArray) 0 1 [(⟨#[111,112,101,110]⟩:ByteArray),(⟨#[99,108,111,115,101,100]⟩:ByteArray)]],NodeType.mk (⟨#[80,101,114,115,111,110]⟩:ByteArray) (-1) false []] [EdgeType.mk (⟨#[111,119,110,115]⟩:ByteArray) 3 0 0 (-1) 1 1,EdgeType.mk (⟨#[112,97,121,115]⟩:ByteArray) 1 1 0 (-1) 0 (-1)])
noncomputable def law22_another :Option law22_Over:=
 some (law22_Over.mk (Pattern.mk (Graph.mk [3,0] [Edge.mk 0 0 1]) [Slot.mk 1 0 (Term.mk 0 0)] 1 []) (Condition.mk 5 [Condition.mk 1 [] (Morphism.mk [] []) (Pattern.mk (Graph.mk [] []) [] 0 [])] (Morphism.mk [0,1] [0]) (Pattern.mk (Graph.mk [3,0,0] [Edge.mk 0 0 1,Edge.mk 0 0 2]) [Slot.mk 1 0 (Term.mk 0 0),Slot.mk 2 0 (Term.mk 1 0)] 2 [Test.mk 1 (Term.mk 0 0) (Term.mk 1 0)])))
noncomputable def law22_awake :Option Bool:=
 (ref04_Example).bind fun x10=>
 (law22_another).bind fun x11=>
 (condition_Witness x10 x11.P x11.C (Host.mk (Graph.mk [3,1,1] [Edge.mk 0 0 1,Edge.mk 0 0 2]) [[],[10],[5]]) (GMatch.mk (Morphism.mk [0,2] [1]) [5]) true).bind fun x39=>
 (condition_Satisfies x10 x11.P x11.C (Host.mk (Graph.mk [3,1,1] [Edge.mk 0 0 1,Edge.mk 0 0 2]) [[],[10],[5]]) (GMatch.mk (Morphism.mk [0,1] [0]) [10]) true).bind fun x50=>
 (if ((((decide (x39.2=0))&&(decide (x50.2=0)))&&(!x50.1))&&(decide ((x39.1.Match.Vars.length:Int)=2)))=true then ((idx x39.1.Match.Vars 1).bind fun x74=>
 some (decide (x74=10))) else some false).bind fun x77=>
 (if x77=true then ((condition_CheckWitness x10 x11.P x11.C (Host.mk (Graph.mk [3,1,1] [Edge.mk 0 0 1,Edge.mk 0 0 2]) [[],[10],[5]]) (GMatch.mk (Morphism.mk [0,2] [1]) [5]) true x39.1).bind fun x87=>
 some (x87)) else some false).bind fun x88=>
 some x88
noncomputable def ref05_Few (g:Graph):Option Bool:=
 some ((decide ((g.Nodes.length:Int)<=45))&&(decide ((g.Edges.length:Int)<=90)))
noncomputable def ref21_Few (p:Pattern):Option Bool:=
 (ref05_Few p.Graph).bind fun x5=>
 some ((x5&&(decide ((p.Slots.length:Int)<=15)))&&(decide ((p.Tests.length:Int)<=15)))
noncomputable def ref06_Few (m:Morphism) (n:Int):Option Bool:=
 some (decide ((w64 ((m.Nodes.length:Int)+(m.Edges.length:Int)))<=n))
noncomputable def ref22_leftF:Nat->Condition->Int->Option Int
 | 0,_,_=>none
 | n+1,c,most=>
  (ref21_Few c.Pattern).bind fun x10=>
  (if (!x10)=true then some true else ((ref06_Few c.Map 140).bind fun x15=>
  some (!x15))).bind fun x17=>
  if x17=true then
  some (-1)
  else
  thenR (whR (ρ:=Int) (fun (s0:Int × Int)=>
  if ((decide (s0.2<(c.Kids.length:Int)))&&(decide (0<=s0.1)))=true then
  (idx c.Kids s0.2).bind fun x32=>
  (ref22_leftF n x32 s0.1).bind fun x35=>
  some (.next (x35,w64 (s0.2+1)))
  else
  some (.brk (s0.1,s0.2))) (w64 (most - 1),0)) (fun s0=>
  some s0.1) (fun v0=>some v0)
noncomputable def ref22_left (c:Condition) (most:Int):Option Int:=lim fun n=>ref22_leftF n c most
noncomputable def ref22_Few (c:Condition):Option Bool:=
 (ref22_left c 40).bind fun x4=>
 some (decide (0<=x4))
noncomputable def condition_isNo (c:Condition):Option Bool:=
 (if (decide (c.Kind=2))=true then ((idx c.Kids 0).bind fun x9=>
 some (decide (x9.Kind=1))) else some false).bind fun x13=>
 some x13
noncomputable def condition_yes :Option Condition:=
 some (Condition.mk 1 [] (Morphism.mk [] []) (Pattern.mk (Graph.mk [] []) [] 0 []))
noncomputable def condition_no :Option Condition:=
 (condition_yes).bind fun x1=>
 some (Condition.mk 2 [x1] (Morphism.mk [] []) (Pattern.mk (Graph.mk [] []) [] 0 []))
noncomputable def condition_isYes (c:Condition):Option Bool:=
 some (decide (c.Kind=1))
noncomputable def slices_Equal_Edge (s1_0:List Edge) (s2_1:List Edge):Option Bool:=
 if (!decide ((s1_0.length:Int)=(s2_1.length:Int)))=true then
 some false
 else
 thenR (forR (ρ:=Bool) (fun (i0:Int) (_:Unit)=>
 (idx s1_0 i0).bind fun x18=>
 (idx s2_1 i0).bind fun x22=>
 if (!decide (x18=x22))=true then
 some (.ret false)
 else
 some (.next ())) 0 (s1_0.length:Int) ()) (fun _=>
 some true) (fun v0=>some v0)
noncomputable def slices_Equal_Slot (s1_0:List Slot) (s2_1:List Slot):Option Bool:=
 if (!decide ((s1_0.length:Int)=(s2_1.length:Int)))=true then
 some false
 else
 thenR (forR (ρ:=Bool) (fun (i0:Int) (_:Unit)=>
 (idx s1_0 i0).bind fun x18=>
 (idx s2_1 i0).bind fun x22=>
 if (!decide (x18=x22))=true then
 some (.ret false)
 else
 some (.next ())) 0 (s1_0.length:Int) ()) (fun _=>
 some true) (fun v0=>some v0)
noncomputable def slices_Equal_Test (s1_0:List Test) (s2_1:List Test):Option Bool:=
 if (!decide ((s1_0.length:Int)=(s2_1.length:Int)))=true then
 some false
 else
 thenR (forR (ρ:=Bool) (fun (i0:Int) (_:Unit)=>
 (idx s1_0 i0).bind fun x18=>
 (idx s2_1 i0).bind fun x22=>
 if (!decide (x18=x22))=true then
 some (.ret false)
 else
 some (.next ())) 0 (s1_0.length:Int) ()) (fun _=>
 some true) (fun v0=>some v0)
noncomputable def slices_EqualFunc_Condition (s1_0:List Condition) (s2_1:List Condition) (eq:Condition->Condition->Option Bool):Option Bool:=
 if (!decide ((s1_0.length:Int)=(s2_1.length:Int)))=true then
 some false
 else
 thenR (forR (ρ:=Bool) (fun (i0:Int) (_:Unit)=>
 (idx s1_0 i0).bind fun x20=>
 (idx s2_1 i0).bind fun x24=>
 (eq x20 x24).bind fun x29=>
 if (!x29)=true then
 some (.ret false)
 else
 some (.next ())) 0 (s1_0.length:Int) ()) (fun _=>
 some true) (fun v0=>some v0)
noncomputable def condition_SameF:Nat->Condition->Condition->Option Bool
 | 0,_,_=>none
 | n+1,a,b=>
  (if (!decide (a.Kind=b.Kind))=true then some true else ((morphism_Same a.Map b.Map).bind fun x21=>
  some (!x21))).bind fun x23=>
  (if (x23||(!decide (a.Pattern.Vars=b.Pattern.Vars)))=true then some true else ((slices_Equal_int a.Pattern.Graph.Nodes b.Pattern.Graph.Nodes).bind fun x38=>
  some (!x38))).bind fun x40=>
  (if x40=true then some true else ((slices_Equal_Edge a.Pattern.Graph.Edges b.Pattern.Graph.Edges).bind fun x48=>
  some (!x48))).bind fun x50=>
  if x50=true then
  some false
  else
  (slices_Equal_Slot a.Pattern.Slots b.Pattern.Slots).bind fun x55=>
  (if x55=true then ((slices_Equal_Test a.Pattern.Tests b.Pattern.Tests).bind fun x61=>
  some (x61)) else some false).bind fun x62=>
  (if x62=true then ((slices_EqualFunc_Condition a.Kids b.Kids (condition_SameF n)).bind fun x68=>
  some (x68)) else some false).bind fun x69=>
  some x69
noncomputable def condition_Same (a:Condition) (b:Condition):Option Bool:=lim fun n=>condition_SameF n a b
noncomputable def condition_list_1 (x_0:Condition) (c0:Condition):Option Bool:=
 (condition_Same x_0 c0).bind fun x6=>
 some x6
noncomputable def condition_list (kind:Int) (kids:List Condition):Option Condition:=
 (condition_yes).bind fun x15=>
 (condition_no).bind fun x16=>
 if (decide (kind=4))=true then
 (condition_no).bind fun x19=>
 (condition_yes).bind fun x20=>
 (forA (fun (i0:Int) (s0:List Condition)=>
 (idx kids i0).bind fun x25=>
 if (decide (x25.Kind=kind))=true then
 (appC s0 x25.Kids).bind fun x34=>
 some x34
 else
 (appC s0 [x25]).bind fun x38=>
 some x38) 0 (kids.length:Int) []).bind fun s0=>
 thenR (forR (ρ:=Condition) (fun (i2:Int) (s2:Condition × List Condition)=>
 (idx s0 i2).bind fun x44=>
 (condition_isYes x44).bind fun x48=>
 if x48=true then
 some (.ret x20)
 else
 (condition_isNo x44).bind fun x52=>
 (if (!x52)=true then ((slices_ContainsFunc_Condition s2.2 (fun y0=>condition_list_1 y0 x44)).bind fun x57=>
 some (!x57)) else some false).bind fun x59=>
 if x59=true then
 (appC s2.2 [x44]).bind fun x63=>
 some (.next (s2.1,x63))
 else
 some (.next (s2.1,s2.2))) 0 (s0.length:Int) (Condition.mk 0 [] (Morphism.mk [] []) (Pattern.mk (Graph.mk [] []) [] 0 []),[])) (fun s2=>
 if (decide ((s2.2.length:Int)=0))=true then
 some x19
 else
 if (decide ((s2.2.length:Int)=1))=true then
 (idx s2.2 0).bind fun x73=>
 some x73
 else
 some (Condition.mk kind s2.2 (Morphism.mk [] []) (Pattern.mk (Graph.mk [] []) [] 0 []))) (fun v2=>some v2)
 else
 (forA (fun (i0:Int) (s0:List Condition)=>
 (idx kids i0).bind fun x25=>
 if (decide (x25.Kind=kind))=true then
 (appC s0 x25.Kids).bind fun x34=>
 some x34
 else
 (appC s0 [x25]).bind fun x38=>
 some x38) 0 (kids.length:Int) []).bind fun s0=>
 thenR (forR (ρ:=Condition) (fun (i2:Int) (s2:Condition × List Condition)=>
 (idx s0 i2).bind fun x44=>
 (condition_isNo x44).bind fun x48=>
 if x48=true then
 some (.ret x16)
 else
 (condition_isYes x44).bind fun x52=>
 (if (!x52)=true then ((slices_ContainsFunc_Condition s2.2 (fun y0=>condition_list_1 y0 x44)).bind fun x57=>
 some (!x57)) else some false).bind fun x59=>
 if x59=true then
 (appC s2.2 [x44]).bind fun x63=>
 some (.next (s2.1,x63))
 else
 some (.next (s2.1,s2.2))) 0 (s0.length:Int) (Condition.mk 0 [] (Morphism.mk [] []) (Pattern.mk (Graph.mk [] []) [] 0 []),[])) (fun s2=>
 if (decide ((s2.2.length:Int)=0))=true then
 some x15
 else
 if (decide ((s2.2.length:Int)=1))=true then
 (idx s2.2 0).bind fun x73=>
 some x73
 else
 some (Condition.mk kind s2.2 (Morphism.mk [] []) (Pattern.mk (Graph.mk [] []) [] 0 []))) (fun v2=>some v2)
noncomputable def slices_Clone_Edge (s_0:List Edge):Option (List Edge):=
 appC [] s_0
noncomputable def slices_Clone_Slot (s_0:List Slot):Option (List Slot):=
 appC [] s_0
noncomputable def slices_Clone_Test (s_0:List Test):Option (List Test):=
 appC [] s_0
noncomputable def condition_copied (p:Pattern):Option Pattern:=
 (slices_Clone_int p.Graph.Nodes).bind fun x6=>
 (slices_Clone_Edge p.Graph.Edges).bind fun x10=>
 (slices_Clone_Slot p.Slots).bind fun x14=>
 (slices_Clone_Test p.Tests).bind fun x19=>
 some (Pattern.mk (Graph.mk x6 x10) x14 p.Vars x19)
noncomputable def condition_simplifyF:Nat->Condition->Option Condition
 | 0,_=>none
 | n+1,c=>
  (forA (fun (i0:Int) (s0:List Condition)=>
  (idx c.Kids i0).bind fun x12=>
  (condition_simplifyF n x12).bind fun x16=>
  (appC s0 [x16]).bind fun x18=>
  some x18) 0 (c.Kids.length:Int) []).bind fun s0=>
  if (decide (c.Kind=2))=true then
  (idx s0 0).bind fun x25=>
  if (decide (x25.Kind=2))=true then
  (idx s0 0).bind fun x30=>
  (idx x30.Kids 0).bind fun x33=>
  some x33
  else
  some (Condition.mk 2 s0 (Morphism.mk [] []) (Pattern.mk (Graph.mk [] []) [] 0 []))
  else
  (if (decide (c.Kind=3))=true then
  some (decide (c.Kind=3))
  else
  some (decide (c.Kind=4))).bind fun w1=>
  if w1=true then
  (condition_list c.Kind s0).bind fun x43=>
  some x43
  else
  if (decide (c.Kind=5))=true then
  (idx s0 0).bind fun x47=>
  (condition_isNo x47).bind fun x49=>
  if x49=true then
  (condition_no).bind fun x50=>
  some x50
  else
  (slices_Clone_int c.Map.Nodes).bind fun x54=>
  (slices_Clone_int c.Map.Edges).bind fun x58=>
  (condition_copied c.Pattern).bind fun x64=>
  some (Condition.mk 5 s0 (Morphism.mk x54 x58) x64)
  else
  (condition_yes).bind fun x66=>
  some x66
noncomputable def condition_simplify (c:Condition):Option Condition:=lim fun n=>condition_simplifyF n c
noncomputable def condition_Simplify (c:Condition):Option (Condition × Int):=
 (condition_shape c).bind fun x6=>
 if (!decide (x6=0))=true then
 some (Condition.mk 0 [] (Morphism.mk [] []) (Pattern.mk (Graph.mk [] []) [] 0 []),x6)
 else
 (condition_simplify c).bind fun x12=>
 some (x12,0)
noncomputable def ref22_unused (c:Condition):Option Bool:=
 some (((decide ((w64 ((w64 ((w64 ((c.Map.Nodes.length:Int)+(c.Map.Edges.length:Int)))+(c.Pattern.Graph.Nodes.length:Int)))+(c.Pattern.Graph.Edges.length:Int)))=0))&&(decide ((w64 ((c.Pattern.Slots.length:Int)+(c.Pattern.Tests.length:Int)))=0)))&&(decide (c.Pattern.Vars=0)))
noncomputable def ref22_right (c:Condition):Option Bool:=
 if (decide (c.Kind=1))=true then
 (if (decide ((c.Kids.length:Int)=0))=true then ((ref22_unused c).bind fun x13=>
 some (x13)) else some false).bind fun x14=>
 some x14
 else
 if (decide (c.Kind=2))=true then
 (if (decide ((c.Kids.length:Int)=1))=true then ((ref22_unused c).bind fun x23=>
 some (x23)) else some false).bind fun x24=>
 some x24
 else
 (if (decide (c.Kind=3))=true then
 some (decide (c.Kind=3))
 else
 some (decide (c.Kind=4))).bind fun w1=>
 if w1=true then
 (if (decide (0<(c.Kids.length:Int)))=true then ((ref22_unused c).bind fun x34=>
 some (x34)) else some false).bind fun x35=>
 some x35
 else
 if (decide (c.Kind=5))=true then
 some (decide ((c.Kids.length:Int)=1))
 else
 some false
noncomputable def ref22_allRightF:Nat->Condition->Option Bool
 | 0,_=>none
 | n+1,c=>
  (ref22_right c).bind fun x5=>
  if (!x5)=true then
  some false
  else
  thenR (forR (ρ:=Bool) (fun (i0:Int) (_:Unit)=>
  (idx c.Kids i0).bind fun x17=>
  (ref22_allRightF n x17).bind fun x19=>
  if (!x19)=true then
  some (.ret false)
  else
  some (.next ())) 0 (c.Kids.length:Int) ()) (fun _=>
  some true) (fun v0=>some v0)
noncomputable def ref22_allRight (c:Condition):Option Bool:=lim fun n=>ref22_allRightF n c
noncomputable def ref22_MeasureF:Nat->Condition->Option (Int × Int)
 | 0,_=>none
 | n+1,c=>
  (forA (fun (i0:Int) (s0:Int × Int)=>
  (idx c.Kids i0).bind fun x20=>
  (ref22_MeasureF n x20).bind fun x22=>
  some (w64 (s0.1+x22.1),max s0.2 x22.2)) 0 (c.Kids.length:Int) (1,0)).bind fun s0=>
  (if (decide (c.Kind=5))=true then
  some (w64 (s0.2+1))
  else
  some s0.2).bind fun w1=>
  some (s0.1,w1)
noncomputable def ref22_Measure (c:Condition):Option (Int × Int):=lim fun n=>ref22_MeasureF n c
noncomputable def ref22_Shape (c:Condition):Option Int:=
 (ref22_allRight c).bind fun x6=>
 if (!x6)=true then
 some 1
 else
 (ref22_Measure c).bind fun x10=>
 if ((decide (12<x10.1))||(decide (3<x10.2)))=true then
 some 3
 else
 some 0
noncomputable def ref02_SameInts (a:List Int) (b:List Int):Option Bool:=
 if (!decide ((a.length:Int)=(b.length:Int)))=true then
 some false
 else
 thenR (forR (ρ:=Bool) (fun (i0:Int) (_:Unit)=>
 (idx a i0).bind fun x19=>
 (idx b i0).bind fun x23=>
 if (!decide (x19=x23))=true then
 some (.ret false)
 else
 some (.next ())) 0 (a.length:Int) ()) (fun _=>
 some true) (fun v0=>some v0)
noncomputable def ref06_Same (a:Morphism) (b:Morphism):Option Bool:=
 (ref02_SameInts a.Nodes b.Nodes).bind fun x9=>
 (if x9=true then ((ref02_SameInts a.Edges b.Edges).bind fun x15=>
 some (x15)) else some false).bind fun x16=>
 some x16
noncomputable def ref05_SameInts (a:List Int) (b:List Int):Option Bool:=
 if (!decide ((a.length:Int)=(b.length:Int)))=true then
 some false
 else
 thenR (forR (ρ:=Bool) (fun (i0:Int) (_:Unit)=>
 (idx a i0).bind fun x19=>
 (idx b i0).bind fun x23=>
 if (!decide (x19=x23))=true then
 some (.ret false)
 else
 some (.next ())) 0 (a.length:Int) ()) (fun _=>
 some true) (fun v0=>some v0)
noncomputable def ref05_Same (a:Graph) (b:Graph):Option Bool:=
 (ref05_SameInts a.Nodes b.Nodes).bind fun x10=>
 if ((!x10)||(!decide ((a.Edges.length:Int)=(b.Edges.length:Int))))=true then
 some false
 else
 thenR (forR (ρ:=Bool) (fun (i0:Int) (_:Unit)=>
 (idx a.Edges i0).bind fun x31=>
 (idx b.Edges i0).bind fun x36=>
 if (!decide (x31=x36))=true then
 some (.ret false)
 else
 some (.next ())) 0 (a.Edges.length:Int) ()) (fun _=>
 some true) (fun v0=>some v0)
noncomputable def ref21_Same (a:Pattern) (b:Pattern):Option Bool:=
 (ref05_Same a.Graph b.Graph).bind fun x11=>
 if ((((!x11)||(!decide (a.Vars=b.Vars)))||(!decide ((a.Slots.length:Int)=(b.Slots.length:Int))))||(!decide ((a.Tests.length:Int)=(b.Tests.length:Int))))=true then
 some false
 else
 thenR (forR (ρ:=Bool) (fun (i0:Int) (_:Unit)=>
 (idx a.Slots i0).bind fun x48=>
 (idx b.Slots i0).bind fun x53=>
 if (!decide (x48=x53))=true then
 some (.ret false)
 else
 some (.next ())) 0 (a.Slots.length:Int) ()) (fun _=>
 thenR (forR (ρ:=Bool) (fun (i2:Int) (_:Unit)=>
 (idx a.Tests i2).bind fun x66=>
 (idx b.Tests i2).bind fun x71=>
 if (!decide (x66=x71))=true then
 some (.ret false)
 else
 some (.next ())) 0 (a.Tests.length:Int) ()) (fun _=>
 some true) (fun v2=>some v2)) (fun v0=>some v0)
noncomputable def ref22_SameF:Nat->Condition->Condition->Option Bool
 | 0,_,_=>none
 | n+1,a,b=>
  (if ((!decide (a.Kind=b.Kind))||(!decide ((a.Kids.length:Int)=(b.Kids.length:Int))))=true then some true else ((ref06_Same a.Map b.Map).bind fun x25=>
  some (!x25))).bind fun x27=>
  (if x27=true then some true else ((ref21_Same a.Pattern b.Pattern).bind fun x33=>
  some (!x33))).bind fun x35=>
  if x35=true then
  some false
  else
  thenR (forR (ρ:=Bool) (fun (i0:Int) (_:Unit)=>
  (idx a.Kids i0).bind fun x46=>
  (idx b.Kids i0).bind fun x51=>
  (ref22_SameF n x46 x51).bind fun x53=>
  if (!x53)=true then
  some (.ret false)
  else
  some (.next ())) 0 (a.Kids.length:Int) ()) (fun _=>
  some true) (fun v0=>some v0)
noncomputable def ref22_Same (a:Condition) (b:Condition):Option Bool:=lim fun n=>ref22_SameF n a b
noncomputable def ref22_True :Option Condition:=
 some (Condition.mk 1 [] (Morphism.mk [] []) (Pattern.mk (Graph.mk [] []) [] 0 []))
noncomputable def ref22_False :Option Condition:=
 (ref22_True).bind fun x1=>
 some (Condition.mk 2 [x1] (Morphism.mk [] []) (Pattern.mk (Graph.mk [] []) [] 0 []))
noncomputable def ref22_connected (kind:Int) (kids:List Condition):Option Condition:=
 (ref22_True).bind fun x13=>
 (ref22_False).bind fun x14=>
 (if (decide (kind=4))=true then
 (ref22_False).bind fun x17=>
 (ref22_True).bind fun x18=>
 some (x17,x18)
 else
 some (x13,x14)).bind fun w1=>
 (forA (fun (i0:Int) (s0:List Condition)=>
 (idx kids i0).bind fun x27=>
 if (decide (x27.Kind=kind))=true then
 (idx kids i0).bind fun x35=>
 (appC s0 x35.Kids).bind fun x38=>
 some x38
 else
 (idx kids i0).bind fun x42=>
 (appC s0 [x42]).bind fun x45=>
 some x45) 0 (kids.length:Int) []).bind fun s0=>
 thenR (forR (ρ:=Condition) (fun (i2:Int) (s2:Condition × List Condition)=>
 (idx s0 i2).bind fun x54=>
 (ref22_Same x54 w1.2).bind fun x57=>
 if x57=true then
 some (.ret w1.2)
 else
 (idx s0 i2).bind fun x61=>
 (ref22_Same x61 w1.1).bind fun x64=>
 (forA (fun (i4:Int) (s4:Bool)=>
 (if s4=true then some true else ((idx s2.2 i4).bind fun x75=>
 (idx s0 i2).bind fun x79=>
 (ref22_Same x75 x79).bind fun x81=>
 some (x81))).bind fun x82=>
 some x82) 0 (s2.2.length:Int) x64).bind fun s4=>
 if (!s4)=true then
 (idx s0 i2).bind fun x88=>
 (appC s2.2 [x88]).bind fun x91=>
 some (.next (s2.1,x91))
 else
 some (.next (s2.1,s2.2))) 0 (s0.length:Int) (Condition.mk 0 [] (Morphism.mk [] []) (Pattern.mk (Graph.mk [] []) [] 0 []),[])) (fun s2=>
 if (decide ((s2.2.length:Int)=0))=true then
 some w1.1
 else
 if (decide ((s2.2.length:Int)=1))=true then
 (idx s2.2 0).bind fun x100=>
 some x100
 else
 some (Condition.mk kind s2.2 (Morphism.mk [] []) (Pattern.mk (Graph.mk [] []) [] 0 []))) (fun v2=>some v2)
noncomputable def ref22_simpleF:Nat->Condition->Option Condition
 | 0,_=>none
 | n+1,c=>
  thenR (whR (ρ:=Condition) (fun (s0:List Condition × Int)=>
  if (decide (s0.2<(c.Kids.length:Int)))=true then
  (idx c.Kids s0.2).bind fun x16=>
  (ref22_simpleF n x16).bind fun x18=>
  (appC s0.1 [x18]).bind fun x20=>
  some (.next (x20,w64 (s0.2+1)))
  else
  some (.brk (s0.1,s0.2))) ([],0)) (fun s0=>
  if ((decide (c.Kind=3))||(decide (c.Kind=4)))=true then
  (ref22_connected c.Kind s0.1).bind fun x32=>
  some x32
  else
  (if (decide (c.Kind=2))=true then ((idx s0.1 0).bind fun x38=>
  some (decide (x38.Kind=2))) else some false).bind fun x42=>
  if x42=true then
  (idx s0.1 0).bind fun x44=>
  (idx x44.Kids 0).bind fun x47=>
  some x47
  else
  (if (decide (c.Kind=5))=true then ((idx s0.1 0).bind fun x54=>
  (ref22_False).bind fun x56=>
  (ref22_Same x54 x56).bind fun x57=>
  some (x57)) else some false).bind fun x58=>
  if x58=true then
  (ref22_False).bind fun x59=>
  some x59
  else
  some (Condition.mk c.Kind s0.1 c.Map c.Pattern)) (fun v0=>some v0)
noncomputable def ref22_simple (c:Condition):Option Condition:=lim fun n=>ref22_simpleF n c
noncomputable def ref22_Simplify (c:Condition):Option (Condition × Int):=
 (ref22_Shape c).bind fun x6=>
 if (!decide (x6=0))=true then
 some (Condition.mk 0 [] (Morphism.mk [] []) (Pattern.mk (Graph.mk [] []) [] 0 []),x6)
 else
 (ref22_simple c).bind fun x12=>
 some (x12,0)
noncomputable def law22_ConditionSimplify (c:Condition) (d:Condition):Option Bool:=
 (law22_awake).bind fun x11=>
 (if (!x11)=true then some true else ((ref22_Few c).bind fun x15=>
 some (!x15))).bind fun x17=>
 (if x17=true then some true else ((ref22_Few d).bind fun x20=>
 some (!x20))).bind fun x22=>
 if x22=true then
 (law22_awake).bind fun x23=>
 some x23
 else
 (condition_Simplify c).bind fun x26=>
 (ref22_Simplify c).bind fun x31=>
 (if (!decide (x26.2=x31.2))=true then some true else ((ref22_Same x26.1 x31.1).bind fun x40=>
 some (!x40))).bind fun x42=>
 (if x42=true then some true else ((condition_Same c d).bind fun x46=>
 (ref22_Same c d).bind fun x49=>
 some (!(x46==x49)))).bind fun x51=>
 (if x51=true then some true else ((condition_Same c c).bind fun x55=>
 some (!x55))).bind fun x57=>
 if x57=true then
 some false
 else
 if (!decide (x26.2=0))=true then
 some true
 else
 (condition_Simplify x26.1).bind fun x62=>
 (if (decide (x62.2=0))=true then ((condition_Same x62.1 x26.1).bind fun x70=>
 some (x70)) else some false).bind fun x71=>
 some x71
end Go.Sf.Sc
