/- Part 8. -/
import Derived.Test.YtebiphhfkdbpfaaGreatM07
import Derived.Test.YtebiphhfkdbpfaaGreatRows
import Derived.OpenShut
set_option linter.unusedVariables false
set_option maxRecDepth 100000
set_option maxHeartbeats 40000000
namespace Go.Proofs.YtebiphhfkdbpfaaGreat
open Go.RowKit Pl Go.Wk Go.ChangeShapes Go.WideShapes
variable {cs:List Value}{fuel n:Nat}{H α:Type}
theorem Qrc(d:DataW H): 1<=Rows.uptoBulk d:=by
 cases d with
 | lit l=>cases l<;>simp[Rows.uptoBulk]
 | nil=>simp[Rows.uptoBulk]
 | ptr d=>simp[Rows.uptoBulk]
 | slice elems spare=>simp[Rows.uptoBulk]
 | agg parts=>simp[Rows.uptoBulk]
 | iface t d=>simp[Rows.uptoBulk]
 | map entries=>simp[Rows.uptoBulk]
 | held h=>simp[Rows.uptoBulk]
theorem Jtr{d:DataW H}{l:List (DataW H)}(h:d∈l): Rows.uptoBulk d<=Rows.uptoBulkAll l:=by
 induction l with
 | nil=>cases h
 | cons x r ih=>
  simp only[Rows.uptoBulkAll];grind
theorem Qrd(l:List (DataW H)): l.length<=Rows.uptoBulkAll l:=by
 induction l with
 | nil=>simp[Rows.uptoBulkAll]
 | cons x r ih=>have:=Qrc x;simp only[Rows.uptoBulkAll,List.length_cons];omega
section
variable {H:Type} {enc:TypeId×Value->H} {P:Program} {w:World} {base:Nat} {spare:Nat->Bool} {held:Bool} {B:Nat}
theorem Jmw{t e sz:Nat}{x:DataW H×List MemPlace}(X:α->List Value)(R:α->Prop)(ht:P.underlying t=some (.slice e))(hc:P.cellsOf e=sz)(hb:Rows.uptoBulk x.1<=B)(hX:∀(n:Nat) (cs':List Value) (y:DataW H×List MemPlace),DataW.trod enc P w base spare held n e cs'=some y->Rows.uptoBulk y.1<=B->∃ z:α,cs'=X z/\R z)(h:DataW.trod enc P w base spare held fuel t cs=some x): ∃(l:List α) (A:Option Addr) (cap:Nat),cs=[.slice A l.length cap]/\Rd w sz A l.length (l.flatMap X)/\(∀ z∈l,R z)/\l.length<=cap/\l.length<=B:=by
 rcases Go.Deep.open_slice ht h with⟨G,_⟩|⟨a,len,cap,m,n,D,Pl,G,_,hl,hm,hmm,hx,hel⟩
 .exact⟨[],none,0,G,Rd.nil,(λz O=>by cases O),Nat.le_refl _,Nat.zero_le _⟩
 subst G;subst hx;have a4:len<=m:=by grind
 have Z:Rows.uptoBulkAll ((List.range len).map D)<=B:=by
  simp only[Rows.uptoBulk]at hb;omega
 have a5:len<=B:=by
  have:=Qrd ((List.range len).map D);simp at this;omega
 have key:∀ k,k<=len->∃ l:List α,l.length=k/\(l.flatMap X).length=k*sz/\(∀ j u,(l.flatMap X)[j]?=some u->w.cell? (a.add j)=some u)/\∀ z∈l,R z:=by
  intro k;induction k with
  | zero=>intro _;exact⟨[],rfl,by simp,(λj u J=>by simp at J),(λz O=>by cases O)⟩
  | succ k ih=>
   intro hk;obtain⟨l,h1,h2,h3,h4⟩:=ih om;obtain⟨cs',F,U⟩:=hel k om;have a2:D k∈(List.range len).map D:=by grind
   obtain⟨z,rfl,O⟩:=hX n cs' _ U (nL (Jtr a2) Z);rw[hc]at F;obtain⟨_,a3,a1⟩:=World.cells?_some F;refine⟨l++[z],by simp[h1],?_,?_,?_⟩
   .grind
   .intro j u J;rw[List.flatMap_append]at J;simp only[List.flatMap_cons,List.flatMap_nil,List.append_nil]at J;rcases Nat.lt_or_ge j (k*sz) with hj|hj
    .grind
    rw[List.getElem?_append_right om,h2]at J;have hb:j-k*sz<sz:=by grind
    have:=a1 (j-k*sz) hb;rw[Jdv]at this;grind
   repeat grind
 obtain⟨l,h1,h2,h3,h4⟩:=key len (nR _);grind [rd_of]
theorem Qzj{t e:TypeId}{x:DataW H×List MemPlace}(ht:P.underlying t=some (.array 4 e))(hce:P.cellsOf e=1)(hct:P.cellsOf t=4)(h:DataW.trod enc P w base spare held fuel t cs=some x):
  ∃ c0 c1 c2 c3 y0 y1 y2 y3 n,cs=[c0,c1,c2,c3]/\DataW.trod enc P w base spare held n e [c0]=some y0/\DataW.trod enc P w base spare held n e [c1]=some y1/\DataW.trod enc P w base spare held n e [c2]=some y2/\DataW.trod enc P w base spare held n e [c3]=some y3:=by
 cases fuel with
 | zero=>simp[DataW.trod]at h
 | succ n=>
  unfold DataW.trod at h;rw[ht]at h;have u:List.range 4=[0,1,2,3]:=rfl;simp[u,hce,hct]at h;obtain⟨y,h⟩:=h;match cs,y with
  | [c0,c1,c2,c3],_=>
   simp at h;cases h0:DataW.trod enc P w base spare held n e [c0] with
   | none=>simp[h0]at h
   | some y0=>
    cases h1:DataW.trod enc P w base spare held n e [c1] with
    | none=>simp[h0,h1]at h
    | some y1=>
     cases h2:DataW.trod enc P w base spare held n e [c2] with
     | none=>simp[h0,h1,h2]at h
     | some y2=>
      cases h3:DataW.trod enc P w base spare held n e [c3] with
      | none=>simp[h0,h1,h2,h3]at h
      | some y3=>exact⟨c0,c1,c2,c3,y0,y1,y2,y3,n,rfl,h0,h1,h2,h3⟩
end
section
variable {H:Type} {enc:TypeId×Value->H} {w:World} {base b0:Nat} {spare:Nat->Bool} {held:Bool}
theorem Ku{n:Int}(h:0<=n/\n<=255): ∃ x:Nat,n=(x:Int)/\x<256:=⟨n.toNat,om,om⟩
theorem Qdd{y:DataW H×List MemPlace}(h:DataW.trod enc Tryz.prog w base spare held n 71 cs=some y): ∃ l:List Nat,cs=u8C l/\l.length=4/\∀ x∈l,x<256:=by
 obtain⟨c0,c1,c2,c3,y0,y1,y2,y3,n,rfl,f0,f1,f2,f3⟩:=Qzj Tryz.underlying71 kr kr h;obtain⟨a0,J,_,w0⟩:=DataW.trod_int Tryz.underlying5 f0;obtain⟨a1,G,_,w1⟩:=DataW.trod_int Tryz.underlying5 f1;obtain⟨a2,F,_,w2⟩:=DataW.trod_int Tryz.underlying5 f2;obtain⟨a3,D,_,w3⟩:=DataW.trod_int Tryz.underlying5 f3;simp at J G F D;subst J;subst G;subst F;subst D;obtain⟨x0,rfl,l0⟩:=Ku (bounds_u8 w0);obtain⟨Z,rfl,l1⟩:=Ku (bounds_u8 w1);obtain⟨U,rfl,l2⟩:=Ku (bounds_u8 w2);obtain⟨O,rfl,l3⟩:=Ku (bounds_u8 w3);exact⟨[x0,Z,U,O],rfl,rfl,λx u=>by
  simp only[List.mem_cons,List.not_mem_nil,or_false]at u;rcases u with rfl|rfl|rfl|rfl<;>assumption⟩
def Qqj(w:World)(cs:List Value)(a:LA): Prop:=LaC (λ_=>False) w cs a
theorem Qdg{y:DataW H×List MemPlace}(h:DataW.trod enc Tryz.prog w base spare held n 24 cs=some y)(hb:Rows.uptoBulk y.1<=1048576): ∃ a:LA,Qqj w cs a:=by
 obtain⟨u,m,_,hx,D,F,O⟩:=DataW.trod_struct Tryz.underlying24 h;have J:cs.length=3:=by rw[D];kernel_rfl
 match cs,J with
 | [c0,c1,c2],_=>
  have a2:u.length=3:=F;subst hx;have hB:∀ i (hi:i<u.length),Rows.uptoBulk u[i].1<=1048576:=λi hi=>by
   have U:u[i].1∈u.map (·.1):=by grind
   have h2:=Jtr U;simp only[Rows.uptoBulk]at hb;omega
  have f0:DataW.trod enc Tryz.prog w base spare held m 5 (([c0,c1,c2].drop 0).take (Tryz.prog.cellsOf 5))=u[0]?:=O 0 _ rfl;have f1:DataW.trod enc Tryz.prog w base spare held m 22 (([c0,c1,c2].drop 1).take (Tryz.prog.cellsOf 22))=u[1]?:=O 1 _ rfl;have f2:DataW.trod enc Tryz.prog w base spare held m 5 (([c0,c1,c2].drop 2).take (Tryz.prog.cellsOf 5))=u[2]?:=O 2 _ rfl;rw[show Tryz.prog.cellsOf 5=1 by kernel_rfl,List.getElem?_eq_getElem om]at f0 f2;rw[show Tryz.prog.cellsOf 22=1 by kernel_rfl,List.getElem?_eq_getElem om]at f1;obtain⟨n0,e0,_,w0⟩:=DataW.trod_int Tryz.underlying5 f0;obtain⟨n2,e2,_,w2⟩:=DataW.trod_int Tryz.underlying5 f2;obtain⟨l,A,a1,e1,g1,Z,g3,g4⟩:=Jmw (sz:=4) u8C (λl=>l.length=4/\∀ x∈l,x<256) Tryz.underlying22 kr (hB 1 om) (λn a3 y hy _=>by obtain⟨l,U,h2⟩:=Qdd hy;exact⟨l,U,h2⟩) f1;simp at e0 e1 e2;subst e0;subst e1;subst e2;obtain⟨x0,rfl,l0⟩:=Ku (bounds_u8 w0)
  obtain⟨x2,rfl,l2⟩:=Ku (bounds_u8 w2);have ef:Jd (l.map λr=>(u8C r,r))=l.flatMap u8C:=by simp only[Jd,List.flatMap_map]
  have em:(l.map λr=>(u8C r,r)).map (·.2)=l:=by rw[List.map_map];exact List.map_id l
  have el:(l.map λr=>(u8C r,r)).length=l.length:=by simp
  have hG:=Jqv (sz:=4) (Φ:=U8R) (ps:=l.map λr=>(u8C r,r)) (c:=a1) (A:=A) (w:=w) (by rw[el,ef];exact g1) (by rw[el];exact g3) (by rw[el];omega) (λp hp=>by
   obtain⟨r,G,rfl⟩:=List.mem_map.1 hp;exact⟨by simp[u8C,(Z r G).1],rfl,(Z r G).1,(Z r G).2⟩)
  rw[em,el]at hG;exact⟨⟨x0,l,x2⟩,l0,l2,_,rfl,hG⟩
def Qqh(w:World)(v:Value)(l:List LA): Prop:=GX 3 LaC (λ_=>False) w v l/\l.length<=1048576
theorem Qdf{v:Value}{d:DataW H}{p:List MemPlace}(hv:Value.okWide Tryz.prog w .any b0 31 v)(h:DataW.Trod enc Tryz.prog w base spare held 31 v d p)(hb:Rows.uptoBulk d<=1048576): ∃ l,Qqh w v l:=by
 obtain⟨a,len,a1,rfl⟩:=okWide_slice Tryz.underlying31 hv;obtain⟨G,U⟩:=h;obtain⟨l,A,J,u,g1,g2,Z,g4⟩:=Jmw (sz:=3) (λp:List Value×LA=>p.1) (λp=>p.1.length=3/\Qqj w p.1 p.2) Tryz.underlying31 kr hb (λn D y O hb=>by
  obtain⟨a,F⟩:=Qdg O om;refine⟨(D,a),rfl,?_,F⟩;obtain⟨_,_,v,e,_⟩:=F;rw[e];rfl) U
 injection u with u _
 injection u with u e2 e3
 subst u;subst e2;subst e3;exact⟨l.map (·.2),Jqv (sz:=3) (Φ:=LaC) g1 Z om g2,by rw[List.length_map];omega⟩
end
open Go.RowKit Pl Go.Wk Go.ChangeShapes Go.WideShapes
section
variable {H:Type} {enc:TypeId×Value->H} {w:World} {base b0:Nat} {spare:Nat->Bool} {held:Bool}
theorem Qzk{P:Program}{t e:TypeId}{fuel:Nat}{cs:List Value}{x:DataW H×List MemPlace}(ht:P.underlying t=some (.array 2 e))(hce:P.cellsOf e=1)(hct:P.cellsOf t=2)(h:DataW.trod enc P w base spare held fuel t cs=some x):
  ∃ c0 c1 y0 y1 n,cs=[c0,c1]/\DataW.trod enc P w base spare held n e [c0]=some y0/\DataW.trod enc P w base spare held n e [c1]=some y1:=by
 cases fuel with
 | zero=>simp[DataW.trod]at h
 | succ n=>
  unfold DataW.trod at h;rw[ht]at h;have u:List.range 2=[0,1]:=rfl;simp[u,hce,hct]at h;obtain⟨y,h⟩:=h;match cs,y with
  | [c0,c1],_=>
   simp at h;cases h0:DataW.trod enc P w base spare held n e [c0] with
   | none=>simp[h0]at h
   | some y0=>
    cases h1:DataW.trod enc P w base spare held n e [c1] with
    | none=>simp[h0,h1]at h
    | some y1=>exact⟨c0,c1,y0,y1,n,rfl,h0,h1⟩
theorem Qdc{v:Value}{d:DataW H}{p:List MemPlace}(hv:Value.okWide Tryz.prog w .any b0 59 v)(h:DataW.Trod enc Tryz.prog w base spare held 59 v d p): ∃ a b:Nat,v=.agg #[.int .u32 (a:Int),.int .u32 (b:Int)]/\a<4294967296/\b<4294967296:=by
 simp only[Value.okWide,Tryz.underlying59]at hv;obtain⟨⟨l⟩,rfl,_,_⟩:=hv;obtain⟨u,h⟩:=h;obtain⟨O,J,y0,Z,n,e,F,f1⟩:=Qzk Tryz.underlying59 kr kr h;obtain⟨a0,D,_,w0⟩:=DataW.trod_int Tryz.underlying25 F;obtain⟨U,y,_,w1⟩:=DataW.trod_int Tryz.underlying25 f1;have b0:=bounds_u32 w0;have b1:=bounds_u32 w1;have G:l=[O,J]:=e;simp at D y;subst G;subst D;subst y;refine⟨a0.toNat,U.toNat,?_,om,om⟩;rw[Int.toNat_of_nonneg b0.1,Int.toNat_of_nonneg b1.1]
end
open Go.RowKit Pl Go.Wk
theorem Qsf{w:World}{n:Int}{v z:Value}(hn:0<=n/\n<=255)(h:∃ l,Qqh w v l)(hz:∃ a b:Nat,z=.agg #[.int .u32 (a:Int),.int .u32 (b:Int)]/\a<4294967296/\b<4294967296): Ret Tryz.prog 5 [.int .u8 n,v,z] w λu w'=>u=.bool true/\Ext w w':=by
 obtain⟨l,D,y⟩:=h;obtain⟨a,b,rfl,G,F⟩:=hz;obtain⟨m,rfl⟩:∃ s:Nat,n=(s:Int):=⟨n.toNat,om⟩;exact Qsg D y om G F
end Go.Proofs.YtebiphhfkdbpfaaGreat
